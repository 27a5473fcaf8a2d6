/- Models of functions with their proofs, by program (gen/xt.py), and plain laws, in one text. Conditions: none. -/
import Derived.Test.YtfbkplemadmbfaaGreatDoorZSJu2
import Derived.Test.YtfbkplemadmbfaaGreatDoorZSJu3
import Derived.Test.YtfbkplemadmbfaaGreatDoorZSJu6
import Derived.Test.YtfbkplemadmbfaaGreatDoorZSJu1
import Derived.OpenShut
import Derived.LaidLaws
import Derived.LaidHandle
import Derived.Lay
import Derived.MakeChecks
set_option linter.unusedVariables false
set_option linter.unusedSimpArgs false
set_option maxHeartbeats 4000000
set_option maxRecDepth 20000
section
namespace Go.Proofs.YtfbkplemadmbfaaGreatDoor
open Go.Sx
def ref23_Named_k1  (a4:List (Int)):Option (List (Int)):=
 some (a4)
def ref23_Named_k2 (a10:List (Int)×Int) (ag9:(List (Int)×Int)->Option (List (Int))) (a15:Int):Option (List (Int)):=
 ck ((List.length a10.1:Int)+(List.length ([a15]):Int)<=1099511627) (ag9 ((a10.1++[a15]),(wI .i64 (a10.2+(1:Int)))))
def ref23_Named_s1 (p0:List (Int)×(List (List (Int×Int)))) (p1:List (List (Int))) (p2:Int) (a10:List (Int)×Int) (ag9:(List (Int)×Int)->Option (List (Int))):Option (List (Int)):=
 if a10.2<(List.length p1:Int)then(ck (0<=a10.2∧a10.2<(List.length p1:Int)) (ck (0<=p2∧p2<(List.length (at' p1 a10.2):Int)) (if(0:Int)<=(at' (at' p1 a10.2) p2)then(ck (0<=a10.2∧a10.2<(List.length p0.2:Int)) (ck (0<=a10.2∧a10.2<(List.length p1:Int)) (ck (0<=p2∧p2<(List.length (at' p1 a10.2):Int)) (ck (0<=(at' (at' p1 a10.2) p2)∧(at' (at' p1 a10.2) p2)<(List.length (at' p0.2 a10.2):Int)) (ref23_Named_k2 a10 ag9 ((at' (at' p0.2 a10.2) (at' (at' p1 a10.2) p2)).1))))))else(ref23_Named_k2 a10 ag9 (-1:Int)))))else(ref23_Named_k1  (a10.1))
def m_ref23_Named (fuel:Nat) (p0:List (Int)×(List (List (Int×Int)))) (p1:List (List (Int))) (p2:Int):Option (List (Int)):=
 iter (ref23_Named_s1 p0 p1 p2) fuel (([]:List Int),(0:Int))
theorem body59:HasBody Tryz.prog 59:=Tryz.call59
theorem t_ref23_Named (fuel:Nat) {p0:List (Int)×(List (List (Int×Int)))} {p1:List (List (Int))} {p2:Int} (v0:Value)  (v1:Value)  (z2:List (Value×List (Int×Int)))  (v3:Value)  (z4:List (Value×List (Int))) (r:List (Int)) (h:m_ref23_Named fuel p0 p1 p2=some r):
  Meets Tryz.prog 59 #[Value.agg #[v0,v1],v3,Value.int .i64 (p2)] [Sl RI64 v0 p0.1,S2 RI64I64p v1 z2 p0.2,S2 RI64 v3 z4 p1] (fun x:Value=>x) (fun x l=>Ar EI64 x r::l) (fun _ l=>l):=by
 refine Meets.of (vs:=[Value.agg #[v0,v1],v3,Value.int .i64 (p2)]) Tryz.func59 rfl Tryz.ntmps59 rfl fun c=> ?_
 unfold m_ref23_Named at h
 refine J.seq<|J.region<|J.loud (Loud.box (cs:=[v0,v1]) rfl rfl) rfl fun b1=>J.quiet (Y.assign rfl) rfl<|J.done<|J.thenN<|J.seq<|J.region<|J.quiet (Y.assign rfl) rfl<|J.done<|J.thenN<|J.seq<|J.midI (A:=List (Int)) (B:=Value) (fun a4=>ref23_Named_k1  a4=some r) (fun a4 b5=>[(7,b5)]) (fun a4 b5=>[Ar EI64 b5 a4]) (fun a4 b5=>[Sl RI64 v0 p0.1,S2 RI64I64p v1 z2 p0.2,S2 RI64 v3 z4 p1]) ?_ ?_
 ·refine J.seq<|J.region<|J.quiet (Y.assign rfl) rfl<|J.done<|J.thenN<|J.block<|J.stp (Stp.nilAr EI64)<|J.loopI (A:=List (Int)×Int) (B:=Value) (ref23_Named_s1 p0 p1 p2) (fun a10 b11=>[(1,v3),(2,Value.int .i64 (p2)),(3,Value.pointer (some ⟨b1,0,none⟩)),(7,b11),(8,Value.int .i64 (a10.2))]) (fun a10 b11=>[Blk b1 [v0,v1] 25,Ar EI64 b11 a10.1]) (fun a10 b11=>[Sl RI64 v0 p0.1,S2 RI64I64p v1 z2 p0.2,S2 RI64 v3 z4 p1]) (([]:List Int),(0:Int)) (Value.slice none 0 0) h SF (SubM.cons 1 rfl (SubM.cons 0 rfl (SubM.nil))) (LentAll.refl _ _) ?_
  clear h
  intro k12 a10 b11 h
  unfold ref23_Named_s1 at h
  refine J.seq<|J.seq<|J.region<|J.quiet (Y.move rfl) rfl<|J.quiet (Y.move rfl) rfl<|J.quiet (Y.lenN rfl (Lent.fact 2 rfl) rfl) rfl<|J.quiet (Y.lss rfl rfl) rfl<|J.done<|J.thenN ?_
  refine J.condD (by exact rfl) (fun hp13=> ?_) (fun hp13=> ?_)
  ·have h:=ifP hp13 h
   refine J.skip<|J.thenN<|J.seq<|J.block<|J.seq<|J.region<|J.quiet (Y.assign rfl) rfl<|J.done<|J.thenN<|J.seq<|J.midI (A:=Int) (B:=Unit) (fun a15=>ref23_Named_k2 a10 (iter (ref23_Named_s1 p0 p1 p2) k12) a15=some r) (fun a15 b16=>[(1,v3),(2,Value.int .i64 (p2)),(3,Value.pointer (some ⟨b1,0,none⟩)),(7,b11),(8,Value.int .i64 (a10.2)),(9,Value.int .i64 (a15))]) (fun a15 b16=>[Blk b1 [v0,v1] 25,Ar EI64 b11 a10.1]) (fun a15 b16=>[Sl RI64 v0 p0.1,S2 RI64I64p v1 z2 p0.2,S2 RI64 v3 z4 p1]) ?_ ?_
   ·refine J.seq<|J.region<|J.quiet (Y.move rfl) rfl<|J.quiet (Y.move rfl) rfl ?_
    have h:=ck_some h;obtain⟨hc20,h⟩:=h
    refine J.quiet (Y.indexN rfl rfl (Lent.fact 2 rfl) rfl rfl hc20) rfl<|J.quiet (Y.loadRow rfl (Lent.fact 2 rfl) rfl rfl hc20) rfl<|J.quiet (Y.move rfl) rfl ?_
    have h:=ck_some h;obtain⟨hc21,h⟩:=h
    refine J.quiet (Y.indexS rfl rfl (Lent.el (Lent.fact 2 rfl) hc20.1 hc20.2) rfl rfl hc21) rfl<|J.quiet (Y.loadS0 rfl (Lent.el (Lent.fact 2 rfl) hc20.1 hc20.2) rfl rfl rfl RI64c0 hc21) rfl<|J.quiet (Y.geq rfl rfl) rfl<|J.done<|J.thenN ?_
    refine J.condD (by exact rfl) (fun hp22=> ?_) (fun hp22=> ?_)
    ·have h:=ifP hp22 h
     refine JR.start [0,1,0,7,15,0,0,96,224,0,992,2016,4095,8191,16383,32767] 12 mixedOrders (by decide +kernel) ?_
     refine JR.open (by exact rfl) ?_
     refine JR.qt rfl (SubM.nil) (SubL.nil) (Y.fieldB rfl rfl rfl rfl rfl) HistOk.z<|JR.qt rfl (SubM.cons 0 rfl (SubM.nil)) (SubL.nil) (Y.loadB 0 rfl rfl rfl rfl rfl) HistOk.z<|JR.qt rfl (SubM.nil) (SubL.nil) (Y.move rfl) HistOk.z ?_
     have h:=ck_some h;obtain⟨hc23,h⟩:=h
     refine JR.qt rfl (SubM.nil) (SubL.cons (List.mem_of_getElem? (i:=1) rfl) (SubL.nil)) (Y.indexN rfl rfl (Lent.fact 0 rfl) rfl rfl hc23) HistOk.z<|JR.qt rfl (SubM.nil) (SubL.cons (List.mem_of_getElem? (i:=1) rfl) (SubL.nil)) (Y.loadRow rfl (Lent.fact 0 rfl) rfl rfl hc23) HistOk.z<|JR.qt rfl (SubM.nil) (SubL.nil) (Y.move rfl) HistOk.z<|JR.qt rfl (SubM.nil) (SubL.nil) (Y.move rfl) HistOk.z ?_
     have h:=ck_some h;obtain⟨hc24,h⟩:=h
     refine JR.qt rfl (SubM.nil) (SubL.cons (List.mem_of_getElem? (i:=2) rfl) (SubL.nil)) (Y.indexN rfl rfl (Lent.fact 0 rfl) rfl rfl hc24) HistOk.z<|JR.qt rfl (SubM.nil) (SubL.cons (List.mem_of_getElem? (i:=2) rfl) (SubL.nil)) (Y.loadRow rfl (Lent.fact 0 rfl) rfl rfl hc24) HistOk.z<|JR.qt rfl (SubM.nil) (SubL.nil) (Y.move rfl) HistOk.z ?_
     have h:=ck_some h;obtain⟨hc25,h⟩:=h
     refine JR.qt rfl (SubM.nil) (SubL.cons (List.mem_of_getElem? (i:=2) rfl) (SubL.nil)) (Y.indexS rfl rfl (Lent.el (Lent.fact 0 rfl) hc24.1 hc24.2) rfl rfl hc25) HistOk.z<|JR.qt rfl (SubM.nil) (SubL.cons (List.mem_of_getElem? (i:=2) rfl) (SubL.nil)) (Y.loadS0 rfl (Lent.el (Lent.fact 0 rfl) hc24.1 hc24.2) rfl rfl rfl RI64c0 hc25) HistOk.z<|JR.tailD 12 rfl rfl ?_
     have h:=ck_some h;obtain⟨hc26,h⟩:=h
     refine J.quiet (Y.indexS rfl rfl (Lent.el (Lent.fact 1 rfl) hc23.1 hc23.2) rfl rfl hc26) rfl<|J.quiet (Y.fieldEl rfl rfl rfl rfl rfl) rfl<|J.quiet (Y.loadS rfl (Lent.el (Lent.fact 1 rfl) hc23.1 hc23.2) rfl rfl rfl RI64I64pc0 hc26) rfl<|J.quiet (Y.assign rfl) rfl<|J.done<|J.thenN ?_
     exact J.meetI ((at' (at' p0.2 a10.2) (at' (at' p1 a10.2) p2)).1) (()) h SF (SubM.refl _) (LentAll.refl _ _)
    ·have h:=ifN hp22 h
     refine J.skip<|J.thenN ?_
     exact J.meetI (-1:Int) (()) h SF (SubM.refl _) (LentAll.refl _ _)
   ·clear h
    intro a15 b16 h
    unfold ref23_Named_k2 at h
    refine J.region<|J.quiet (Y.move rfl) rfl<|J.quiet (Y.move rfl) rfl<|J.loud (Loud.buildS (e:=EI64) ([a15]) [(0,Value.int .i64 (a15))] rfl rfl rfl rfl (fill_1_1 (Value.int .i64 (a15)) rfl) rfl rfl rfl) rfl fun u17=> ?_
    have h:=ck_some h;obtain⟨hc19,h⟩:=h
    refine J.loud (Loud.appendL 2 FI64 rfl rfl rfl (Lent.ar (Lent.res 0 rfl) FI64) rfl rfl rfl rfl hc19 rfl) rfl fun u18=>J.quiet (Y.assign rfl) rfl<|J.done<|J.inN<|J.thenN<|J.region<|J.quiet (Y.move rfl) rfl<|J.quiet (Y.addW rfl rfl) rfl<|J.quiet (Y.assign rfl) rfl<|J.done<|J.thenN ?_
    exact J.againI ((a10.1++[a15]),(wI .i64 (a10.2+(1:Int)))) (u18) h SF (SubM.cons 1 rfl (SubM.cons 1 rfl (SubM.nil))) (LentAll.refl _ _)
  ·have h:=ifN hp13 h
   refine J.exit<|J.thenX<|J.thenX<|J.inX<|J.thenN ?_
   exact J.meetI (a10.1) (b11) h SF (SubM.cons 1 rfl (SubM.nil)) (LentAll.refl _ _)
 ·clear h
  intro a4 b5 h
  unfold ref23_Named_k1 at h
  refine J.seq<|J.region<|J.quiet (Y.move rfl) rfl<|J.quiet (Y.assign rfl) rfl<|J.done<|J.thenN<|J.ret ?_
  obtain rfl:=Option.some.inj h
  exact J.retG1 (b5) rfl rfl (RV.tmp rfl) (SubM.refl _) LentAll.nil
end Go.Proofs.YtfbkplemadmbfaaGreatDoor
end
section
namespace Go.Proofs.YtfbkplemadmbfaaGreatDoor
open Go.Sx
def ref35_Ordered_k1  (a9:Unit):Option (Bool):=
 some (true)
def ref35_Ordered_k2 (a13:Int) (ag12:(Int)->Option (Bool)) (a19:Bool):Option (Bool):=
 if a19=true then(some (false))else(ag12 (wI .i64 (a13+(1:Int))))
def ref35_Ordered_s1 (p1:List (List (Int))) (r6:List (Int)) (a13:Int) (ag12:(Int)->Option (Bool)):Option (Bool):=
 if a13<(List.length p1:Int)then(ck (0<=a13∧a13<(List.length r6:Int)) (ck (0<=(at' r6 a13)∧(at' r6 a13)<(List.length p1:Int)) (ck (0<=(2:Int)∧(2:Int)<(List.length (at' p1 (at' r6 a13)):Int)) (if(at' (at' p1 (at' r6 a13)) (2:Int))=(0:Int)then(ck (0<=a13∧a13<(List.length p1:Int)) (ck (0<=(2:Int)∧(2:Int)<(List.length (at' p1 a13):Int)) (if(at' (at' p1 a13) (2:Int))≠(0:Int)then(ref35_Ordered_k2 a13 ag12 (true))else(ck (0<=a13∧a13<(List.length p1:Int)) (ck (0<=(3:Int)∧(3:Int)<(List.length (at' p1 a13):Int)) (ck (0<=(at' r6 a13)∧(at' r6 a13)<(List.length p1:Int)) (ck (0<=(3:Int)∧(3:Int)<(List.length (at' p1 (at' r6 a13)):Int)) (ref35_Ordered_k2 a13 ag12 (decide ((at' (at' p1 a13) (3:Int))≠(at' (at' p1 (at' r6 a13)) (3:Int))))))))))))else(ref35_Ordered_k2 a13 ag12 (false))))))else(ref35_Ordered_k1  (()))
def m_ref35_Ordered (fuel:Nat) (p0:List (Int)×(List (List (Int×Int)))) (p1:List (List (Int))):Option (Bool):=
 Option.bind (m_ref23_Tree fuel ((p0.1,p0.2)) p1 (0:Int) (0:Int) (1:Int)) fun r2=>(if(!r2)=true then(some (false))else(Option.bind (m_ref23_Named fuel ((p0.1,p0.2)) p1 (1:Int)) fun r6=>(iter (ref35_Ordered_s1 p1 r6) fuel (1:Int))))
theorem body58:HasBody Tryz.prog 58:=Tryz.call58
theorem t_ref35_Ordered (fuel:Nat) {p0:List (Int)×(List (List (Int×Int)))} {p1:List (List (Int))} (v0:Value)  (v1:Value)  (z2:List (Value×List (Int×Int)))  (v3:Value)  (z4:List (Value×List (Int))) (r:Bool) (h:m_ref35_Ordered fuel p0 p1=some r):
  Meets Tryz.prog 58 #[Value.agg #[v0,v1],v3] [Sl RI64 v0 p0.1,S2 RI64I64p v1 z2 p0.2,S2 RI64 v3 z4 p1] (fun x:Unit=>Value.bool (r)) (fun x l=>l) (fun _ l=>l):=by
 refine Meets.of (vs:=[Value.agg #[v0,v1],v3]) Tryz.func58 rfl Tryz.ntmps58 rfl fun c=> ?_
 unfold m_ref35_Ordered at h
 refine J.seq<|J.region<|J.loud (Loud.box (cs:=[v0,v1]) rfl rfl) rfl fun b1=>J.quiet (Y.assign rfl) rfl<|J.done<|J.thenN<|J.seq<|J.seq<|J.region<|J.quiet (Y.loadBAll 0 rfl rfl rfl rfl) rfl<|J.quiet (Y.move rfl) rfl ?_
 have h:=bnd h;obtain⟨r2,hr3,h⟩:=h
 refine J.loud (Loud.callL body47 (t_ref23_Tree fuel v0 v1 z2 v3 z4 r2 hr3) rfl (LentAll.cons (Lent.fact 0 rfl) (LentAll.cons (Lent.fact 1 rfl) (LentAll.cons (Lent.fact 2 rfl) .nil))) (fun _ _=>rfl)) rfl fun x4=>J.quiet (Y.not rfl) rfl<|J.done<|J.thenN ?_
 refine J.cond (by exact rfl) (fun hp5=> ?_) (fun hp5=> ?_)
 ·have h:=ifP hp5 h
  refine J.seq<|J.region<|J.quiet (Y.assign rfl) rfl<|J.done<|J.thenN<|J.ret<|J.thenR ?_
  obtain rfl:=Option.some.inj h
  exact J.retG1 (()) rfl rfl (RV.tmp rfl) (SubM.nil) LentAll.nil
 ·have h:=ifBN hp5 h
  refine J.skip<|J.thenN<|J.seq<|J.region<|J.quiet (Y.loadBAll 0 rfl rfl rfl rfl) rfl<|J.quiet (Y.move rfl) rfl ?_
  have h:=bnd h;obtain⟨r6,hr7,h⟩:=h
  refine J.loud (Loud.callL body59 (t_ref23_Named fuel v0 v1 z2 v3 z4 r6 hr7) rfl (LentAll.cons (Lent.fact 0 rfl) (LentAll.cons (Lent.fact 1 rfl) (LentAll.cons (Lent.fact 2 rfl) .nil))) (fun _ _=>rfl)) rfl fun x8=>J.quiet (Y.assign rfl) rfl<|J.done<|J.thenN<|J.seq<|J.midI (A:=Unit) (B:=Unit) (fun a9=>ref35_Ordered_k1  a9=some r) (fun a9 b10=>[]) (fun a9 b10=>[]) (fun a9 b10=>[Sl RI64 v0 p0.1,S2 RI64I64p v1 z2 p0.2,S2 RI64 v3 z4 p1]) ?_ ?_
  ·refine J.seq<|J.region<|J.quiet (Y.assign rfl) rfl<|J.done<|J.thenN<|J.block<|J.loopI (A:=Int) (B:=Unit) (ref35_Ordered_s1 p1 r6) (fun a13 b14=>[(1,v3),(5,x8),(6,Value.int .i64 (a13))]) (fun a13 b14=>[Ar EI64 x8 r6]) (fun a13 b14=>[Sl RI64 v0 p0.1,S2 RI64I64p v1 z2 p0.2,S2 RI64 v3 z4 p1]) (1:Int) (()) h SF (SubM.cons 0 rfl (SubM.nil)) (LentAll.refl _ _) ?_
   clear h
   intro k15 a13 b14 h
   unfold ref35_Ordered_s1 at h
   refine J.seq<|J.seq<|J.region<|J.quiet (Y.move rfl) rfl<|J.quiet (Y.move rfl) rfl<|J.quiet (Y.lenN rfl (Lent.fact 2 rfl) rfl) rfl<|J.quiet (Y.lss rfl rfl) rfl<|J.done<|J.thenN ?_
   refine J.condD (by exact rfl) (fun hp16=> ?_) (fun hp16=> ?_)
   ·have h:=ifP hp16 h
    refine J.skip<|J.thenN<|J.seq<|J.block<|J.seq<|J.region<|J.quiet (Y.move rfl) rfl<|J.quiet (Y.move rfl) rfl ?_
    have h:=ck_some h;obtain⟨hc17,h⟩:=h
    refine J.quiet (Y.indexS rfl rfl (Lent.ar (Lent.res 0 rfl) FI64) rfl rfl hc17) rfl<|J.quiet (Y.loadS0 rfl (Lent.ar (Lent.res 0 rfl) FI64) rfl rfl rfl RI64c0 hc17) rfl<|J.quiet (Y.assign rfl) rfl<|J.done<|J.thenN<|J.seq<|J.midI (A:=Bool) (B:=Unit) (fun a19=>ref35_Ordered_k2 a13 (iter (ref35_Ordered_s1 p1 r6) k15) a19=some r) (fun a19 b20=>[(1,v3),(5,x8),(6,Value.int .i64 (a13)),(55,Value.bool (a19))]) (fun a19 b20=>[Ar EI64 x8 r6]) (fun a19 b20=>[Sl RI64 v0 p0.1,S2 RI64I64p v1 z2 p0.2,S2 RI64 v3 z4 p1]) ?_ ?_
    ·refine JR.start [0,0,3,7,15,31,63,127,255,255,1023,2047,4095,8191,16383,32767,65535,65535,262143,524287,1048575,2097151,65535,65535,12648447,29425663,62980095,130088959,268435455,536870911,1073741823] 28 mixedOrders (by decide +kernel) ?_
     refine JR.open (by exact rfl) ?_
     refine JR.qt rfl (SubM.nil) (SubL.nil) (Y.move rfl) HistOk.z<|JR.qt rfl (SubM.nil) (SubL.nil) (Y.move rfl) HistOk.z ?_
     have h:=ck_some h;obtain⟨hc22,h⟩:=h
     refine JR.qt rfl (SubM.nil) (SubL.cons (List.mem_of_getElem? (i:=2) rfl) (SubL.nil)) (Y.indexN rfl rfl (Lent.fact 0 rfl) rfl rfl hc22) HistOk.z<|JR.qt rfl (SubM.nil) (SubL.cons (List.mem_of_getElem? (i:=2) rfl) (SubL.nil)) (Y.loadRow rfl (Lent.fact 0 rfl) rfl rfl hc22) HistOk.z ?_
     have h:=ck_some h;obtain⟨hc23,h⟩:=h
     refine JR.qt rfl (SubM.nil) (SubL.cons (List.mem_of_getElem? (i:=2) rfl) (SubL.nil)) (Y.indexS rfl rfl (Lent.el (Lent.fact 0 rfl) hc22.1 hc22.2) rfl rfl hc23) HistOk.z<|JR.qt rfl (SubM.nil) (SubL.cons (List.mem_of_getElem? (i:=2) rfl) (SubL.nil)) (Y.loadS0 rfl (Lent.el (Lent.fact 0 rfl) hc22.1 hc22.2) rfl rfl rfl RI64c0 hc23) HistOk.z<|JR.qt rfl (SubM.nil) (SubL.nil) (Y.eql rfl rfl) HistOk.z<|JR.qt rfl (SubM.nil) (SubL.nil) (Y.move rfl) HistOk.z ?_
     refine JR.guardD (by exact rfl) (by exact rfl) (by exact rfl) (fun hp24=> ?_) (fun hp24=> ?_)
     ·have h:=ifP hp24 h
      refine JR.qtG rfl (SubM.nil) (SubL.nil) (Y.move rfl) HistOk.z<|JR.qtG rfl (SubM.nil) (SubL.nil) (Y.move rfl) HistOk.z ?_
      have h:=ck_some h;obtain⟨hc25,h⟩:=h
      refine JR.qtG rfl (SubM.nil) (SubL.cons (List.mem_of_getElem? (i:=2) rfl) (SubL.nil)) (Y.indexN rfl rfl (Lent.fact 0 rfl) rfl rfl hc25) HistOk.z<|JR.qtG rfl (SubM.nil) (SubL.cons (List.mem_of_getElem? (i:=2) rfl) (SubL.nil)) (Y.loadRow rfl (Lent.fact 0 rfl) rfl rfl hc25) HistOk.z ?_
      have h:=ck_some h;obtain⟨hc26,h⟩:=h
      refine JR.qtG rfl (SubM.nil) (SubL.cons (List.mem_of_getElem? (i:=2) rfl) (SubL.nil)) (Y.indexS rfl rfl (Lent.el (Lent.fact 0 rfl) hc25.1 hc25.2) rfl rfl hc26) HistOk.z<|JR.qtG rfl (SubM.nil) (SubL.cons (List.mem_of_getElem? (i:=2) rfl) (SubL.nil)) (Y.loadS0 rfl (Lent.el (Lent.fact 0 rfl) hc25.1 hc25.2) rfl rfl rfl RI64c0 hc26) HistOk.z<|JR.qtG rfl (SubM.nil) (SubL.nil) (Y.neq rfl rfl) HistOk.z<|JR.qtG rfl (SubM.nil) (SubL.nil) (Y.move rfl) HistOk.z ?_
      refine JR.guardD (by exact rfl) (by exact rfl) (by exact rfl) (fun hp27=> ?_) (fun hp27=> ?_)
      ·have h:=ifP hp27 h
       refine JR.guardN rfl rfl rfl rfl<|JR.guardN rfl rfl rfl rfl<|JR.guardN rfl rfl rfl rfl<|JR.guardN rfl rfl rfl rfl<|JR.guardN rfl rfl rfl rfl<|JR.guardN rfl rfl rfl rfl<|JR.guardN rfl rfl rfl rfl<|JR.guardN rfl rfl rfl rfl<|JR.guardN rfl rfl rfl rfl<|JR.guardN rfl rfl rfl rfl<|JR.guardN rfl rfl rfl rfl<|JR.guardN rfl rfl rfl rfl<|JR.tailD 28 rfl rfl<|J.guardN rfl rfl rfl<|J.guardY rfl (Y.pickT rfl rfl) rfl<|J.quiet (Y.pickT rfl rfl) rfl<|J.done<|J.thenN ?_
       exact J.meetI (true) (()) h SF (SubM.refl _) (LentAll.refl _ _)
      ·have h:=ifN hp27 h
       refine JR.qtG rfl (SubM.nil) (SubL.nil) (Y.move rfl) HistOk.z<|JR.qtG rfl (SubM.nil) (SubL.nil) (Y.move rfl) HistOk.z ?_
       have h:=ck_some h;obtain⟨hc28,h⟩:=h
       refine JR.qtG rfl (SubM.nil) (SubL.cons (List.mem_of_getElem? (i:=2) rfl) (SubL.nil)) (Y.indexN rfl rfl (Lent.fact 0 rfl) rfl rfl hc28) HistOk.z<|JR.qtG rfl (SubM.nil) (SubL.cons (List.mem_of_getElem? (i:=2) rfl) (SubL.nil)) (Y.loadRow rfl (Lent.fact 0 rfl) rfl rfl hc28) HistOk.z ?_
       have h:=ck_some h;obtain⟨hc29,h⟩:=h
       refine JR.qtG rfl (SubM.nil) (SubL.cons (List.mem_of_getElem? (i:=2) rfl) (SubL.nil)) (Y.indexS rfl rfl (Lent.el (Lent.fact 0 rfl) hc28.1 hc28.2) rfl rfl hc29) HistOk.z<|JR.qtG rfl (SubM.nil) (SubL.cons (List.mem_of_getElem? (i:=2) rfl) (SubL.nil)) (Y.loadS0 rfl (Lent.el (Lent.fact 0 rfl) hc28.1 hc28.2) rfl rfl rfl RI64c0 hc29) HistOk.z<|JR.qtG rfl (SubM.nil) (SubL.nil) (Y.move rfl) HistOk.z<|JR.qtG rfl (SubM.nil) (SubL.nil) (Y.move rfl) HistOk.z ?_
       have h:=ck_some h;obtain⟨hc30,h⟩:=h
       refine JR.qtG rfl (SubM.nil) (SubL.cons (List.mem_of_getElem? (i:=2) rfl) (SubL.nil)) (Y.indexN rfl rfl (Lent.fact 0 rfl) rfl rfl hc30) HistOk.z<|JR.qtG rfl (SubM.nil) (SubL.cons (List.mem_of_getElem? (i:=2) rfl) (SubL.nil)) (Y.loadRow rfl (Lent.fact 0 rfl) rfl rfl hc30) HistOk.z ?_
       have h:=ck_some h;obtain⟨hc31,h⟩:=h
       refine JR.qtG rfl (SubM.nil) (SubL.cons (List.mem_of_getElem? (i:=2) rfl) (SubL.nil)) (Y.indexS rfl rfl (Lent.el (Lent.fact 0 rfl) hc30.1 hc30.2) rfl rfl hc31) HistOk.z<|JR.qtG rfl (SubM.nil) (SubL.cons (List.mem_of_getElem? (i:=2) rfl) (SubL.nil)) (Y.loadS0 rfl (Lent.el (Lent.fact 0 rfl) hc30.1 hc30.2) rfl rfl rfl RI64c0 hc31) HistOk.z<|JR.tailD 28 rfl rfl<|J.guardY rfl (Y.neq rfl rfl) rfl<|J.guardY rfl (Y.pickF rfl rfl) rfl<|J.quiet (Y.pickT rfl rfl) rfl<|J.done<|J.thenN ?_
       exact J.meetI (decide ((at' (at' p1 a13) (3:Int))≠(at' (at' p1 (at' r6 a13)) (3:Int)))) (()) h SF (SubM.refl _) (LentAll.refl _ _)
     ·have h:=ifN hp24 h
      refine JR.guardN rfl rfl rfl rfl<|JR.guardN rfl rfl rfl rfl<|JR.guardN rfl rfl rfl rfl<|JR.guardN rfl rfl rfl rfl<|JR.guardN rfl rfl rfl rfl<|JR.guardN rfl rfl rfl rfl<|JR.guardN rfl rfl rfl rfl<|JR.guardN rfl rfl rfl rfl<|JR.qu (h:= ?_)
      refine JR.qu (h:= ?_)
      refine JR.qu (h:= ?_)
      refine JR.qu (h:= ?_)
      refine JR.qu (h:= ?_)
      refine JR.qu (h:= ?_)
      refine JR.qu (h:= ?_)
      refine JR.qu (h:= ?_)
      refine JR.qu (h:= ?_)
      refine JR.qu (h:= ?_)
      refine JR.qu (h:= ?_)
      refine JR.qu (h:= ?_)
      refine JR.tailD 28 rfl rfl<|J.qu (h:= ?_)
      refine J.guardN rfl rfl rfl<|J.quiet (Y.pickF rfl rfl) rfl<|J.done<|J.thenN ?_
      exact J.meetI (false) (()) h SF (SubM.refl _) (LentAll.refl _ _)
    ·clear h
     intro a19 b20 h
     unfold ref35_Ordered_k2 at h
     refine J.cond (by exact rfl) (fun hp21=> ?_) (fun hp21=> ?_)
     ·have h:=ifP hp21 h
      refine J.seq<|J.region<|J.quiet (Y.assign rfl) rfl<|J.done<|J.thenN<|J.ret<|J.inR<|J.thenR<|J.thenR<|J.inR<|J.thenR ?_
      obtain rfl:=Option.some.inj h
      exact J.retG1 (()) rfl rfl (RV.tmp rfl) (SubM.nil) LentAll.nil
     ·have h:=ifBN hp21 h
      refine J.skip<|J.inN<|J.thenN<|J.region<|J.quiet (Y.move rfl) rfl<|J.quiet (Y.addW rfl rfl) rfl<|J.quiet (Y.assign rfl) rfl<|J.done<|J.thenN ?_
      exact J.againI (wI .i64 (a13+(1:Int))) (()) h SF (SubM.refl _) (LentAll.refl _ _)
   ·have h:=ifN hp16 h
    refine J.exit<|J.thenX<|J.thenX<|J.inX<|J.thenN ?_
    exact J.meetI (()) (()) h SF (SubM.nil) (LentAll.refl _ _)
  ·clear h
   intro a9 b10 h
   unfold ref35_Ordered_k1 at h
   refine J.seq<|J.region<|J.quiet (Y.assign rfl) rfl<|J.done<|J.thenN<|J.ret ?_
   obtain rfl:=Option.some.inj h
   exact J.retG1 (()) rfl rfl (RV.tmp rfl) (SubM.refl _) LentAll.nil
end Go.Proofs.YtfbkplemadmbfaaGreatDoor
end
section
namespace Go.Proofs.YtfbkplemadmbfaaGreatDoor
open Go.Sx
def ref37_Below_k1  (a1:Unit):Option (Bool):=
 some (false)
def ref37_Below_k2 (p0:List (Int)) (p2:Int) (a6:Int×Int) (ag5:(Int×Int)->Option (Bool)) (a10:Bool):Option (Bool):=
 if a10=true then(if a6.1=p2 then(some (true))else(ck (0<=a6.1∧a6.1<(List.length p0:Int)) (ag5 ((at' p0 a6.1),(wI .i64 (a6.2+(1:Int)))))))else(ref37_Below_k1  (()))
def ref37_Below_s1 (p0:List (Int)) (p2:Int) (a6:Int×Int) (ag5:(Int×Int)->Option (Bool)):Option (Bool):=
 if a6.2<=(List.length p0:Int)then(ref37_Below_k2 p0 p2 a6 ag5 (decide ((0:Int)<=a6.1)))else(ref37_Below_k2 p0 p2 a6 ag5 (false))
def m_ref37_Below (fuel:Nat) (p0:List (Int)) (p1:Int) (p2:Int):Option (Bool):=
 iter (ref37_Below_s1 p0 p2) fuel (p1,(0:Int))
theorem body60:HasBody Tryz.prog 60:=Tryz.call60
theorem t_ref37_Below (fuel:Nat) {p0:List (Int)} {p1:Int} {p2:Int} (v0:Value) (r:Bool) (h:m_ref37_Below fuel p0 p1 p2=some r):
  Meets Tryz.prog 60 #[v0,Value.int .i64 (p1),Value.int .i64 (p2)] [Sl RI64 v0 p0] (fun x:Unit=>Value.bool (r)) (fun x l=>l) (fun _ l=>l):=by
 refine Meets.of (vs:=[v0,Value.int .i64 (p1),Value.int .i64 (p2)]) Tryz.func60 rfl Tryz.ntmps60 rfl fun c=> ?_
 unfold m_ref37_Below at h
 refine J.seq<|J.region<|J.quiet (Y.assign rfl) rfl<|J.done<|J.thenN<|J.seq<|J.midI (A:=Unit) (B:=Unit) (fun a1=>ref37_Below_k1  a1=some r) (fun a1 b2=>[]) (fun a1 b2=>[]) (fun a1 b2=>[Sl RI64 v0 p0]) ?_ ?_
 ·refine J.seq<|J.region<|J.quiet (Y.assign rfl) rfl<|J.done<|J.thenN<|J.block<|J.loopI (A:=Int×Int) (B:=Unit) (ref37_Below_s1 p0 p2) (fun a6 b7=>[(0,v0),(1,Value.int .i64 (a6.1)),(2,Value.int .i64 (p2)),(7,Value.int .i64 (a6.2))]) (fun a6 b7=>[]) (fun a6 b7=>[Sl RI64 v0 p0]) (p1,(0:Int)) (()) h SF (SubM.refl _) (LentAll.refl _ _) ?_
  clear h
  intro k8 a6 b7 h
  unfold ref37_Below_s1 at h
  refine J.seq<|J.seq<|J.midI (A:=Bool) (B:=Unit) (fun a10=>ref37_Below_k2 p0 p2 a6 (iter (ref37_Below_s1 p0 p2) k8) a10=some r) (fun a10 b11=>[(0,v0),(1,Value.int .i64 (a6.1)),(2,Value.int .i64 (p2)),(7,Value.int .i64 (a6.2)),(15,Value.bool (a10))]) (fun a10 b11=>[]) (fun a10 b11=>[Sl RI64 v0 p0]) ?_ ?_
  ·refine J.region<|J.quiet (Y.move rfl) rfl<|J.quiet (Y.move rfl) rfl<|J.quiet (Y.lenS rfl (Lent.fact 0 rfl) rfl) rfl<|J.quiet (Y.leq rfl rfl) rfl<|J.quiet (Y.move rfl) rfl ?_
   refine J.guardD (by exact rfl) (by exact rfl) (fun hp15=> ?_) (fun hp15=> ?_)
   ·have h:=ifP hp15 h
    refine J.guardY rfl (Y.move rfl) rfl<|J.guardY rfl (Y.geq rfl rfl) rfl<|J.quiet (Y.pickT rfl rfl) rfl<|J.done<|J.thenN ?_
    exact J.meetI (decide ((0:Int)<=a6.1)) (()) h SF (SubM.refl _) (LentAll.refl _ _)
   ·have h:=ifN hp15 h
    refine J.guardN rfl rfl rfl<|J.guardN rfl rfl rfl<|J.quiet (Y.pickF rfl rfl) rfl<|J.done<|J.thenN ?_
    exact J.meetI (false) (()) h SF (SubM.refl _) (LentAll.refl _ _)
  ·clear h
   intro a10 b11 h
   unfold ref37_Below_k2 at h
   refine J.cond (by exact rfl) (fun hp12=> ?_) (fun hp12=> ?_)
   ·have h:=ifP hp12 h
    refine J.skip<|J.thenN<|J.seq<|J.block<|J.seq<|J.seq<|J.region<|J.quiet (Y.move rfl) rfl<|J.quiet (Y.move rfl) rfl<|J.quiet (Y.eql rfl rfl) rfl<|J.done<|J.thenN ?_
    refine J.condD (by exact rfl) (fun hp13=> ?_) (fun hp13=> ?_)
    ·have h:=ifP hp13 h
     refine J.seq<|J.region<|J.quiet (Y.assign rfl) rfl<|J.done<|J.thenN<|J.ret<|J.thenR<|J.inR<|J.thenR<|J.thenR<|J.inR<|J.thenR ?_
     obtain rfl:=Option.some.inj h
     exact J.retG1 (()) rfl rfl (RV.tmp rfl) (SubM.refl _) LentAll.nil
    ·have h:=ifN hp13 h
     refine J.skip<|J.thenN<|J.region<|J.quiet (Y.move rfl) rfl<|J.quiet (Y.move rfl) rfl ?_
     have h:=ck_some h;obtain⟨hc14,h⟩:=h
     refine J.quiet (Y.indexS rfl rfl (Lent.fact 0 rfl) rfl rfl hc14) rfl<|J.quiet (Y.loadS0 rfl (Lent.fact 0 rfl) rfl rfl rfl RI64c0 hc14) rfl<|J.quiet (Y.assign rfl) rfl<|J.done<|J.inN<|J.thenN<|J.region<|J.quiet (Y.move rfl) rfl<|J.quiet (Y.addW rfl rfl) rfl<|J.quiet (Y.assign rfl) rfl<|J.done<|J.thenN ?_
     exact J.againI ((at' p0 a6.1),(wI .i64 (a6.2+(1:Int)))) (()) h SF (SubM.refl _) (LentAll.refl _ _)
   ·have h:=ifBN hp12 h
    refine J.exit<|J.thenX<|J.thenX<|J.inX<|J.thenN ?_
    exact J.meetI (()) (()) h SF (SubM.refl _) (LentAll.refl _ _)
 ·clear h
  intro a1 b2 h
  unfold ref37_Below_k1 at h
  refine J.seq<|J.region<|J.quiet (Y.assign rfl) rfl<|J.done<|J.thenN<|J.ret ?_
  obtain rfl:=Option.some.inj h
  exact J.retG1 (()) rfl rfl (RV.tmp rfl) (SubM.refl _) LentAll.nil
end Go.Proofs.YtfbkplemadmbfaaGreatDoor
end
section
namespace Go.Proofs.YtfbkplemadmbfaaGreatDoor
open Go.Sx
def ref37_Legit_k2  (a9:Unit):Option (Bool):=
 some (true)
def ref37_Legit_k3 (p1:List (List (Int))) (a13:Int) (ag12:(Int)->Option (Bool)) (a18:Int):Option (Bool):=
 ck (0<=a13∧a13<(List.length p1:Int)) (ck (0<=(5:Int)∧(5:Int)<(List.length (at' p1 a13):Int)) (if(at' (at' p1 a13) (5:Int))≠a18 then(some (false))else(ag12 (wI .i64 (a13+(1:Int))))))
def ref37_Legit_k4 (a26:Int×Int) (ag25:(Int×Int)->Option (Bool)) (a31:Int):Option (Bool):=
 ag25 (a31,(wI .i64 (a26.2+(1:Int))))
def ref37_Legit_s2 (fuel:Nat) (p1:List (List (Int))) (r6:List (Int)) (a13:Int) (ag12:(Int)->Option (Bool)) (a26:Int×Int) (ag25:(Int×Int)->Option (Bool)):Option (Bool):=
 if a26.2<(List.length p1:Int)then(Option.bind (m_ref37_Below fuel r6 a26.2 a13) fun r33=>(if r33=true then(ck (0<=a26.2∧a26.2<(List.length p1:Int)) (ck (0<=(4:Int)∧(4:Int)<(List.length (at' p1 a26.2):Int)) (ref37_Legit_k4 a26 ag25 (wI .i64 (a26.1+(at' (at' p1 a26.2) (4:Int)))))))else(ref37_Legit_k4 a26 ag25 (a26.1))))else(ref37_Legit_k3 p1 a13 ag12 (a26.1))
def ref37_Legit_s1 (fuel:Nat) (p1:List (List (Int))) (r6:List (Int)) (a13:Int) (ag12:(Int)->Option (Bool)):Option (Bool):=
 if a13<(List.length p1:Int)then(iter (ref37_Legit_s2 fuel p1 r6 a13 ag12) fuel ((0:Int),(0:Int)))else(ref37_Legit_k2  (()))
def ref37_Legit_k1 (fuel:Nat) (p0:List (Int)×(List (List (Int×Int)))) (p1:List (List (Int))) (a3:Bool):Option (Bool):=
 if a3=true then(some (false))else(Option.bind (m_ref23_Named fuel ((p0.1,p0.2)) p1 (1:Int)) fun r6=>(iter (ref37_Legit_s1 fuel p1 r6) fuel (0:Int)))
def m_ref37_Legit (fuel:Nat) (p0:List (Int)×(List (List (Int×Int)))) (p1:List (List (Int))):Option (Bool):=
 Option.bind (m_ref37_Fit fuel ((p0.1,p0.2))) fun r39=>(if(!r39)=true then(ref37_Legit_k1 fuel p0 p1 (true))else(Option.bind (m_ref37_Vars fuel) fun r43=>(Option.bind (m_ref23_Config fuel ((p0.1,p0.2)) p1 r43) fun r46=>(if(!r46)=true then(ref37_Legit_k1 fuel p0 p1 (true))else(Option.bind (m_ref35_Ordered fuel ((p0.1,p0.2)) p1) fun r50=>(ref37_Legit_k1 fuel p0 p1 ((!r50))))))))
theorem body24:HasBody Tryz.prog 24:=Tryz.call24
theorem t_ref37_Legit (fuel:Nat) {p0:List (Int)×(List (List (Int×Int)))} {p1:List (List (Int))} (v0:Value)  (v1:Value)  (z2:List (Value×List (Int×Int)))  (v3:Value)  (z4:List (Value×List (Int))) (r:Bool) (h:m_ref37_Legit fuel p0 p1=some r):
  Meets Tryz.prog 24 #[Value.agg #[v0,v1],v3] [Sl RI64 v0 p0.1,S2 RI64I64p v1 z2 p0.2,S2 RI64 v3 z4 p1] (fun x:Unit=>Value.bool (r)) (fun x l=>l) (fun _ l=>l):=by
 refine Meets.of (vs:=[Value.agg #[v0,v1],v3]) Tryz.func24 rfl Tryz.ntmps24 rfl fun c=> ?_
 unfold m_ref37_Legit at h
 refine J.seq<|J.region<|J.loud (Loud.box (cs:=[v0,v1]) rfl rfl) rfl fun b1=>J.quiet (Y.assign rfl) rfl<|J.done<|J.thenN<|J.seq<|J.seq<|J.midI (A:=Bool) (B:=Unit) (fun a3=>ref37_Legit_k1 fuel p0 p1 a3=some r) (fun a3 b4=>[(1,v3),(2,Value.pointer (some ⟨b1,0,none⟩)),(24,Value.bool (a3))]) (fun a3 b4=>[Blk b1 [v0,v1] 25]) (fun a3 b4=>[Sl RI64 v0 p0.1,S2 RI64I64p v1 z2 p0.2,S2 RI64 v3 z4 p1]) ?_ ?_
 ·refine JR.start [0,1,3,7,15,15,15,127,255,511,1023,2047,2047,8191,16383,32767] 13 mixedOrders (by decide +kernel) ?_
  refine JR.open (by exact rfl) ?_
  refine JR.qt rfl (SubM.refl _) (SubL.nil) (Y.loadBAll 0 rfl rfl rfl rfl) HistOk.z ?_
  have h:=bnd h;obtain⟨r39,hr40,h⟩:=h
  refine JR.loud rfl rfl rfl (Loud.callL body22 (t_ref37_Fit fuel v0 v1 z2 r39 hr40) rfl (LentAll.cons (Lent.fact 0 rfl) (LentAll.cons (Lent.fact 1 rfl) .nil)) (fun _ _=>rfl)) rfl (fun x41=>(BsOk.b rfl BsOk.z)) fun x41=>JR.qt rfl (SubM.nil) (SubL.nil) (Y.not rfl) (HistOk.b rfl HistOk.z)<|JR.qt rfl (SubM.nil) (SubL.nil) (Y.move rfl) (HistOk.b rfl HistOk.z) ?_
  refine JR.guard (by exact rfl) (by exact rfl) (by exact rfl) (fun hp42=> ?_) (fun hp42=> ?_)
  ·have h:=ifP hp42 h
   refine JR.guardN rfl rfl rfl rfl<|JR.guardN rfl rfl rfl rfl<|JR.guardN rfl rfl rfl rfl<|JR.guardN rfl rfl rfl rfl<|JR.guardN rfl rfl rfl rfl<|JR.qt rfl (SubM.nil) (SubL.nil) (Y.pickT rfl rfl) (HistOk.b rfl HistOk.z)<|JR.qt rfl (SubM.nil) (SubL.nil) (Y.move rfl) (HistOk.b rfl HistOk.z)<|JR.guardN rfl rfl rfl rfl<|JR.guardN rfl rfl rfl rfl<|JR.tailD 13 rfl rfl<|J.guardN rfl rfl rfl<|J.guardN rfl rfl rfl<|J.quiet (Y.pickT rfl rfl) rfl<|J.done<|J.thenN ?_
   exact J.meetI (true) (()) h SF (SubM.refl _) (LentAll.refl _ _)
  ·have h:=ifBN hp42 h
   refine JR.qtG rfl (SubM.refl _) (SubL.nil) (Y.loadBAll 0 rfl rfl rfl rfl) (HistOk.b rfl HistOk.z)<|JR.qtG rfl (SubM.nil) (SubL.nil) (Y.move rfl) (HistOk.b rfl HistOk.z) ?_
   have h:=bnd h;obtain⟨r43,hr44,h⟩:=h
   refine JR.loudG rfl rfl rfl rfl (Loud.callL body57 (t_ref37_Vars fuel  r43 hr44) rfl .nil (fun _ _=>rfl)) rfl (fun x45=>(BsOk.h (SubM.nil) (SubL.nil) (BsOk.h (SubM.cons 1 rfl (SubM.nil)) (SubL.nil) (BsOk.b rfl (BsOk.b rfl (BsOk.b rfl BsOk.z)))))) fun x45=> ?_
   have h:=bnd h;obtain⟨r46,hr47,h⟩:=h
   refine JR.loudG rfl rfl rfl rfl (Loud.callL body45 (t_ref23_Config fuel v0 v1 z2 v3 z4 x45 r46 hr47) rfl (LentAll.cons (Lent.fact 0 rfl) (LentAll.cons (Lent.fact 1 rfl) (LentAll.cons (Lent.fact 2 rfl) (LentAll.cons (Lent.ar (Lent.res 0 rfl) FStI64I64I64I64I64p) .nil)))) (fun _ _=>rfl)) rfl (fun x48=>(BsOk.b rfl (BsOk.b rfl (BsOk.b rfl (BsOk.b rfl (BsOk.b rfl BsOk.z)))))) fun x48=>JR.qtG rfl (SubM.nil) (SubL.nil) (Y.not rfl) (HistOk.b rfl (HistOk.b rfl (HistOk.b rfl HistOk.z)))<|JR.qt rfl (SubM.nil) (SubL.nil) (Y.pickF rfl rfl) (HistOk.b rfl (HistOk.b rfl (HistOk.b rfl HistOk.z)))<|JR.qt rfl (SubM.nil) (SubL.nil) (Y.move rfl) (HistOk.b rfl (HistOk.b rfl (HistOk.b rfl HistOk.z))) ?_
   refine JR.guard (by exact rfl) (by exact rfl) (by exact rfl) (fun hp49=> ?_) (fun hp49=> ?_)
   ·have h:=ifP hp49 h
    refine JR.guardN rfl rfl rfl rfl<|JR.guardN rfl rfl rfl rfl<|JR.tailD 13 rfl rfl<|J.guardN rfl rfl rfl<|J.guardN rfl rfl rfl<|J.quiet (Y.pickT rfl rfl) rfl<|J.done<|J.thenN ?_
    exact J.meetI (true) (()) h SF (SubM.cons 1 rfl (SubM.nil)) (LentAll.refl _ _)
   ·have h:=ifBN hp49 h
    refine JR.qtG rfl (SubM.cons 1 rfl (SubM.nil)) (SubL.nil) (Y.loadBAll 0 rfl rfl rfl rfl) (HistOk.b rfl (HistOk.b rfl (HistOk.b rfl HistOk.z)))<|JR.qtG rfl (SubM.nil) (SubL.nil) (Y.move rfl) (HistOk.b rfl (HistOk.b rfl (HistOk.b rfl HistOk.z)))<|JR.tailD 13 rfl rfl ?_
    have h:=bnd h;obtain⟨r50,hr51,h⟩:=h
    refine J.loudG rfl (Loud.callL body58 (t_ref35_Ordered fuel v0 v1 z2 v3 z4 r50 hr51) rfl (LentAll.cons (Lent.fact 0 rfl) (LentAll.cons (Lent.fact 1 rfl) (LentAll.cons (Lent.fact 2 rfl) .nil))) (fun _ _=>rfl)) rfl fun x52=>J.guardY rfl (Y.not rfl) rfl<|J.quiet (Y.pickF rfl rfl) rfl<|J.done<|J.thenN ?_
    exact J.meetI ((!r50)) (()) h SF (SubM.cons 1 rfl (SubM.nil)) (LentAll.refl _ _)
 ·clear h
  intro a3 b4 h
  unfold ref37_Legit_k1 at h
  refine J.cond (by exact rfl) (fun hp5=> ?_) (fun hp5=> ?_)
  ·have h:=ifP hp5 h
   refine J.seq<|J.region<|J.quiet (Y.assign rfl) rfl<|J.done<|J.thenN<|J.ret<|J.thenR ?_
   obtain rfl:=Option.some.inj h
   exact J.retG1 (()) rfl rfl (RV.tmp rfl) (SubM.nil) LentAll.nil
  ·have h:=ifBN hp5 h
   refine J.skip<|J.thenN<|J.seq<|J.region<|J.quiet (Y.loadBAll 0 rfl rfl rfl rfl) rfl<|J.quiet (Y.move rfl) rfl ?_
   have h:=bnd h;obtain⟨r6,hr7,h⟩:=h
   refine J.loud (Loud.callL body59 (t_ref23_Named fuel v0 v1 z2 v3 z4 r6 hr7) rfl (LentAll.cons (Lent.fact 0 rfl) (LentAll.cons (Lent.fact 1 rfl) (LentAll.cons (Lent.fact 2 rfl) .nil))) (fun _ _=>rfl)) rfl fun x8=>J.quiet (Y.assign rfl) rfl<|J.done<|J.thenN<|J.seq<|J.midI (A:=Unit) (B:=Unit) (fun a9=>ref37_Legit_k2  a9=some r) (fun a9 b10=>[]) (fun a9 b10=>[]) (fun a9 b10=>[Sl RI64 v0 p0.1,S2 RI64I64p v1 z2 p0.2,S2 RI64 v3 z4 p1]) ?_ ?_
   ·refine J.seq<|J.region<|J.quiet (Y.assign rfl) rfl<|J.done<|J.thenN<|J.block<|J.loopI (A:=Int) (B:=Unit) (ref37_Legit_s1 fuel p1 r6) (fun a13 b14=>[(1,v3),(5,x8),(6,Value.int .i64 (a13))]) (fun a13 b14=>[Ar EI64 x8 r6]) (fun a13 b14=>[Sl RI64 v0 p0.1,S2 RI64I64p v1 z2 p0.2,S2 RI64 v3 z4 p1]) (0:Int) (()) h SF (SubM.cons 0 rfl (SubM.nil)) (LentAll.refl _ _) ?_
    clear h
    intro k15 a13 b14 h
    unfold ref37_Legit_s1 at h
    refine J.seq<|J.seq<|J.region<|J.quiet (Y.move rfl) rfl<|J.quiet (Y.move rfl) rfl<|J.quiet (Y.lenN rfl (Lent.fact 2 rfl) rfl) rfl<|J.quiet (Y.lss rfl rfl) rfl<|J.done<|J.thenN ?_
    refine J.condD (by exact rfl) (fun hp16=> ?_) (fun hp16=> ?_)
    ·have h:=ifP hp16 h
     refine J.skip<|J.thenN<|J.seq<|J.block<|J.seq<|J.region<|J.quiet (Y.assign rfl) rfl<|J.done<|J.thenN<|J.seq<|J.midI (A:=Int) (B:=Unit) (fun a18=>ref37_Legit_k3 p1 a13 (iter (ref37_Legit_s1 fuel p1 r6) k15) a18=some r) (fun a18 b19=>[(1,v3),(5,x8),(6,Value.int .i64 (a13)),(7,Value.int .i64 (a18))]) (fun a18 b19=>[Ar EI64 x8 r6]) (fun a18 b19=>[Sl RI64 v0 p0.1,S2 RI64I64p v1 z2 p0.2,S2 RI64 v3 z4 p1]) ?_ ?_
     ·refine J.seq<|J.region<|J.quiet (Y.assign rfl) rfl<|J.done<|J.thenN<|J.block<|J.loopI (A:=Int×Int) (B:=Unit) (ref37_Legit_s2 fuel p1 r6 a13 (iter (ref37_Legit_s1 fuel p1 r6) k15)) (fun a26 b27=>[(1,v3),(5,x8),(6,Value.int .i64 (a13)),(7,Value.int .i64 (a26.1)),(8,Value.int .i64 (a26.2))]) (fun a26 b27=>[Ar EI64 x8 r6]) (fun a26 b27=>[Sl RI64 v0 p0.1,S2 RI64I64p v1 z2 p0.2,S2 RI64 v3 z4 p1]) ((0:Int),(0:Int)) (()) h SF (SubM.refl _) (LentAll.refl _ _) ?_
      clear h
      intro k28 a26 b27 h
      unfold ref37_Legit_s2 at h
      refine J.seq<|J.seq<|J.region<|J.quiet (Y.move rfl) rfl<|J.quiet (Y.move rfl) rfl<|J.quiet (Y.lenN rfl (Lent.fact 2 rfl) rfl) rfl<|J.quiet (Y.lss rfl rfl) rfl<|J.done<|J.thenN ?_
      refine J.condD (by exact rfl) (fun hp29=> ?_) (fun hp29=> ?_)
      ·have h:=ifP hp29 h
       refine J.skip<|J.thenN<|J.seq<|J.midI (A:=Int) (B:=Unit) (fun a31=>ref37_Legit_k4 a26 (iter (ref37_Legit_s2 fuel p1 r6 a13 (iter (ref37_Legit_s1 fuel p1 r6) k15)) k28) a31=some r) (fun a31 b32=>[(1,v3),(5,x8),(6,Value.int .i64 (a13)),(7,Value.int .i64 (a31)),(8,Value.int .i64 (a26.2))]) (fun a31 b32=>[Ar EI64 x8 r6]) (fun a31 b32=>[Sl RI64 v0 p0.1,S2 RI64I64p v1 z2 p0.2,S2 RI64 v3 z4 p1]) ?_ ?_
       ·refine J.block<|J.seq<|J.region<|J.quiet (Y.move rfl) rfl<|J.quiet (Y.move rfl) rfl<|J.quiet (Y.move rfl) rfl ?_
        have h:=bnd h;obtain⟨r33,hr34,h⟩:=h
        refine J.loud (Loud.callL body60 (t_ref37_Below fuel x8 r33 hr34) rfl (LentAll.cons (Lent.ar (Lent.res 0 rfl) FI64) .nil) (fun _ _=>rfl)) rfl fun x35=>J.done<|J.thenN ?_
        refine J.cond (by exact rfl) (fun hp36=> ?_) (fun hp36=> ?_)
        ·have h:=ifP hp36 h
         refine J.region<|J.quiet (Y.move rfl) rfl<|J.quiet (Y.move rfl) rfl<|J.quiet (Y.move rfl) rfl ?_
         have h:=ck_some h;obtain⟨hc37,h⟩:=h
         refine J.quiet (Y.indexN rfl rfl (Lent.fact 2 rfl) rfl rfl hc37) rfl<|J.quiet (Y.loadRow rfl (Lent.fact 2 rfl) rfl rfl hc37) rfl ?_
         have h:=ck_some h;obtain⟨hc38,h⟩:=h
         refine J.quiet (Y.indexS rfl rfl (Lent.el (Lent.fact 2 rfl) hc37.1 hc37.2) rfl rfl hc38) rfl<|J.quiet (Y.loadS0 rfl (Lent.el (Lent.fact 2 rfl) hc37.1 hc37.2) rfl rfl rfl RI64c0 hc38) rfl<|J.quiet (Y.addW rfl rfl) rfl<|J.quiet (Y.assign rfl) rfl<|J.done<|J.inN<|J.thenN ?_
         exact J.meetI (wI .i64 (a26.1+(at' (at' p1 a26.2) (4:Int)))) (()) h SF (SubM.refl _) (LentAll.refl _ _)
        ·have h:=ifBN hp36 h
         refine J.skip<|J.inN<|J.thenN ?_
         exact J.meetI (a26.1) (()) h SF (SubM.refl _) (LentAll.refl _ _)
       ·clear h
        intro a31 b32 h
        unfold ref37_Legit_k4 at h
        refine J.region<|J.quiet (Y.move rfl) rfl<|J.quiet (Y.addW rfl rfl) rfl<|J.quiet (Y.assign rfl) rfl<|J.done<|J.thenN ?_
        exact J.againI (a31,(wI .i64 (a26.2+(1:Int)))) (()) h SF (SubM.refl _) (LentAll.refl _ _)
      ·have h:=ifN hp29 h
       refine J.exit<|J.thenX<|J.thenX<|J.inX<|J.thenN ?_
       exact J.meetI (a26.1) (()) h SF (SubM.refl _) (LentAll.refl _ _)
     ·clear h
      intro a18 b19 h
      unfold ref37_Legit_k3 at h
      refine J.seq<|J.region<|J.quiet (Y.move rfl) rfl<|J.quiet (Y.move rfl) rfl ?_
      have h:=ck_some h;obtain⟨hc20,h⟩:=h
      refine J.quiet (Y.indexN rfl rfl (Lent.fact 2 rfl) rfl rfl hc20) rfl<|J.quiet (Y.loadRow rfl (Lent.fact 2 rfl) rfl rfl hc20) rfl ?_
      have h:=ck_some h;obtain⟨hc21,h⟩:=h
      refine J.quiet (Y.indexS rfl rfl (Lent.el (Lent.fact 2 rfl) hc20.1 hc20.2) rfl rfl hc21) rfl<|J.quiet (Y.loadS0 rfl (Lent.el (Lent.fact 2 rfl) hc20.1 hc20.2) rfl rfl rfl RI64c0 hc21) rfl<|J.quiet (Y.move rfl) rfl<|J.quiet (Y.neq rfl rfl) rfl<|J.done<|J.thenN ?_
      refine J.condD (by exact rfl) (fun hp22=> ?_) (fun hp22=> ?_)
      ·have h:=ifP hp22 h
       refine J.seq<|J.region<|J.quiet (Y.assign rfl) rfl<|J.done<|J.thenN<|J.ret<|J.inR<|J.thenR<|J.thenR<|J.inR<|J.thenR ?_
       obtain rfl:=Option.some.inj h
       exact J.retG1 (()) rfl rfl (RV.tmp rfl) (SubM.nil) LentAll.nil
      ·have h:=ifN hp22 h
       refine J.skip<|J.inN<|J.thenN<|J.region<|J.quiet (Y.move rfl) rfl<|J.quiet (Y.addW rfl rfl) rfl<|J.quiet (Y.assign rfl) rfl<|J.done<|J.thenN ?_
       exact J.againI (wI .i64 (a13+(1:Int))) (()) h SF (SubM.refl _) (LentAll.refl _ _)
    ·have h:=ifN hp16 h
     refine J.exit<|J.thenX<|J.thenX<|J.inX<|J.thenN ?_
     exact J.meetI (()) (()) h SF (SubM.nil) (LentAll.refl _ _)
   ·clear h
    intro a9 b10 h
    unfold ref37_Legit_k2 at h
    refine J.seq<|J.region<|J.quiet (Y.assign rfl) rfl<|J.done<|J.thenN<|J.ret ?_
    obtain rfl:=Option.some.inj h
    exact J.retG1 (()) rfl rfl (RV.tmp rfl) (SubM.refl _) LentAll.nil
end Go.Proofs.YtfbkplemadmbfaaGreatDoor
end
section
namespace Go.Proofs.YtfbkplemadmbfaaGreatDoor
open Go.Sx
def m_snapshot_Claim (fuel:Nat) (p0:List (Int)×(List (List (Int×Int)))):Option ((Int×Bool×Bool×Int×Int)):=
 Option.bind (m_snapshot_Fit fuel ((p0.1,p0.2))) fun r3=>(if(!r3)=true then(some (((0:Int),false,false,(0:Int),(0:Int))))else(Option.bind (m_graph_Eccentricity fuel ((p0.1,p0.2)) (0:Int)) fun r7=>(some (((3:Int),true,false,(wI .i64 ((wI .i64 ((6:Int)*r7))+(4:Int))),(-1:Int))))))
theorem body25:HasBody Tryz.prog 25:=Tryz.call25
theorem t_snapshot_Claim (fuel:Nat) {p0:List (Int)×(List (List (Int×Int)))} (v0:Value)  (v1:Value)  (z2:List (Value×List (Int×Int))) (r:(Int×Bool×Bool×Int×Int)) (h:m_snapshot_Claim fuel p0=some r):
  Meets Tryz.prog 25 #[Value.agg #[v0,v1]] [Sl RI64 v0 p0.1,S2 RI64I64p v1 z2 p0.2] (fun x:Unit=>Value.agg #[Value.int .i64 (r.1),Value.bool (r.2.1),Value.bool (r.2.2.1),Value.int .i64 (r.2.2.2.1),Value.int .i64 (r.2.2.2.2)]) (fun x l=>l) (fun _ l=>l):=by
 refine Meets.of (vs:=[Value.agg #[v0,v1]]) Tryz.func25 rfl Tryz.ntmps25 rfl fun c=> ?_
 unfold m_snapshot_Claim at h
 refine J.seq<|J.region<|J.loud (Loud.box (cs:=[v0,v1]) rfl rfl) rfl fun b1=>J.loud (Loud.alloc (cs:=[Value.int .i64 (0:Int),Value.bool (false),Value.bool (false),Value.int .i64 (0:Int),Value.int .i64 (0:Int)]) rfl rfl) rfl fun b2=>J.done<|J.thenN<|J.seq<|J.seq<|J.region<|J.quiet (Y.loadBAll 1 rfl rfl rfl rfl) rfl ?_
 have h:=bnd h;obtain⟨r3,hr4,h⟩:=h
 refine J.loud (Loud.callL body21 (t_snapshot_Fit fuel v0 v1 z2 r3 hr4) rfl (LentAll.cons (Lent.fact 0 rfl) (LentAll.cons (Lent.fact 1 rfl) .nil)) (fun _ _=>rfl)) rfl fun x5=>J.quiet (Y.not rfl) rfl<|J.done<|J.thenN ?_
 refine J.cond (by exact rfl) (fun hp6=> ?_) (fun hp6=> ?_)
 ·have h:=ifP hp6 h
  refine J.seq<|J.region ?_
  refine J.quiet (Y.bld0 (r:=Value.agg #[Value.int .i64 (0:Int),Value.bool (false),Value.bool (false),Value.int .i64 (0:Int),Value.int .i64 (0:Int)]) (by intro w;simp[Instr.build,Instr.fill,cells_intV,cells_boolV,cells_sliceV,cells_ptrV,cells_strV,cells_funcV,cells_agg])) rfl ?_
  refine J.storeAll 0 (vs:=[Value.int .i64 (0:Int),Value.bool (false),Value.bool (false),Value.int .i64 (0:Int),Value.int .i64 (0:Int)]) rfl rfl rfl rfl rfl rfl<|J.done<|J.thenN<|J.ret<|J.thenR ?_
  obtain rfl:=Option.some.inj h
  exact J.retG1 (()) rfl rfl (RV.cell 0 rfl rfl rfl rfl) (SubM.nil) LentAll.nil
 ·have h:=ifBN hp6 h
  refine J.skip<|J.thenN<|J.seq<|J.region<|J.quiet (Y.loadBAll 1 rfl rfl rfl rfl) rfl ?_
  have h:=bnd h;obtain⟨r7,hr8,h⟩:=h
  refine J.loud (Loud.callL body48 (t_graph_Eccentricity fuel v0 v1 z2 r7 hr8) rfl (LentAll.cons (Lent.fact 0 rfl) (LentAll.cons (Lent.fact 1 rfl) .nil)) (fun _ _=>rfl)) rfl fun x9=>J.quiet (Y.mulW rfl rfl) rfl<|J.quiet (Y.addW rfl rfl) rfl ?_
  refine J.quiet (Y.bld4 (r:=Value.agg #[Value.int .i64 (3:Int),Value.bool (true),Value.bool (false),Value.int .i64 (wI .i64 ((wI .i64 ((6:Int)*r7))+(4:Int))),Value.int .i64 (-1:Int)]) rfl rfl rfl rfl (by intro w;simp[Instr.build,Instr.fill,cells_intV,cells_boolV,cells_sliceV,cells_ptrV,cells_strV,cells_funcV,cells_agg])) rfl ?_
  refine J.storeAll 0 (vs:=[Value.int .i64 (3:Int),Value.bool (true),Value.bool (false),Value.int .i64 (wI .i64 ((wI .i64 ((6:Int)*r7))+(4:Int))),Value.int .i64 (-1:Int)]) rfl rfl rfl rfl rfl rfl<|J.done<|J.thenN<|J.ret ?_
  obtain rfl:=Option.some.inj h
  exact J.retG1 (()) rfl rfl (RV.cell 0 rfl rfl rfl rfl) (SubM.nil) LentAll.nil
end Go.Proofs.YtfbkplemadmbfaaGreatDoor
end
section
namespace Go.Proofs.YtfbkplemadmbfaaGreatDoor
open Go.Sx
def m_ref37_Claim (fuel:Nat) (p0:List (Int)×(List (List (Int×Int)))):Option ((Int×Bool×Bool×Int×Int)):=
 Option.bind (m_ref37_Fit fuel ((p0.1,p0.2))) fun r3=>(if(!r3)=true then(some (((0:Int),false,false,(0:Int),(0:Int))))else(Option.bind (m_ref01_Eccentricity fuel ((p0.1,p0.2)) (0:Int)) fun r7=>(some (((3:Int),true,false,(wI .i64 ((wI .i64 ((6:Int)*r7))+(4:Int))),(-1:Int))))))
theorem body26:HasBody Tryz.prog 26:=Tryz.call26
theorem t_ref37_Claim (fuel:Nat) {p0:List (Int)×(List (List (Int×Int)))} (v0:Value)  (v1:Value)  (z2:List (Value×List (Int×Int))) (r:(Int×Bool×Bool×Int×Int)) (h:m_ref37_Claim fuel p0=some r):
  Meets Tryz.prog 26 #[Value.agg #[v0,v1]] [Sl RI64 v0 p0.1,S2 RI64I64p v1 z2 p0.2] (fun x:Unit=>Value.agg #[Value.int .i64 (r.1),Value.bool (r.2.1),Value.bool (r.2.2.1),Value.int .i64 (r.2.2.2.1),Value.int .i64 (r.2.2.2.2)]) (fun x l=>l) (fun _ l=>l):=by
 refine Meets.of (vs:=[Value.agg #[v0,v1]]) Tryz.func26 rfl Tryz.ntmps26 rfl fun c=> ?_
 unfold m_ref37_Claim at h
 refine J.seq<|J.region<|J.loud (Loud.box (cs:=[v0,v1]) rfl rfl) rfl fun b1=>J.loud (Loud.alloc (cs:=[Value.int .i64 (0:Int),Value.bool (false),Value.bool (false),Value.int .i64 (0:Int),Value.int .i64 (0:Int)]) rfl rfl) rfl fun b2=>J.done<|J.thenN<|J.seq<|J.seq<|J.region<|J.quiet (Y.loadBAll 1 rfl rfl rfl rfl) rfl ?_
 have h:=bnd h;obtain⟨r3,hr4,h⟩:=h
 refine J.loud (Loud.callL body22 (t_ref37_Fit fuel v0 v1 z2 r3 hr4) rfl (LentAll.cons (Lent.fact 0 rfl) (LentAll.cons (Lent.fact 1 rfl) .nil)) (fun _ _=>rfl)) rfl fun x5=>J.quiet (Y.not rfl) rfl<|J.done<|J.thenN ?_
 refine J.cond (by exact rfl) (fun hp6=> ?_) (fun hp6=> ?_)
 ·have h:=ifP hp6 h
  refine J.seq<|J.region ?_
  refine J.quiet (Y.bld0 (r:=Value.agg #[Value.int .i64 (0:Int),Value.bool (false),Value.bool (false),Value.int .i64 (0:Int),Value.int .i64 (0:Int)]) (by intro w;simp[Instr.build,Instr.fill,cells_intV,cells_boolV,cells_sliceV,cells_ptrV,cells_strV,cells_funcV,cells_agg])) rfl ?_
  refine J.storeAll 0 (vs:=[Value.int .i64 (0:Int),Value.bool (false),Value.bool (false),Value.int .i64 (0:Int),Value.int .i64 (0:Int)]) rfl rfl rfl rfl rfl rfl<|J.done<|J.thenN<|J.ret<|J.thenR ?_
  obtain rfl:=Option.some.inj h
  exact J.retG1 (()) rfl rfl (RV.cell 0 rfl rfl rfl rfl) (SubM.nil) LentAll.nil
 ·have h:=ifBN hp6 h
  refine J.skip<|J.thenN<|J.seq<|J.region<|J.quiet (Y.loadBAll 1 rfl rfl rfl rfl) rfl ?_
  have h:=bnd h;obtain⟨r7,hr8,h⟩:=h
  refine J.loud (Loud.callL body49 (t_ref01_Eccentricity fuel v0 v1 z2 r7 hr8) rfl (LentAll.cons (Lent.fact 0 rfl) (LentAll.cons (Lent.fact 1 rfl) .nil)) (fun _ _=>rfl)) rfl fun x9=>J.quiet (Y.mulW rfl rfl) rfl<|J.quiet (Y.addW rfl rfl) rfl ?_
  refine J.quiet (Y.bld4 (r:=Value.agg #[Value.int .i64 (3:Int),Value.bool (true),Value.bool (false),Value.int .i64 (wI .i64 ((wI .i64 ((6:Int)*r7))+(4:Int))),Value.int .i64 (-1:Int)]) rfl rfl rfl rfl (by intro w;simp[Instr.build,Instr.fill,cells_intV,cells_boolV,cells_sliceV,cells_ptrV,cells_strV,cells_funcV,cells_agg])) rfl ?_
  refine J.storeAll 0 (vs:=[Value.int .i64 (3:Int),Value.bool (true),Value.bool (false),Value.int .i64 (wI .i64 ((wI .i64 ((6:Int)*r7))+(4:Int))),Value.int .i64 (-1:Int)]) rfl rfl rfl rfl rfl rfl<|J.done<|J.thenN<|J.ret ?_
  obtain rfl:=Option.some.inj h
  exact J.retG1 (()) rfl rfl (RV.cell 0 rfl rfl rfl rfl) (SubM.nil) LentAll.nil
end Go.Proofs.YtfbkplemadmbfaaGreatDoor
end
section
namespace Go.Proofs.YtfbkplemadmbfaaGreatDoor
open Go.Sx
def m_snapshot_Total (fuel:Nat) (p0:List (Int)×(List (List (Int×Int)))) (p1:List (List (Int))):Option (Int×Bool):=
 Option.bind (m_snapshot_Legit fuel ((p0.1,p0.2)) p1) fun r2=>(if(!r2)=true then(some ((0:Int),false))else(ck (0<=(0:Int)∧(0:Int)<(List.length p1:Int)) (ck (0<=(5:Int)∧(5:Int)<(List.length (at' p1 (0:Int)):Int)) (some ((at' (at' p1 (0:Int)) (5:Int)),true)))))
theorem body52:HasBody Tryz.prog 52:=Tryz.call52
theorem t_snapshot_Total (fuel:Nat) {p0:List (Int)×(List (List (Int×Int)))} {p1:List (List (Int))} (v0:Value)  (v1:Value)  (z2:List (Value×List (Int×Int)))  (v3:Value)  (z4:List (Value×List (Int))) (r:Int×Bool) (h:m_snapshot_Total fuel p0 p1=some r):
  Meets Tryz.prog 52 #[Value.agg #[v0,v1],v3] [Sl RI64 v0 p0.1,S2 RI64I64p v1 z2 p0.2,S2 RI64 v3 z4 p1] (fun x:Unit=>Value.tuple #[Value.int .i64 (r.1),Value.bool (r.2)]) (fun x l=>l) (fun _ l=>l):=by
 refine Meets.of (vs:=[Value.agg #[v0,v1],v3]) Tryz.func52 rfl Tryz.ntmps52 rfl fun c=> ?_
 unfold m_snapshot_Total at h
 refine J.seq<|J.region<|J.loud (Loud.box (cs:=[v0,v1]) rfl rfl) rfl fun b1=>J.quiet (Y.assign rfl) rfl<|J.quiet (Y.assign rfl) rfl<|J.done<|J.thenN<|J.seq<|J.seq<|J.region<|J.quiet (Y.loadBAll 0 rfl rfl rfl rfl) rfl<|J.quiet (Y.move rfl) rfl ?_
 have h:=bnd h;obtain⟨r2,hr3,h⟩:=h
 refine J.loud (Loud.callL body23 (t_snapshot_Legit fuel v0 v1 z2 v3 z4 r2 hr3) rfl (LentAll.cons (Lent.fact 0 rfl) (LentAll.cons (Lent.fact 1 rfl) (LentAll.cons (Lent.fact 2 rfl) .nil))) (fun _ _=>rfl)) rfl fun x4=>J.quiet (Y.not rfl) rfl<|J.done<|J.thenN ?_
 refine J.cond (by exact rfl) (fun hp5=> ?_) (fun hp5=> ?_)
 ·have h:=ifP hp5 h
  refine J.seq<|J.region<|J.quiet (Y.assign rfl) rfl<|J.quiet (Y.assign rfl) rfl<|J.done<|J.thenN<|J.ret<|J.thenR ?_
  obtain rfl:=Option.some.inj h
  exact J.retG2 (()) rfl rfl (RV.tmp rfl) (RV.tmp rfl) (SubM.nil) LentAll.nil
 ·have h:=ifBN hp5 h
  refine J.skip<|J.thenN<|J.seq<|J.region<|J.quiet (Y.move rfl) rfl ?_
  have h:=ck_some h;obtain⟨hc6,h⟩:=h
  refine J.quiet (Y.indexN rfl rfl (Lent.fact 2 rfl) rfl rfl hc6) rfl<|J.quiet (Y.loadRow rfl (Lent.fact 2 rfl) rfl rfl hc6) rfl ?_
  have h:=ck_some h;obtain⟨hc7,h⟩:=h
  refine J.quiet (Y.indexS rfl rfl (Lent.el (Lent.fact 2 rfl) hc6.1 hc6.2) rfl rfl hc7) rfl<|J.quiet (Y.loadS0 rfl (Lent.el (Lent.fact 2 rfl) hc6.1 hc6.2) rfl rfl rfl RI64c0 hc7) rfl<|J.quiet (Y.assign rfl) rfl<|J.quiet (Y.assign rfl) rfl<|J.done<|J.thenN<|J.ret ?_
  obtain rfl:=Option.some.inj h
  exact J.retG2 (()) rfl rfl (RV.tmp rfl) (RV.tmp rfl) (SubM.nil) LentAll.nil
end Go.Proofs.YtfbkplemadmbfaaGreatDoor
end
section
namespace Go.Proofs.YtfbkplemadmbfaaGreatDoor
open Go.Sx
def m_ref37_Total (fuel:Nat) (p0:List (Int)×(List (List (Int×Int)))) (p1:List (List (Int))):Option (Int×Bool):=
 Option.bind (m_ref37_Legit fuel ((p0.1,p0.2)) p1) fun r2=>(if(!r2)=true then(some ((0:Int),false))else(ck (0<=(0:Int)∧(0:Int)<(List.length p1:Int)) (ck (0<=(5:Int)∧(5:Int)<(List.length (at' p1 (0:Int)):Int)) (some ((at' (at' p1 (0:Int)) (5:Int)),true)))))
theorem body61:HasBody Tryz.prog 61:=Tryz.call61
theorem t_ref37_Total (fuel:Nat) {p0:List (Int)×(List (List (Int×Int)))} {p1:List (List (Int))} (v0:Value)  (v1:Value)  (z2:List (Value×List (Int×Int)))  (v3:Value)  (z4:List (Value×List (Int))) (r:Int×Bool) (h:m_ref37_Total fuel p0 p1=some r):
  Meets Tryz.prog 61 #[Value.agg #[v0,v1],v3] [Sl RI64 v0 p0.1,S2 RI64I64p v1 z2 p0.2,S2 RI64 v3 z4 p1] (fun x:Unit=>Value.tuple #[Value.int .i64 (r.1),Value.bool (r.2)]) (fun x l=>l) (fun _ l=>l):=by
 refine Meets.of (vs:=[Value.agg #[v0,v1],v3]) Tryz.func61 rfl Tryz.ntmps61 rfl fun c=> ?_
 unfold m_ref37_Total at h
 refine J.seq<|J.region<|J.loud (Loud.box (cs:=[v0,v1]) rfl rfl) rfl fun b1=>J.quiet (Y.assign rfl) rfl<|J.quiet (Y.assign rfl) rfl<|J.done<|J.thenN<|J.seq<|J.seq<|J.region<|J.quiet (Y.loadBAll 0 rfl rfl rfl rfl) rfl<|J.quiet (Y.move rfl) rfl ?_
 have h:=bnd h;obtain⟨r2,hr3,h⟩:=h
 refine J.loud (Loud.callL body24 (t_ref37_Legit fuel v0 v1 z2 v3 z4 r2 hr3) rfl (LentAll.cons (Lent.fact 0 rfl) (LentAll.cons (Lent.fact 1 rfl) (LentAll.cons (Lent.fact 2 rfl) .nil))) (fun _ _=>rfl)) rfl fun x4=>J.quiet (Y.not rfl) rfl<|J.done<|J.thenN ?_
 refine J.cond (by exact rfl) (fun hp5=> ?_) (fun hp5=> ?_)
 ·have h:=ifP hp5 h
  refine J.seq<|J.region<|J.quiet (Y.assign rfl) rfl<|J.quiet (Y.assign rfl) rfl<|J.done<|J.thenN<|J.ret<|J.thenR ?_
  obtain rfl:=Option.some.inj h
  exact J.retG2 (()) rfl rfl (RV.tmp rfl) (RV.tmp rfl) (SubM.nil) LentAll.nil
 ·have h:=ifBN hp5 h
  refine J.skip<|J.thenN<|J.seq<|J.region<|J.quiet (Y.move rfl) rfl ?_
  have h:=ck_some h;obtain⟨hc6,h⟩:=h
  refine J.quiet (Y.indexN rfl rfl (Lent.fact 2 rfl) rfl rfl hc6) rfl<|J.quiet (Y.loadRow rfl (Lent.fact 2 rfl) rfl rfl hc6) rfl ?_
  have h:=ck_some h;obtain⟨hc7,h⟩:=h
  refine J.quiet (Y.indexS rfl rfl (Lent.el (Lent.fact 2 rfl) hc6.1 hc6.2) rfl rfl hc7) rfl<|J.quiet (Y.loadS0 rfl (Lent.el (Lent.fact 2 rfl) hc6.1 hc6.2) rfl rfl rfl RI64c0 hc7) rfl<|J.quiet (Y.assign rfl) rfl<|J.quiet (Y.assign rfl) rfl<|J.done<|J.thenN<|J.ret ?_
  obtain rfl:=Option.some.inj h
  exact J.retG2 (()) rfl rfl (RV.tmp rfl) (RV.tmp rfl) (SubM.nil) LentAll.nil
end Go.Proofs.YtfbkplemadmbfaaGreatDoor
end
section
namespace Go.Proofs.YtfbkplemadmbfaaGreatDoor
open Go.Sx
def law37_totals_k1  (a9:Bool):Option (Bool):=
 some (a9)
def m_law37_totals (fuel:Nat) (p0:List (Int)×(List (List (Int×Int)))) (p1:List (List (Int))):Option (Bool):=
 Option.bind (m_snapshot_Total fuel ((p0.1,p0.2)) p1) fun r2=>(Option.bind (m_ref37_Total fuel ((p0.1,p0.2)) p1) fun r5=>(if r2.1=r5.1 then(law37_totals_k1  ((r2.2==r5.2)))else(law37_totals_k1  (false))))
theorem body27:HasBody Tryz.prog 27:=Tryz.call27
theorem t_law37_totals (fuel:Nat) {p0:List (Int)×(List (List (Int×Int)))} {p1:List (List (Int))} (v0:Value)  (v1:Value)  (z2:List (Value×List (Int×Int)))  (v3:Value)  (z4:List (Value×List (Int))) (r:Bool) (h:m_law37_totals fuel p0 p1=some r):
  Meets Tryz.prog 27 #[Value.agg #[v0,v1],v3] [Sl RI64 v0 p0.1,S2 RI64I64p v1 z2 p0.2,S2 RI64 v3 z4 p1] (fun x:Unit=>Value.bool (r)) (fun x l=>l) (fun _ l=>l):=by
 refine Meets.of (vs:=[Value.agg #[v0,v1],v3]) Tryz.func27 rfl Tryz.ntmps27 rfl fun c=> ?_
 unfold m_law37_totals at h
 refine J.seq<|J.region<|J.loud (Loud.box (cs:=[v0,v1]) rfl rfl) rfl fun b1=>J.quiet (Y.assign rfl) rfl<|J.done<|J.thenN<|J.seq<|J.region<|J.quiet (Y.loadBAll 0 rfl rfl rfl rfl) rfl<|J.quiet (Y.move rfl) rfl ?_
 have h:=bnd h;obtain⟨r2,hr3,h⟩:=h
 refine J.loud (Loud.callL body52 (t_snapshot_Total fuel v0 v1 z2 v3 z4 r2 hr3) rfl (LentAll.cons (Lent.fact 0 rfl) (LentAll.cons (Lent.fact 1 rfl) (LentAll.cons (Lent.fact 2 rfl) .nil))) (fun _ _=>rfl)) rfl fun x4=>J.quiet (Y.move rfl) rfl<|J.quiet (Y.extract rfl rfl) rfl<|J.quiet (Y.extract rfl rfl) rfl<|J.quiet (Y.assign rfl) rfl<|J.quiet (Y.assign rfl) rfl<|J.done<|J.thenN<|J.seq<|J.region<|J.quiet (Y.loadBAll 0 rfl rfl rfl rfl) rfl<|J.quiet (Y.move rfl) rfl ?_
 have h:=bnd h;obtain⟨r5,hr6,h⟩:=h
 refine J.loud (Loud.callL body61 (t_ref37_Total fuel v0 v1 z2 v3 z4 r5 hr6) rfl (LentAll.cons (Lent.fact 0 rfl) (LentAll.cons (Lent.fact 1 rfl) (LentAll.cons (Lent.fact 2 rfl) .nil))) (fun _ _=>rfl)) rfl fun x7=>J.quiet (Y.move rfl) rfl<|J.quiet (Y.extract rfl rfl) rfl<|J.quiet (Y.extract rfl rfl) rfl<|J.quiet (Y.assign rfl) rfl<|J.quiet (Y.assign rfl) rfl<|J.done<|J.thenN<|J.seq<|J.midI (A:=Bool) (B:=Unit) (fun a9=>law37_totals_k1  a9=some r) (fun a9 b10=>[(4,Value.bool (a9))]) (fun a9 b10=>[]) (fun a9 b10=>[Sl RI64 v0 p0.1,S2 RI64I64p v1 z2 p0.2,S2 RI64 v3 z4 p1]) ?_ ?_
 ·refine J.region<|J.quiet (Y.move rfl) rfl<|J.quiet (Y.move rfl) rfl<|J.quiet (Y.eql rfl rfl) rfl<|J.quiet (Y.move rfl) rfl ?_
  refine J.guardD (by exact rfl) (by exact rfl) (fun hp11=> ?_) (fun hp11=> ?_)
  ·have h:=ifP hp11 h
   refine J.guardY rfl (Y.move rfl) rfl<|J.guardY rfl (Y.move rfl) rfl<|J.guardY rfl (Y.eqlB rfl rfl rfl) rfl<|J.quiet (Y.pickT rfl rfl) rfl<|J.quiet (Y.assign rfl) rfl<|J.done<|J.thenN ?_
   exact J.meetI ((r2.2==r5.2)) (()) h SF (SubM.nil) (LentAll.refl _ _)
  ·have h:=ifN hp11 h
   refine J.guardN rfl rfl rfl<|J.guardN rfl rfl rfl<|J.guardN rfl rfl rfl<|J.quiet (Y.pickF rfl rfl) rfl<|J.quiet (Y.assign rfl) rfl<|J.done<|J.thenN ?_
   exact J.meetI (false) (()) h SF (SubM.nil) (LentAll.refl _ _)
 ·clear h
  intro a9 b10 h
  unfold law37_totals_k1 at h
  refine J.ret ?_
  obtain rfl:=Option.some.inj h
  exact J.retG1 (()) rfl rfl (RV.tmp rfl) (SubM.refl _) LentAll.nil
end Go.Proofs.YtfbkplemadmbfaaGreatDoor
end
section
namespace Go.Proofs.YtfbkplemadmbfaaGreatDoor
open Go.Sx
def law37_SnapshotJudges_k1  (a10:Bool):Option (Bool):=
 some (a10)
def m_law37_SnapshotJudges (fuel:Nat) (p0:List (Int)×(List (List (Int×Int)))) (p1:List (List (Int))):Option (Bool):=
 Option.bind (m_law37_large fuel ((p0.1,p0.2)) p1) fun r2=>(if r2=true then(Option.bind (m_law37_known fuel) fun r6=>(some (r6)))else(Option.bind (m_law37_known fuel) fun r12=>(if r12=true then(Option.bind (m_snapshot_Fit fuel ((p0.1,p0.2))) fun r16=>(Option.bind (m_ref37_Fit fuel ((p0.1,p0.2))) fun r19=>(if(r16==r19)=true then(Option.bind (m_snapshot_Legit fuel ((p0.1,p0.2)) p1) fun r23=>(Option.bind (m_ref37_Legit fuel ((p0.1,p0.2)) p1) fun r26=>(if(r23==r26)=true then(Option.bind (m_snapshot_Claim fuel ((p0.1,p0.2))) fun r30=>(Option.bind (m_ref37_Claim fuel ((p0.1,p0.2))) fun r33=>(if(r30.1,r30.2.1,r30.2.2.1,r30.2.2.2.1,r30.2.2.2.2)=(r33.1,r33.2.1,r33.2.2.1,r33.2.2.2.1,r33.2.2.2.2)then(Option.bind (m_law37_totals fuel ((p0.1,p0.2)) p1) fun r37=>(law37_SnapshotJudges_k1  (r37)))else(law37_SnapshotJudges_k1  (false)))))else(law37_SnapshotJudges_k1  (false)))))else(law37_SnapshotJudges_k1  (false)))))else(law37_SnapshotJudges_k1  (false)))))
theorem t_law37_SnapshotJudges (fuel:Nat) {p0:List (Int)×(List (List (Int×Int)))} {p1:List (List (Int))} (v0:Value)  (v1:Value)  (z2:List (Value×List (Int×Int)))  (v3:Value)  (z4:List (Value×List (Int))) (r:Bool) (h:m_law37_SnapshotJudges fuel p0 p1=some r):
  Meets Tryz.prog 5 #[Value.agg #[v0,v1],v3] [Sl RI64 v0 p0.1,S2 RI64I64p v1 z2 p0.2,S2 RI64 v3 z4 p1,Gb 0 (cellsOf EU8 tab0)] (fun x:Unit=>Value.bool (r)) (fun x l=>l) (fun _ l=>l):=by
 refine Meets.of (vs:=[Value.agg #[v0,v1],v3]) Tryz.func5 rfl Tryz.ntmps5 rfl fun c=> ?_
 unfold m_law37_SnapshotJudges at h
 refine J.seq<|J.region<|J.loud (Loud.box (cs:=[v0,v1]) rfl rfl) rfl fun b1=>J.quiet (Y.assign rfl) rfl<|J.done<|J.thenN<|J.seq<|J.seq<|J.region<|J.quiet (Y.loadBAll 0 rfl rfl rfl rfl) rfl<|J.quiet (Y.move rfl) rfl ?_
 have h:=bnd h;obtain⟨r2,hr3,h⟩:=h
 refine J.loud (Loud.callL body19 (t_law37_large fuel v0 v1 z2 v3 z4 r2 hr3) rfl (LentAll.cons (Lent.fact 0 rfl) (LentAll.cons (Lent.fact 1 rfl) (LentAll.cons (Lent.fact 2 rfl) .nil))) (fun _ _=>rfl)) rfl fun x4=>J.done<|J.thenN ?_
 refine J.cond (by exact rfl) (fun hp5=> ?_) (fun hp5=> ?_)
 ·have h:=ifP hp5 h
  refine J.seq<|J.region ?_
  have h:=bnd h;obtain⟨r6,hr7,h⟩:=h
  refine J.loud (Loud.callL body20 (t_law37_known fuel  r6 hr7) rfl (LentAll.cons (Lent.fact 3 rfl) .nil) (fun _ _=>rfl)) rfl fun x8=>J.quiet (Y.assign rfl) rfl<|J.done<|J.thenN<|J.ret<|J.thenR ?_
  obtain rfl:=Option.some.inj h
  exact J.retG1 (()) rfl rfl (RV.tmp rfl) (SubM.nil) LentAll.nil
 ·have h:=ifBN hp5 h
  refine J.skip<|J.thenN<|J.seq<|J.midI (A:=Bool) (B:=Unit) (fun a10=>law37_SnapshotJudges_k1  a10=some r) (fun a10 b11=>[(4,Value.bool (a10))]) (fun a10 b11=>[]) (fun a10 b11=>[Sl RI64 v0 p0.1,S2 RI64I64p v1 z2 p0.2,S2 RI64 v3 z4 p1,Gb 0 (cellsOf EU8 tab0)]) ?_ ?_
  ·refine JR.start [0,1,3,7,3,31,63,127,255,511,511,2047,511,511,16383,32767,65535,131071,262143,524287,262143,2097151,4194303,8388607,16777215,33554431,33554431,134217727,268435455,536870911] 27 mixedOrders (by decide +kernel) ?_
   refine JR.open (by exact rfl) ?_
   have h:=bnd h;obtain⟨r12,hr13,h⟩:=h
   refine JR.loud rfl rfl rfl (Loud.callL body20 (t_law37_known fuel  r12 hr13) rfl (LentAll.cons (Lent.fact 3 rfl) .nil) (fun _ _=>rfl)) rfl (fun x14=>BsOk.z) fun x14=>JR.qt rfl (SubM.nil) (SubL.nil) (Y.move rfl) (HistOk.b rfl HistOk.z) ?_
   refine JR.guard (by exact rfl) (by exact rfl) (by exact rfl) (fun hp15=> ?_) (fun hp15=> ?_)
   ·have h:=ifP hp15 h
    refine JR.qtG rfl (SubM.refl _) (SubL.nil) (Y.loadBAll 0 rfl rfl rfl rfl) (HistOk.b rfl HistOk.z) ?_
    have h:=bnd h;obtain⟨r16,hr17,h⟩:=h
    refine JR.loudG rfl rfl rfl rfl (Loud.callL body21 (t_snapshot_Fit fuel v0 v1 z2 r16 hr17) rfl (LentAll.cons (Lent.fact 0 rfl) (LentAll.cons (Lent.fact 1 rfl) .nil)) (fun _ _=>rfl)) rfl (fun x18=>(BsOk.b rfl (BsOk.b rfl BsOk.z))) fun x18=>JR.qtG rfl (SubM.refl _) (SubL.nil) (Y.loadBAll 0 rfl rfl rfl rfl) (HistOk.h (SubM.cons 0 rfl (SubM.nil)) (SubL.nil) (HistOk.b rfl HistOk.z)) ?_
    have h:=bnd h;obtain⟨r19,hr20,h⟩:=h
    refine JR.loudG rfl rfl rfl rfl (Loud.callL body22 (t_ref37_Fit fuel v0 v1 z2 r19 hr20) rfl (LentAll.cons (Lent.fact 0 rfl) (LentAll.cons (Lent.fact 1 rfl) .nil)) (fun _ _=>rfl)) rfl (fun x21=>(BsOk.b rfl (BsOk.b rfl (BsOk.b rfl BsOk.z)))) fun x21=>JR.qtG rfl (SubM.nil) (SubL.nil) (Y.eqlB rfl rfl rfl) (HistOk.b rfl (HistOk.b rfl (HistOk.b rfl HistOk.z)))<|JR.qt rfl (SubM.nil) (SubL.nil) (Y.pickT rfl rfl) (HistOk.b rfl (HistOk.b rfl (HistOk.b rfl HistOk.z)))<|JR.qt rfl (SubM.nil) (SubL.nil) (Y.move rfl) (HistOk.b rfl (HistOk.b rfl (HistOk.b rfl HistOk.z))) ?_
    refine JR.guard (by exact rfl) (by exact rfl) (by exact rfl) (fun hp22=> ?_) (fun hp22=> ?_)
    ·have h:=ifP hp22 h
     refine JR.qtG rfl (SubM.refl _) (SubL.nil) (Y.loadBAll 0 rfl rfl rfl rfl) (HistOk.b rfl (HistOk.b rfl (HistOk.b rfl HistOk.z)))<|JR.qtG rfl (SubM.nil) (SubL.nil) (Y.move rfl) (HistOk.b rfl (HistOk.b rfl (HistOk.b rfl HistOk.z))) ?_
     have h:=bnd h;obtain⟨r23,hr24,h⟩:=h
     refine JR.loudG rfl rfl rfl rfl (Loud.callL body23 (t_snapshot_Legit fuel v0 v1 z2 v3 z4 r23 hr24) rfl (LentAll.cons (Lent.fact 0 rfl) (LentAll.cons (Lent.fact 1 rfl) (LentAll.cons (Lent.fact 2 rfl) .nil))) (fun _ _=>rfl)) rfl (fun x25=>(BsOk.b rfl (BsOk.b rfl (BsOk.b rfl (BsOk.b rfl (BsOk.b rfl (BsOk.b rfl (BsOk.b rfl (BsOk.b rfl BsOk.z))))))))) fun x25=>JR.qtG rfl (SubM.refl _) (SubL.nil) (Y.loadBAll 0 rfl rfl rfl rfl) (HistOk.h (SubM.cons 0 rfl (SubM.nil)) (SubL.nil) (HistOk.b rfl (HistOk.b rfl (HistOk.b rfl HistOk.z))))<|JR.qtG rfl (SubM.nil) (SubL.nil) (Y.move rfl) (HistOk.h (SubM.nil) (SubL.nil) (HistOk.b rfl (HistOk.b rfl (HistOk.b rfl HistOk.z)))) ?_
     have h:=bnd h;obtain⟨r26,hr27,h⟩:=h
     refine JR.loudG rfl rfl rfl rfl (Loud.callL body24 (t_ref37_Legit fuel v0 v1 z2 v3 z4 r26 hr27) rfl (LentAll.cons (Lent.fact 0 rfl) (LentAll.cons (Lent.fact 1 rfl) (LentAll.cons (Lent.fact 2 rfl) .nil))) (fun _ _=>rfl)) rfl (fun x28=>(BsOk.b rfl (BsOk.b rfl (BsOk.b rfl (BsOk.b rfl (BsOk.b rfl (BsOk.b rfl (BsOk.b rfl (BsOk.b rfl (BsOk.b rfl (BsOk.b rfl BsOk.z))))))))))) fun x28=>JR.qtG rfl (SubM.nil) (SubL.nil) (Y.eqlB rfl rfl rfl) (HistOk.b rfl (HistOk.b rfl (HistOk.b rfl (HistOk.b rfl (HistOk.b rfl HistOk.z)))))<|JR.qt rfl (SubM.nil) (SubL.nil) (Y.pickT rfl rfl) (HistOk.b rfl (HistOk.b rfl (HistOk.b rfl (HistOk.b rfl (HistOk.b rfl HistOk.z)))))<|JR.qt rfl (SubM.nil) (SubL.nil) (Y.move rfl) (HistOk.b rfl (HistOk.b rfl (HistOk.b rfl (HistOk.b rfl (HistOk.b rfl HistOk.z))))) ?_
     refine JR.guard (by exact rfl) (by exact rfl) (by exact rfl) (fun hp29=> ?_) (fun hp29=> ?_)
     ·have h:=ifP hp29 h
      refine JR.qtG rfl (SubM.refl _) (SubL.nil) (Y.loadBAll 0 rfl rfl rfl rfl) (HistOk.b rfl (HistOk.b rfl (HistOk.b rfl (HistOk.b rfl (HistOk.b rfl HistOk.z))))) ?_
      have h:=bnd h;obtain⟨r30,hr31,h⟩:=h
      refine JR.loudG rfl rfl rfl rfl (Loud.callL body25 (t_snapshot_Claim fuel v0 v1 z2 r30 hr31) rfl (LentAll.cons (Lent.fact 0 rfl) (LentAll.cons (Lent.fact 1 rfl) .nil)) (fun _ _=>rfl)) rfl (fun x32=>(BsOk.b rfl (BsOk.b rfl (BsOk.b rfl (BsOk.b rfl (BsOk.b rfl (BsOk.b rfl (BsOk.b rfl (BsOk.b rfl (BsOk.b rfl (BsOk.b rfl (BsOk.b rfl (BsOk.b rfl (BsOk.b rfl (BsOk.b rfl BsOk.z))))))))))))))) fun x32=>JR.qtG rfl (SubM.refl _) (SubL.nil) (Y.loadBAll 0 rfl rfl rfl rfl) (HistOk.h (SubM.cons 0 rfl (SubM.nil)) (SubL.nil) (HistOk.b rfl (HistOk.b rfl (HistOk.b rfl (HistOk.b rfl (HistOk.b rfl HistOk.z)))))) ?_
      have h:=bnd h;obtain⟨r33,hr34,h⟩:=h
      refine JR.loudG rfl rfl rfl rfl (Loud.callL body26 (t_ref37_Claim fuel v0 v1 z2 r33 hr34) rfl (LentAll.cons (Lent.fact 0 rfl) (LentAll.cons (Lent.fact 1 rfl) .nil)) (fun _ _=>rfl)) rfl (fun x35=>(BsOk.b rfl (BsOk.b rfl (BsOk.b rfl (BsOk.b rfl (BsOk.b rfl (BsOk.b rfl (BsOk.b rfl (BsOk.b rfl (BsOk.b rfl (BsOk.b rfl (BsOk.b rfl (BsOk.b rfl (BsOk.b rfl (BsOk.b rfl (BsOk.b rfl BsOk.z)))))))))))))))) fun x35=>JR.qtG rfl (SubM.nil) (SubL.nil) (Y.eqA rfl rfl (eq_T34 (r30.1,r30.2.1,r30.2.2.1,r30.2.2.2.1,r30.2.2.2.2) (r33.1,r33.2.1,r33.2.2.1,r33.2.2.2.1,r33.2.2.2.2) _ _)) (HistOk.b rfl (HistOk.b rfl (HistOk.b rfl (HistOk.b rfl (HistOk.b rfl (HistOk.b rfl (HistOk.b rfl HistOk.z)))))))<|JR.qt rfl (SubM.nil) (SubL.nil) (Y.pickT rfl rfl) (HistOk.b rfl (HistOk.b rfl (HistOk.b rfl (HistOk.b rfl (HistOk.b rfl (HistOk.b rfl (HistOk.b rfl HistOk.z)))))))<|JR.qt rfl (SubM.nil) (SubL.nil) (Y.move rfl) (HistOk.b rfl (HistOk.b rfl (HistOk.b rfl (HistOk.b rfl (HistOk.b rfl (HistOk.b rfl (HistOk.b rfl HistOk.z))))))) ?_
      refine JR.guardD (by exact rfl) (by exact rfl) (by exact rfl) (fun hp36=> ?_) (fun hp36=> ?_)
      ·have h:=ifP hp36 h
       refine JR.qtG rfl (SubM.refl _) (SubL.nil) (Y.loadBAll 0 rfl rfl rfl rfl) (HistOk.b rfl (HistOk.b rfl (HistOk.b rfl (HistOk.b rfl (HistOk.b rfl (HistOk.b rfl (HistOk.b rfl HistOk.z)))))))<|JR.qtG rfl (SubM.nil) (SubL.nil) (Y.move rfl) (HistOk.b rfl (HistOk.b rfl (HistOk.b rfl (HistOk.b rfl (HistOk.b rfl (HistOk.b rfl (HistOk.b rfl HistOk.z)))))))<|JR.tailD 27 rfl rfl ?_
       have h:=bnd h;obtain⟨r37,hr38,h⟩:=h
       refine J.loudG rfl (Loud.callL body27 (t_law37_totals fuel v0 v1 z2 v3 z4 r37 hr38) rfl (LentAll.cons (Lent.fact 0 rfl) (LentAll.cons (Lent.fact 1 rfl) (LentAll.cons (Lent.fact 2 rfl) .nil))) (fun _ _=>rfl)) rfl fun x39=>J.quiet (Y.pickT rfl rfl) rfl<|J.quiet (Y.assign rfl) rfl<|J.done<|J.thenN ?_
       exact J.meetI (r37) (()) h SF (SubM.nil) (LentAll.refl _ _)
      ·have h:=ifN hp36 h
       refine JR.guardN rfl rfl rfl rfl<|JR.guardN rfl rfl rfl rfl<|JR.tailD 27 rfl rfl<|J.guardN rfl rfl rfl<|J.quiet (Y.pickF rfl rfl) rfl<|J.quiet (Y.assign rfl) rfl<|J.done<|J.thenN ?_
       exact J.meetI (false) (()) h SF (SubM.nil) (LentAll.refl _ _)
     ·have h:=ifBN hp29 h
      refine JR.guardN rfl rfl rfl rfl<|JR.guardN rfl rfl rfl rfl<|JR.guardN rfl rfl rfl rfl<|JR.guardN rfl rfl rfl rfl<|JR.guardN rfl rfl rfl rfl<|JR.qt rfl (SubM.nil) (SubL.nil) (Y.pickF rfl rfl) (HistOk.b rfl (HistOk.b rfl (HistOk.b rfl (HistOk.b rfl (HistOk.b rfl HistOk.z)))))<|JR.qt rfl (SubM.nil) (SubL.nil) (Y.move rfl) (HistOk.b rfl (HistOk.b rfl (HistOk.b rfl (HistOk.b rfl (HistOk.b rfl HistOk.z)))))<|JR.guardN rfl rfl rfl rfl<|JR.guardN rfl rfl rfl rfl<|JR.tailD 27 rfl rfl<|J.guardN rfl rfl rfl<|J.quiet (Y.pickF rfl rfl) rfl<|J.quiet (Y.assign rfl) rfl<|J.done<|J.thenN ?_
      exact J.meetI (false) (()) h SF (SubM.nil) (LentAll.refl _ _)
    ·have h:=ifBN hp22 h
     refine JR.guardN rfl rfl rfl rfl<|JR.guardN rfl rfl rfl rfl<|JR.guardN rfl rfl rfl rfl<|JR.guardN rfl rfl rfl rfl<|JR.guardN rfl rfl rfl rfl<|JR.guardN rfl rfl rfl rfl<|JR.guardN rfl rfl rfl rfl<|JR.qt rfl (SubM.nil) (SubL.nil) (Y.pickF rfl rfl) (HistOk.b rfl (HistOk.b rfl (HistOk.b rfl HistOk.z)))<|JR.qt rfl (SubM.nil) (SubL.nil) (Y.move rfl) (HistOk.b rfl (HistOk.b rfl (HistOk.b rfl HistOk.z)))<|JR.guardN rfl rfl rfl rfl<|JR.guardN rfl rfl rfl rfl<|JR.guardN rfl rfl rfl rfl<|JR.guardN rfl rfl rfl rfl<|JR.guardN rfl rfl rfl rfl<|JR.qt rfl (SubM.nil) (SubL.nil) (Y.pickF rfl rfl) (HistOk.b rfl (HistOk.b rfl (HistOk.b rfl HistOk.z)))<|JR.qt rfl (SubM.nil) (SubL.nil) (Y.move rfl) (HistOk.b rfl (HistOk.b rfl (HistOk.b rfl HistOk.z)))<|JR.guardN rfl rfl rfl rfl<|JR.guardN rfl rfl rfl rfl<|JR.tailD 27 rfl rfl<|J.guardN rfl rfl rfl<|J.quiet (Y.pickF rfl rfl) rfl<|J.quiet (Y.assign rfl) rfl<|J.done<|J.thenN ?_
     exact J.meetI (false) (()) h SF (SubM.nil) (LentAll.refl _ _)
   ·have h:=ifBN hp15 h
    refine JR.guardN rfl rfl rfl rfl<|JR.guardN rfl rfl rfl rfl<|JR.guardN rfl rfl rfl rfl<|JR.guardN rfl rfl rfl rfl<|JR.guardN rfl rfl rfl rfl<|JR.qt rfl (SubM.nil) (SubL.nil) (Y.pickF rfl rfl) (HistOk.b rfl HistOk.z)<|JR.qt rfl (SubM.nil) (SubL.nil) (Y.move rfl) (HistOk.b rfl HistOk.z)<|JR.guardN rfl rfl rfl rfl<|JR.guardN rfl rfl rfl rfl<|JR.guardN rfl rfl rfl rfl<|JR.guardN rfl rfl rfl rfl<|JR.guardN rfl rfl rfl rfl<|JR.guardN rfl rfl rfl rfl<|JR.guardN rfl rfl rfl rfl<|JR.qt rfl (SubM.nil) (SubL.nil) (Y.pickF rfl rfl) (HistOk.b rfl HistOk.z)<|JR.qt rfl (SubM.nil) (SubL.nil) (Y.move rfl) (HistOk.b rfl HistOk.z)<|JR.guardN rfl rfl rfl rfl<|JR.guardN rfl rfl rfl rfl<|JR.guardN rfl rfl rfl rfl<|JR.guardN rfl rfl rfl rfl<|JR.guardN rfl rfl rfl rfl<|JR.qt rfl (SubM.nil) (SubL.nil) (Y.pickF rfl rfl) (HistOk.b rfl HistOk.z)<|JR.qt rfl (SubM.nil) (SubL.nil) (Y.move rfl) (HistOk.b rfl HistOk.z)<|JR.guardN rfl rfl rfl rfl<|JR.guardN rfl rfl rfl rfl<|JR.tailD 27 rfl rfl<|J.guardN rfl rfl rfl<|J.quiet (Y.pickF rfl rfl) rfl<|J.quiet (Y.assign rfl) rfl<|J.done<|J.thenN ?_
    exact J.meetI (false) (()) h SF (SubM.nil) (LentAll.refl _ _)
  ·clear h
   intro a10 b11 h
   unfold law37_SnapshotJudges_k1 at h
   refine J.ret ?_
   obtain rfl:=Option.some.inj h
   exact J.retG1 (()) rfl rfl (RV.tmp rfl) (SubM.refl _) LentAll.nil
end Go.Proofs.YtfbkplemadmbfaaGreatDoor
end
section
namespace Go.Proofs.YtfbkplemadmbfaaGreatDoor
open Go Go.Sx
def prt (g:GR) (c:List (List Int)) (v:Nat):Int:=if 0<=at' (at' c (v:Int)) 1 then(at' (at' g.2 (v:Int)) (at' (at' c (v:Int)) 1)).1 else -1
def parL (g:GR) (c:List (List Int)) (k:Nat):List Int:=(List.range k).map (prt g c)
theorem parL_len {g:GR} {c:List (List Int)} {k:Nat}:(parL g c k).length=k:=by simp[parL]
theorem parL_at {g:GR} {c:List (List Int)} {k v:Nat} (hv:v<k):at' (parL g c k) (v:Int)=prt g c v:=by
 rw[at'_nat,List.getD_eq_getElem?_getD]
 simp[parL,hv]
theorem parL_succ {g:GR} {c:List (List Int)} {k:Nat}:parL g c (k+1)=parL g c k++[prt g c k]:=by simp[parL,List.range_succ]
def PtrOk (g:GR) (c:List (List Int)):Prop:=c.length=g.2.length∧∀v,v<g.2.length->2<=(at' c (v:Int)).length ∧ -1<=at' (at' c (v:Int)) 1∧at' (at' c (v:Int)) 1<((at' g.2 (v:Int)).length:Int)
theorem towards_eq {g:GR} {c:List (List Int)} (h24:g.2.length<=24) (h:PtrOk g c):m_bfs_Towards 1000 g c 1=some (parL g c c.length):=by
 have hl:=h.1
 unfold m_bfs_Towards
 rw[ckT (by omega)]
 have key:=iter_for (step:=bfs_Towards_s1 g c 1) (K:=some (parL g c c.length)) c.length (fun k=>((k:Int),parL g c k++List.replicate (c.length - k) 0)) (fun k ag hk=> ?_) (fun ag=> ?_) 1000 (by omega)
 ·simpa [parL]using key
 ·obtain⟨h1,h2,h3⟩:=h.2 k (by omega)
  obtain⟨j,hj⟩:∃j,c.length - k=j+1:=⟨c.length - k - 1,by omega⟩
  have hlen:(parL g c k++List.replicate (c.length - k) 0).length=c.length:=by simp[parL_len];omega
  have hset:∀a:Int,(parL g c k++List.replicate (c.length - k) 0).set k a=parL g c k++a::List.replicate j 0:=fun a=>by rw[hj,List.replicate_succ,set_at _ _ _ _ k parL_len]
  have hset2:∀a b:Int,(parL g c k++a::List.replicate j 0).set k b=parL g c k++b::List.replicate j 0:=fun a b=>set_at _ _ _ _ k parL_len
  have hfin:parL g c k++prt g c k::List.replicate j 0=parL g c (k+1)++List.replicate (c.length - (k+1)) 0:=by rw[parL_succ,List.append_assoc,show c.length - (k+1)=j by omega];rfl
  unfold bfs_Towards_s1 bfs_Towards_k2
  dsimp only
  rw[if_pos (by omega),ckT (by omega),ckT (by rw[hlen];omega),ckT (by omega),show Int.toNat (k:Int)=k from rfl,hset]
  by_cases e:0<=at' (at' c (k:Int)) 1
  ·have hp:prt g c k=(at' (at' g.2 (k:Int)) (at' (at' c (k:Int)) 1)).1:=if_pos e
   rw[if_pos e,ckT (by omega),ckT (by omega),ckT ⟨e,h3⟩,ckT (by simp[parL_len];omega),hset2,<-hp,hfin,wIncI (by omega)]
  ·have hp:prt g c k = -1:=if_neg e
   rw[if_neg e,<-hp,hfin,wIncI (by omega)]
 ·unfold bfs_Towards_s1 bfs_Towards_k1
  dsimp only
  rw[if_neg (by omega),Nat.sub_self];simp
theorem named_eq {g:GR} {c:List (List Int)} (h24:g.2.length<=24) (h:PtrOk g c):m_ref23_Named 1000 g c 1=some (parL g c c.length):=by
 have hl:=h.1
 unfold m_ref23_Named
 have key:=iter_for (step:=ref23_Named_s1 g c 1) (K:=some (parL g c c.length)) c.length (fun k=>(parL g c k,(k:Int))) (fun k ag hk=> ?_) (fun ag=> ?_) 1000 (by omega)
 ·exact key
 ·obtain⟨h1,h2,h3⟩:=h.2 k (by omega)
  unfold ref23_Named_s1 ref23_Named_k2
  dsimp only
  rw[if_pos (by omega),ckT (by omega),ckT (by omega)]
  by_cases e:0<=at' (at' c (k:Int)) 1
  ·have hp:prt g c k=(at' (at' g.2 (k:Int)) (at' (at' c (k:Int)) 1)).1:=if_pos e
   rw[if_pos e,ckT (by omega),ckT (by omega),ckT (by omega),ckT ⟨e,h3⟩,ckT (by simp[parL_len];omega),<-hp,<-parL_succ,wIncI (by omega)]
  ·have hp:prt g c k = -1:=if_neg e
   rw[if_neg e,ckT (by simp[parL_len];omega),<-hp,<-parL_succ,wIncI (by omega)]
 ·unfold ref23_Named_s1
  dsimp only
  rw[if_neg (by omega)];rfl
structure Par (g:GR) (d:List Int) (P:Nat->Int):Prop where
 root:P 0 = -1
 up:∀v,v<g.2.length->v≠0->∃u:Nat,u<g.2.length∧P v=u∧D d u=D d v - 1
theorem par_of_tree {g:GR} (hV:VG g) (hc:Conn g) {d:List Int} (hD:Dist g 0 d) {c:List (List Int)} (hT:∀v,v<g.2.length->TreeAt g d v (at' c (v:Int))):Par g d (prt g c):=by
 have h1:=hV.n1
 have hall:∀v,v<g.2.length->0<=D d v:=fun v hv=>(conn_iff hV (s:=0) (by omega) hD).2 hc v (by rw[hD.len];exact hv)
 refine⟨?_,fun v hv h0=> ?_⟩
 ·obtain⟨_,h⟩:=hT 0 (by omega)
  rcases h with⟨i,h2,_,h3,_⟩|⟨h2,_⟩
  ·obtain⟨u,hu,e⟩:=hV.to (v:=0) (by omega) h2
   unfold Low at h3
   rw[e]at h3
   have h4:=(hD.zero 0 (by omega)).2 rfl
   have h5:=hall u hu
   have h6:D d u=D d 0 - 1:=h3
   omega
  ·exact if_neg (by rw[show at' (at' c ((0:Nat):Int)) 1 = -1 from h2];omega)
 ·obtain⟨_,h⟩:=hT v hv
  have hp:0<D d v:=by
   have:=hall v hv
   rcases Int.lt_or_eq_of_le this with q|q
   ·exact q
   ·exact absurd ((hD.zero v hv).1 q.symm) h0
  rcases h with⟨i,h2,h4,h3,_⟩|⟨_,h2⟩
  ·obtain⟨u,hu,e⟩:=hV.to hv h2
   unfold Low at h3
   rw[e]at h3
   refine⟨u,hu,?_,h3⟩
   unfold prt
   rw[if_pos (by omega),h4]
   exact e
  ·obtain⟨u,hu,⟨i,hi,e⟩,hd⟩:=hD.near v hv hp
   exact absurd (by unfold Low;rw[e];exact hd) (h2 i hi)

def WAt (P:Nat->Int) (c:List (List Int)) (v:Nat):Prop:=v=0∨(at' (at' c (P v)) 2=0->at' (at' c (v:Int)) 2=0∧at' (at' c (v:Int)) 3=at' (at' c (P v)) 3)
section
variable {g:GR} (hV:VG g) {d:List Int} {c:List (List Int)} (hl:c.length=g.2.length) (hr:∀v,v<g.2.length->4<=(at' c (v:Int)).length) (h2:∀v,v<g.2.length->at' (at' c (v:Int)) 2=0∨at' (at' c (v:Int)) 2=1) (hP:Par g d (prt g c))
 include hV hl hr h2 hP
theorem wave_loop:((∀v,v<g.2.length->WAt (prt g c) c v)->iter (wave_Legit_s1 c (parL g c c.length)) 1000 0=some true)∧(¬(∀v,v<g.2.length->WAt (prt g c) c v)->iter (wave_Legit_s1 c (parL g c c.length)) 1000 0=some false):=by
 have h24:=hV.n24
 have hpl:(parL g c c.length).length=c.length:=parL_len
 refine iter_early (step:=wave_Legit_s1 c (parL g c c.length)) (K:=some true) (bad:=some false) g.2.length (WAt (prt g c) c) (fun k=>(k:Int)) (fun k ag hk hp=> ?_) (fun k ag hk hp=> ?_) (fun ag=> ?_) 1000 (by omega)
 ·unfold wave_Legit_s1 wave_Legit_k4 wave_Legit_k5 wave_Legit_k3
  rw[if_pos (by omega),ckT (by omega),parL_at (by omega)]
  by_cases h0:k=0
  ·subst h0
   rw[if_pos (by rw[hP.root];omega),if_pos rfl];rfl
  ·obtain⟨u,hu,e,_⟩:=hP.up k hk h0
   have hru:=hr u hu
   have hrk:=hr k hk
   rcases hp with hp|hp
   ·exact absurd hp h0
   rw[e]at hp ⊢
   rw[if_neg (by omega),ckT (by omega),ckT (by omega)]
   rcases h2 u hu with q|q
   ·obtain⟨q1,q2⟩:=hp q
    rw[decide_eq_false (by omega),if_neg (by simp),ckT (by omega),ckT (by omega),ckT (by omega),ckT (by omega),if_neg (by omega),ckT (by omega),ckT (by omega),ckT (by omega),ckT (by omega),decide_eq_false (by omega),if_neg (by simp),wIncI (by omega)]
   ·rw[decide_eq_true q,if_pos rfl,wIncI (by omega)]
 ·unfold wave_Legit_s1 wave_Legit_k4 wave_Legit_k5 wave_Legit_k3
  rw[if_pos (by omega),ckT (by omega),parL_at (by omega)]
  have h0:k≠0:=fun e=>hp (.inl e)
  obtain⟨u,hu,e,_⟩:=hP.up k hk h0
  have hru:=hr u hu
  have hrk:=hr k hk
  have hp':¬(at' (at' c (u:Int)) 2=0->at' (at' c (k:Int)) 2=0∧at' (at' c (k:Int)) 3=at' (at' c (u:Int)) 3):=fun h=>hp (.inr (by rw[e];exact h))
  rw[e]
  rw[if_neg (by omega),ckT (by omega),ckT (by omega)]
  have q:at' (at' c (u:Int)) 2=0:=by
   rcases h2 u hu with q|q
   ·exact q
   ·exact absurd (fun h=>by omega) hp'
  rw[decide_eq_false (by omega),if_neg (by simp),ckT (by omega),ckT (by omega),ckT (by omega),ckT (by omega)]
  by_cases q1:at' (at' c (k:Int)) 2=0
  ·rw[if_neg (by omega),ckT (by omega),ckT (by omega),ckT (by omega),ckT (by omega),if_pos]
   rw[decide_eq_true_eq]
   exact fun q2=>hp' fun _=>⟨q1,q2⟩
  ·rw[if_pos (by omega),if_pos rfl]
 ·unfold wave_Legit_s1
  rw[if_neg (by omega)];rfl
theorem ordered_loop:((∀v,v<g.2.length->WAt (prt g c) c v)->iter (ref35_Ordered_s1 c (parL g c c.length)) 1000 1=some true)∧(¬(∀v,v<g.2.length->WAt (prt g c) c v)->iter (ref35_Ordered_s1 c (parL g c c.length)) 1000 1=some false):=by
 have h24:=hV.n24
 have h1:=hV.n1
 have hpl:(parL g c c.length).length=c.length:=parL_len
 have key:=iter_early (step:=ref35_Ordered_s1 c (parL g c c.length)) (K:=some true) (bad:=some false) (g.2.length - 1) (fun k=>WAt (prt g c) c (k+1)) (fun k=>((k+1:Nat):Int)) (fun k ag hk hp=> ?_) (fun k ag hk hp=> ?_) (fun ag=> ?_) 1000 (by omega)
 ·refine⟨fun h=>key.1 fun k hk=>h (k+1) (by omega),fun h=>key.2 fun h'=>h fun v hv=> ?_⟩
  cases v with
  |zero=>exact .inl rfl
  |succ v=>exact h' v (by omega)
 all_goals unfold ref35_Ordered_s1
 ·obtain⟨u,hu,e,_⟩:=hP.up (k+1) (by omega) (by omega)
  have hru:=hr u hu
  have hrk:=hr (k+1) (by omega)
  rw[if_pos (by omega),ckT (by omega),parL_at (by omega)]
  rcases hp with hp|hp
  ·omega
  rw[e]at hp ⊢
  unfold ref35_Ordered_k2
  rw[ckT (by omega),ckT (by omega)]
  by_cases q:at' (at' c (u:Int)) 2=0
  ·obtain⟨q1,q2⟩:=hp q
   rw[if_pos q,ckT (by omega),ckT (by omega),if_neg (by omega),ckT (by omega),ckT (by omega),ckT (by omega),ckT (by omega),decide_eq_false (by omega),if_neg (by simp),wIncI (by omega)]
  ·rw[if_neg q,if_neg (by simp),wIncI (by omega)]
 ·obtain⟨u,hu,e,_⟩:=hP.up (k+1) (by omega) (by omega)
  have hru:=hr u hu
  have hrk:=hr (k+1) (by omega)
  rw[if_pos (by omega),ckT (by omega),parL_at (by omega)]
  have hp':¬(at' (at' c (u:Int)) 2=0->at' (at' c ((k+1:Nat):Int)) 2=0∧at' (at' c ((k+1:Nat):Int)) 3=at' (at' c (u:Int)) 3):=fun h=>hp (.inr (by rw[e];exact h))
  rw[e]
  unfold ref35_Ordered_k2
  rw[ckT (by omega),ckT (by omega)]
  have q:at' (at' c (u:Int)) 2=0:=by
   rcases h2 u hu with q|q
   ·exact q
   ·exact absurd (fun h=>by omega) hp'
  rw[if_pos q,ckT (by omega),ckT (by omega)]
  by_cases q1:at' (at' c ((k+1:Nat):Int)) 2=0
  ·rw[if_neg (by omega),ckT (by omega),ckT (by omega),ckT (by omega),ckT (by omega),if_pos]
   rw[decide_eq_true_eq]
   exact fun q2=>hp' fun _=>⟨q1,q2⟩
  ·rw[if_pos (by omega),if_pos rfl]
 ·rw[if_neg (by omega)];rfl
end
end Go.Proofs.YtfbkplemadmbfaaGreatDoor
end
section
namespace Go.Proofs.YtfbkplemadmbfaaGreatDoor
open Go Go.Sx
def onP (P:Nat->Int):Nat->Int->Nat->Bool
 |0,_,_=>false
 |f+1,w,u=>if w<0 then false else decide (w=(u:Int))||onP P f (P w.toNat) u
def xAt (c:List (List Int)) (v:Nat):Int:=at' (at' c (v:Int)) 4
def sumT (P:Nat->Int) (n:Nat) (c:List (List Int)) (u:Nat):Nat->Int
 |0=>0
 |k+1=>sumT P n c u k+if onP P (n+1) (k:Int) u then xAt c k else 0
theorem onP_neg {P:Nat->Int} {f:Nat} {w:Int} {u:Nat} (h:w<0):onP P f w u=false:=by
 cases f with
 |zero=>rfl
 |succ f=>simp[onP,h]
theorem sumT_bd {P:Nat->Int} {n:Nat} {c:List (List Int)} {u:Nat}:∀{k:Nat},(∀v,v<k->0<=xAt c v∧xAt c v<=15)->0<=sumT P n c u k∧sumT P n c u k<=15*k
 |0,_=>by simp[sumT]
 |k+1,h=>by
  have ih:=sumT_bd (P:=P) (n:=n) (u:=u) (k:=k) fun v hv=>h v (by omega)
  have hk:=h k (by omega)
  simp only[sumT]
  split<;>(push_cast;omega)
section
variable {g:GR} {d:List Int} {P:Nat->Int} (hP:Par g d P) (h0:∀v,v<g.2.length->0<=D d v)
 include hP h0
 omit h0 in
theorem onP_le:∀(f w u:Nat),w<g.2.length->onP P f (w:Int) u=true->D d u<=D d w
  |0,w,u,_,h=>by cases h
  | f + 1, w, u, hw, h => by
   simp only[onP]at h
   rw[if_neg (by omega),Bool.or_eq_true,decide_eq_true_eq]at h
   rcases h with h|h
   ·have:w=u:=by omega
    subst this;omega
   ·rw[show Int.toNat (w:Int)=w from rfl]at h
    by_cases e:w=0
    ·subst e
     rw[hP.root,onP_neg (by omega)]at h;cases h
    ·obtain⟨p,hp,e1,e2⟩:=hP.up w hw e
     rw[e1]at h
     have:=onP_le f p u hp h
     omega
theorem onP_stable (hz:D d 0=0):∀(m w f:Nat) (u:Nat),w<g.2.length->D d w=(m:Int)->m<f->onP P f (w:Int) u=onP P (m+1) (w:Int) u:=by
 intro m
 induction m with
 | zero =>
  intro w f u hw hd hf
  obtain⟨f,rfl⟩:∃k,f=k+1:=⟨f - 1,by omega⟩
  simp only[onP]
  rw[if_neg (by omega),if_neg (by omega)]
  congr 1
  have e:w=0:=by
   rcases Nat.eq_zero_or_pos w with e|e
   ·exact e
   ·obtain⟨p,hp,e1,e2⟩:=hP.up w hw (by omega)
    have:=h0 p hp
    omega
  subst e
  rw[show Int.toNat ((0:Nat):Int)=0 from rfl,hP.root,onP_neg (by omega)]
 |succ m ih=>
  intro w f u hw hd hf
  obtain⟨f,rfl⟩:∃k,f=k+1:=⟨f - 1,by omega⟩
  simp only[onP]
  rw[if_neg (by omega),if_neg (by omega)]
  congr 1
  have e:w≠0:=fun e=>by subst e;omega
  obtain⟨p,hp,e1,e2⟩:=hP.up w hw e
  rw[show Int.toNat (w:Int)=w from rfl,e1,ih p f u hp (by omega) (by omega)]
  rfl
end
section
variable {g:GR} (hV:VG g) {d:List Int} (hD:Dist g 0 d) {c:List (List Int)} (hl:c.length=g.2.length) (hr:∀v,v<g.2.length->(at' c (v:Int)).length=6) (hx:∀v,v<g.2.length->0<=xAt c v∧xAt c v<=15) (hP:Par g d (prt g c)) (h0:∀v,v<g.2.length->0<=D d v)
 include hV hD hl hP h0
 omit hD h0 in
theorem below_eq {v u:Nat} (hv:v<g.2.length) (hu:u<g.2.length):m_ref37_Below 1000 (parL g c c.length) (v:Int) (u:Int)=some (onP (prt g c) (g.2.length+1) (v:Int) u):=by
  have h24:=hV.n24
  have hpl:(parL g c c.length).length=g.2.length:=by rw[parL_len,hl]
  unfold m_ref37_Below
  have key:∀(j k fuel:Nat) (w:Int),j+k=g.2.length+1->j<fuel->(w = -1∨∃q:Nat,q<g.2.length∧w=(q:Int))->iter (ref37_Below_s1 (parL g c c.length) (u:Int)) fuel (w,(k:Int))=some (onP (prt g c) j w u):=by
   intro j
   induction j with
   |zero=>
    intro k fuel w hk hf hw
    obtain⟨fuel,rfl⟩:∃q,fuel=q+1:=⟨fuel - 1,by omega⟩
    show ref37_Below_s1 _ _ (w,(k:Int)) _=_
    unfold ref37_Below_s1 ref37_Below_k2 ref37_Below_k1
    dsimp only
    rw[if_neg (by omega),if_neg (by simp)];rfl
   | succ j ih =>
    intro k fuel w hk hf hw
    obtain⟨fuel,rfl⟩:∃q,fuel=q+1:=⟨fuel - 1,by omega⟩
    show ref37_Below_s1 _ _ (w,(k:Int)) (iter _ fuel)=_
    unfold ref37_Below_s1 ref37_Below_k2 ref37_Below_k1
    dsimp only
    rw[if_pos (by omega)]
    rcases hw with rfl|⟨q,hq,rfl⟩
    ·rw[decide_eq_false (by omega),if_neg (by simp),onP_neg (by omega)]
    ·rw[decide_eq_true (by omega),if_pos rfl]
     simp only[onP]
     rw[if_neg (show¬(q:Int)<0 by omega),show Int.toNat (q:Int)=q from rfl]
     by_cases e:(q:Int)=(u:Int)
     ·rw[if_pos e,decide_eq_true e,Bool.true_or]
     ·rw[if_neg e,decide_eq_false e,Bool.false_or,ckT (by omega),parL_at (by omega),wIncI (by omega)]
      refine ih (k+1) fuel _ (by omega) (by omega) ?_
      by_cases e0:q=0
      ·subst e0;exact .inl hP.root
      ·obtain⟨p,hp,e1,_⟩:=hP.up q hq e0
       exact .inr ⟨p,hp,e1⟩
  exact key (g.2.length+1) 0 1000 (v:Int) (by omega) (by omega) (.inr ⟨v,hv,rfl⟩)

 include hr hx
 omit hD in
theorem sums_inner {v:Nat} (hv:v<g.2.length) (R0:List Int) (ag:Int×List Int->Option (List Int)) (hz:D d 0=0):∀(m fuel:Nat) (w:Nat) (R:List Int),w<g.2.length->D d w=(m:Int)->m+1<fuel->R.length=g.2.length->(∀u,u<g.2.length->0<=at' R (u:Int)∧at' R (u:Int)<=1000000 - 15*(m+1:Nat))->
   ∃R':List Int,R'.length=g.2.length∧(∀u,u<g.2.length->at' R' (u:Int)=at' R (u:Int)+if onP (prt g c) (m+1) (w:Int) u then xAt c v else 0)∧iter (snapshot_sums_s2 c (parL g c c.length) ((v:Int),R0) ag) fuel ((w:Int),R)=ag (((v+1:Nat):Int),R'):=by
  have h24:=hV.n24
  have hpl:(parL g c c.length).length=g.2.length:=by rw[parL_len,hl]
  have hxv:=hx v hv
  have hrv:=hr v hv
  have step:∀(m:Nat) (w:Nat) (R:List Int) (ag':Int×List Int->Option (List Int)),w<g.2.length->R.length=g.2.length->(∀u,u<g.2.length->0<=at' R (u:Int)∧at' R (u:Int)<=1000000 - 15*(m+1:Nat))->
    snapshot_sums_s2 c (parL g c c.length) ((v:Int),R0) ag ((w:Int),R) ag'=ag' (prt g c w,R.set w (at' R (w:Int)+xAt c v)):=by
   intro m w R ag' hw hR hb
   have:=hb w hw
   unfold snapshot_sums_s2
   dsimp only
   rw[if_pos (by omega),ckT (by omega),ckT (by omega),ckT (by omega),ckT (by omega),ckT (by omega),parL_at (by omega)]
   have e:at' (at' c (v:Int)) 4=xAt c v:=rfl
   rw[e,wr (by omega) (by omega)];rfl
  have fin:∀(R:List Int) (ag':Int×List Int->Option (List Int)),snapshot_sums_s2 c (parL g c c.length) ((v:Int),R0) ag (-1,R) ag'=ag (((v+1:Nat):Int),R):=by
   intro R ag'
   unfold snapshot_sums_s2 snapshot_sums_k2
   dsimp only
   rw[if_neg (by omega),wIncI (by omega)]
  have atset:∀(R:List Int) (w u:Nat) (y:Int),w<R.length->at' (R.set w y) (u:Int)=if u=w then y else at' R (u:Int):=fun R w u y hw=>at_set R w u y hw
  intro m
  induction m with
  | zero =>
   intro fuel w R hw hd hf hR hb
   obtain⟨fuel,rfl⟩:∃k,fuel=k+2:=⟨fuel - 2,by omega⟩
   have e:w=0:=by
    rcases Nat.eq_zero_or_pos w with e|e
    ·exact e
    ·obtain⟨p,hp,e1,e2⟩:=hP.up w hw (by omega)
     have:=h0 p hp
     omega
   subst e
   refine⟨R.set 0 (at' R 0+xAt c v),by simp[hR],fun u hu=> ?_,?_⟩
   ·rw[atset R 0 u _ (by omega)]
    have ho:onP (prt g c) (0+1) ((0:Nat):Int) u=decide (((0:Nat):Int)=(u:Int)):=by
     show(if((0:Nat):Int)<0 then false else decide (((0:Nat):Int)=(u:Int))||false)=_
     rw[if_neg (by omega),Bool.or_false]
    rw[ho]
    by_cases e:u=0
    ·subst e
     rw[if_pos rfl,if_pos (by simp)];rfl
    ·rw[if_neg e,if_neg (by simp;omega)];omega
   ·show snapshot_sums_s2 _ _ _ _ (((0:Nat):Int),R) (iter _ (fuel+1))=_
    rw[step 0 0 R _ hw hR hb,hP.root]
    show snapshot_sums_s2 _ _ _ _ (-1,_) (iter _ fuel)=_
    rw[fin];rfl
  | succ m ih =>
   intro fuel w R hw hd hf hR hb
   obtain⟨fuel,rfl⟩:∃k,fuel=k+1:=⟨fuel - 1,by omega⟩
   have e:w≠0:=fun e=>by subst e;omega
   obtain⟨p,hp,e1,e2⟩:=hP.up w hw e
   obtain⟨R',q1,q2,q3⟩:=ih fuel p (R.set w (at' R (w:Int)+xAt c v)) hp (by omega) (by omega) (by simp[hR]) (fun u hu=>by
    rw[atset R w u _ (by omega)]
    have h1:=hb u hu
    have h2:=hb w hw
    split<;>(push_cast at *;omega))
   refine⟨R',q1,fun u hu=> ?_,?_⟩
   ·rw[q2 u hu,atset R w u _ (by omega)]
    have hu1:onP (prt g c) (m+1+1) (w:Int) u=(decide ((w:Int)=(u:Int))||onP (prt g c) (m+1) (p:Int) u):=by
     show(if(w:Int)<0 then false else _)=_
     rw[if_neg (by omega),show Int.toNat (w:Int)=w from rfl,e1]
    rw[hu1]
    by_cases eu:u=w
    ·subst eu
     have hno:onP (prt g c) (m+1) (p:Int) u=false:=by
      cases hh:onP (prt g c) (m+1) (p:Int) u with
      |false=>rfl
      |true=>have:=onP_le hP _ p u hp hh;omega
     rw[if_pos rfl,hno];simp
    ·rw[if_neg eu,decide_eq_false (by omega),Bool.false_or]
   ·show snapshot_sums_s2 _ _ _ _ ((w:Int),R) (iter _ fuel)=_
    rw[step (m+1) w R _ hw hR hb,e1]
    exact q3
theorem sums_eq (hpo:PtrOk g c):∃R:List Int,m_snapshot_sums 1000 g c=some R∧R.length=g.2.length∧∀u,u<g.2.length->at' R (u:Int)=sumT (prt g c) g.2.length c u g.2.length:=by
 have h24:=hV.n24
 have h1:=hV.n1
 have hz:D d 0=0:=(hD.zero 0 (by omega)).2 rfl
 unfold m_snapshot_sums
 have e1:m_bfs_Towards 1000 (g.1,g.2) c 1=some (parL g c c.length):=towards_eq h24 hpo
 rw[e1,bindS rfl,ckT (by omega)]
 have key:=iter_inv (step:=snapshot_sums_s1 1000 c (parL g c c.length)) (K:=fun x=>some x.2) g.2.length (fun k x=>x.1=(k:Int)∧x.2.length=g.2.length∧∀u,u<g.2.length->at' x.2 (u:Int)=sumT (prt g c) g.2.length c u k) (fun k x ag hk hI=> ?_) (fun x ag hI=> ?_) 1000 ((0:Int),List.replicate (Int.toNat (c.length:Int)) (0:Int)) ⟨rfl,by simp[hl],fun u hu=> ?_⟩ (by omega)
 ·obtain⟨x,⟨_,q1,q2⟩,q3⟩:=key
  exact⟨x.2,q3,q1,q2⟩
 ·obtain⟨a,R⟩:=x
  obtain⟨i1,i2,i3⟩:=hI
  dsimp only at i1 i2 i3
  subst i1
  have hdk:=hD.hi k hk
  have hdk0:=h0 k hk
  obtain⟨m,hm⟩:∃m:Nat,D d k=(m:Int):=⟨(D d k).toNat,by omega⟩
  have hdl:=hD.lt hk
  obtain⟨R',q1,q2,q3⟩:=sums_inner hV hl hr hx hP h0 hk R ag hz m 1000 k R hk hm (by omega) i2 (fun u hu=>by
   have:=sumT_bd (P:=prt g c) (n:=g.2.length) (c:=c) (u:=u) (k:=k) fun v hv=>hx v (by omega)
   rw[i3 u hu]
   omega)
  refine⟨(((k+1:Nat):Int),R'),⟨rfl,q1,fun u hu=> ?_⟩,?_⟩
  ·rw[q2 u hu,i3 u hu]
   simp only[sumT]
   rw[onP_stable hP h0 hz m k (g.2.length+1) u hk hm (by omega)]
  ·unfold snapshot_sums_s1
   dsimp only
   rw[if_pos (by omega)]
   exact q3
 ·obtain⟨a,R⟩:=x
  obtain⟨i1,_⟩:=hI
  dsimp only at i1
  subst i1
  unfold snapshot_sums_s1 snapshot_sums_k1
  dsimp only
  rw[if_neg (by omega)]
 ·rw[hl,at'_nat,List.getD_eq_getElem?_getD]
  simp[sumT,hu]
def SAt (g:GR) (c:List (List Int)) (u:Nat):Prop:=at' (at' c (u:Int)) 5=sumT (prt g c) g.2.length c u g.2.length

 omit hx hD h0 in
theorem refSum_inner (hx:∀v,v<g.2.length->0<=xAt c v∧xAt c v<=15) {u:Nat} (hu:u<g.2.length) (ag:Int->Option Bool):iter (ref37_Legit_s2 1000 c (parL g c c.length) (u:Int) ag) 1000 (0,0)=ref37_Legit_k3 c (u:Int) ag (sumT (prt g c) g.2.length c u g.2.length):=by
  have h24:=hV.n24
  refine iter_for (step:=ref37_Legit_s2 1000 c (parL g c c.length) (u:Int) ag) (K:=ref37_Legit_k3 c (u:Int) ag (sumT (prt g c) g.2.length c u g.2.length)) g.2.length (fun k=>(sumT (prt g c) g.2.length c u k,(k:Int))) (fun k ag' hk=> ?_) (fun ag'=> ?_) 1000 (by omega)
  ·have hrk:=hr k hk
   have hb:=sumT_bd (P:=prt g c) (n:=g.2.length) (c:=c) (u:=u) (k:=k) fun v hv=>hx v (by omega)
   have hxk:=hx k hk
   unfold ref37_Legit_s2 ref37_Legit_k4
   dsimp only
   rw[if_pos (by omega),below_eq hV hl hP hk hu,bindS rfl]
   simp only[sumT]
   cases onP (prt g c) (g.2.length+1) (k:Int) u with
   |true=>
    have e:at' (at' c (k:Int)) 4=xAt c k:=rfl
    rw[if_pos rfl,if_pos rfl,ckT (by omega),ckT (by omega),e,wr (by omega) (by omega),wIncI (by omega)]
   |false=>
    rw[if_neg (by simp),if_neg (by simp),Int.add_zero,wIncI (by omega)]
  ·unfold ref37_Legit_s2
   dsimp only
   rw[if_neg (by omega)]

 omit hD h0 in
theorem refSum_loop:((∀v,v<g.2.length->SAt g c v)->iter (ref37_Legit_s1 1000 c (parL g c c.length)) 1000 0=some true)∧(¬(∀v,v<g.2.length->SAt g c v)->iter (ref37_Legit_s1 1000 c (parL g c c.length)) 1000 0=some false):=by
  have h24:=hV.n24
  refine iter_early (step:=ref37_Legit_s1 1000 c (parL g c c.length)) (K:=some true) (bad:=some false) g.2.length (SAt g c) (fun k=>(k:Int)) (fun k ag hk hp=> ?_) (fun k ag hk hp=> ?_) (fun ag=> ?_) 1000 (by omega)
  ·have hrk:=hr k hk
   unfold ref37_Legit_s1
   rw[if_pos (by omega),refSum_inner hV hl hr hP hx hk]
   unfold ref37_Legit_k3
   rw[ckT (by omega),ckT (by omega),if_neg (by rw[show at' (at' c (k:Int)) 5=_ from hp];simp),wIncI (by omega)]
  ·have hrk:=hr k hk
   unfold ref37_Legit_s1
   rw[if_pos (by omega),refSum_inner hV hl hr hP hx hk]
   unfold ref37_Legit_k3
   rw[ckT (by omega),ckT (by omega)];exact if_pos hp
  ·unfold ref37_Legit_s1
   rw[if_neg (by omega)];rfl

 omit hD hP h0 hx in
theorem sum_loop {R:List Int} (h1:R.length=g.2.length) (h2:∀u,u<g.2.length->at' R (u:Int)=sumT (prt g c) g.2.length c u g.2.length):((∀v,v<g.2.length->SAt g c v)->iter (snapshot_Legit_s1 c R) 1000 0=some true)∧(¬(∀v,v<g.2.length->SAt g c v)->iter (snapshot_Legit_s1 c R) 1000 0=some false):=by
  have h24:=hV.n24
  refine iter_early (step:=snapshot_Legit_s1 c R) (K:=some true) (bad:=some false) g.2.length (SAt g c) (fun k=>(k:Int)) (fun k ag hk hp=> ?_) (fun k ag hk hp=> ?_) (fun ag=> ?_) 1000 (by omega)
  ·have hrk:=hr k hk
   unfold snapshot_Legit_s1
   rw[if_pos (by omega),ckT (by omega),ckT (by omega),ckT (by omega),if_neg (by rw[h2 k hk,show at' (at' c (k:Int)) 5=_ from hp];simp),wIncI (by omega)]
  ·have hrk:=hr k hk
   unfold snapshot_Legit_s1
   rw[if_pos (by omega),ckT (by omega),ckT (by omega),ckT (by omega),if_pos (by rw[h2 k hk];exact hp)]
  ·unfold snapshot_Legit_s1
   rw[if_neg (by omega)];rfl
end
end Go.Proofs.YtfbkplemadmbfaaGreatDoor
end
section
namespace Go.Proofs.YtfbkplemadmbfaaGreatDoor
open Go Go.Sx
def sHs (n:Nat):List Int:=[(n:Int),-1,1,1,15,wI .i64 (15*(n:Int))]
theorem sHs5 {n:Nat} (h:n<=24):wI .i64 (15*(n:Int))=15*(n:Int):=wr (by omega) (by omega)
theorem sVars:∃l:List VarR,m_ref37_Vars 1000=some l∧l.length=6∧∀n:Nat,n<=24->∀x:Nat,x<6->VarB n (at' l (x:Int)) (at' (sHs n) (x:Int)):=by
 refine⟨_,rfl,rfl,fun n hn x hx=> ?_⟩
 have e15:=sHs5 hn
 match x,hx with
 |0,_=>exact .inr (.inr ⟨by decide,by decide,rfl,rfl,by show 0<=(n:Int);omega,by show(n:Int)<1000000;omega,by show wI .i64 (0+wI .i64 (1*(n:Int)))=(n:Int);rw[wr (x:=1*(n:Int)) (by omega) (by omega),wr (by omega) (by omega)];omega⟩)
 |1,_=>exact .inr (.inl ⟨rfl,rfl⟩)
 |2,_=>exact .inl ⟨rfl,rfl⟩
 |3,_=>exact .inl ⟨rfl,rfl⟩
 |4,_=>exact .inr (.inr ⟨by decide,by decide,rfl,rfl,by show(0:Int)<=15;omega,by show(15:Int)<1000000;omega,by show wI .i64 (15+wI .i64 (0*(n:Int)))=15;rw[Int.zero_mul];rfl⟩)
 |5,_=>exact .inr (.inr ⟨by decide,by decide,rfl,rfl,by show(0:Int)<=wI .i64 (15*(n:Int));omega,by show wI .i64 (15*(n:Int))<1000000;omega,by show wI .i64 (0+wI .i64 (15*(n:Int)))=wI .i64 (15*(n:Int));rw[e15,Int.zero_add,e15]⟩)
section
variable {g:GR} (hV:VG g) (hc:Conn g)
 include hV hc
theorem sConf (c:List (List Int)):(CfOk g (sHs g.2.length) c->m_snapshot_configuration 1000 g c=some true∧∃l,m_ref37_Vars 1000=some l∧m_ref23_Config 1000 g c l=some true)∧(¬CfOk g (sHs g.2.length) c->m_snapshot_configuration 1000 g c=some false∧∃l,m_ref37_Vars 1000=some l∧m_ref23_Config 1000 g c l=some false):=by
 obtain⟨l,h1,h2,h3⟩:=sVars
 have h24:=hV.n24
 have e1:m_graph_Connected 1000 (g.1,g.2)=some true:=((fit_eq g).1 ⟨hV,hc⟩).1
 have q1:=configuration_eq hV (hs:=sHs g.2.length) (by simp[sHs]) c
 have q2:=refConfig_eq hV (hs:=sHs g.2.length) (vars:=l) (by simp[sHs]) (by rw[h2];rfl) (fun x hx=>h3 _ h24 x hx) c
 have e2:m_snapshot_configuration 1000 g c=m_bfs_Configuration 1000 g c (sHs g.2.length):=by
  unfold m_snapshot_configuration m_snapshot_Fit snapshot_configuration_k1
  rw[e1,bindS rfl,bindS rfl,if_pos rfl]
  have:m_bfs_Configuration 1000 (g.1,g.2) c [(g.1.length:Int),-1,1,1,15,wI .i64 (15*(g.1.length:Int))]=m_bfs_Configuration 1000 g c (sHs g.2.length):=by rw[hV.len];rfl
  rw[this]
  cases m_bfs_Configuration 1000 g c (sHs g.2.length)<;>rfl
 rw[e2]
 exact⟨fun h=>⟨q1.1 h,l,h1,q2.1 h⟩,fun h=>⟨q1.2 h,l,h1,q2.2 h⟩⟩
theorem waveLegit_eq {d:List Int} (hD:Dist g 0 d) {c:List (List Int)} (hcf:CfOk g (sHs g.2.length) c):
  let Tr:=∀v,v<g.2.length->TreeAt g d v (at' c (v:Int))
  ((Tr∧∀v,v<g.2.length->WAt (prt g c) c v)->m_wave_Legit 1000 g (c.map fun l=>l.take 4)=some true∧m_ref35_Ordered 1000 g c=some true)∧
  (¬(Tr∧∀v,v<g.2.length->WAt (prt g c) c v)->m_wave_Legit 1000 g (c.map fun l=>l.take 4)=some false∧m_ref35_Ordered 1000 g c=some false):=by
 intro Tr
 have h24:=hV.n24
 have h1:=hV.n1
 have hl:=hcf.1
 have hr:∀v,v<g.2.length->(at' c (v:Int)).length=6:=fun v hv=>(hcf.2 v hv).1
 let c4:=c.map fun l=>l.take 4
 have hl4:c4.length=g.2.length:=by show(c.map _).length=_;simp[hl]
 have hat4:∀v,v<g.2.length->at' c4 (v:Int)=(at' c (v:Int)).take 4:=fun v hv=>at_map_take (by omega)
 have hent:∀v,v<g.2.length->∀i:Nat,i<4->at' (at' c4 (v:Int)) (i:Int)=at' (at' c (v:Int)) (i:Int):=fun v hv i hi=>by rw[hat4 v hv,at_take hi]
 have hr4:∀v,v<g.2.length->(at' c4 (v:Int)).length=4:=fun v hv=>by rw[hat4 v hv,List.length_take,hr v hv];rfl
 have hcf4:CfOk g [(g.2.length:Int),-1,1,1] c4:=hcf.cut (m:=4) (by simp[sHs])
 have hcf2:CfOk g [(g.2.length:Int),-1] (c4.map fun l=>l.take 2):=hcf4.cut (m:=2) (by simp)
 have hb2:∀v,v<g.2.length->at' (at' c (v:Int)) 2=0∨at' (at' c (v:Int)) 2=1:=fun v hv=>by
  have:=(hcf.2 v hv).2 2 (by simp[sHs])
  unfold inB at this
  rw[if_neg (by show¬(1:Int) = -1;omega)]at this
  have e:at' (sHs g.2.length) ((2:Nat):Int)=1:=rfl
  rw[e]at this
  have e':at' (at' c (v:Int)) ((2:Nat):Int)=at' (at' c (v:Int)) 2:=rfl
  rw[e']at this
  omega
 have hptr:∀v,v<g.2.length -> -1<=at' (at' c (v:Int)) 1∧at' (at' c (v:Int)) 1<((at' g.2 (v:Int)).length:Int):=fun v hv=>by
  have:=(hcf.2 v hv).2 1 (by simp[sHs])
  unfold inB at this
  rw[if_pos (by rfl)]at this
  have e':at' (at' c (v:Int)) ((1:Nat):Int)=at' (at' c (v:Int)) 1:=rfl
  rw[e']at this
  have hdg:(row g v).length=(at' g.2 (v:Int)).length:=rfl
  omega
 have e1:∀v,v<g.2.length->at' (at' c4 (v:Int)) 1=at' (at' c (v:Int)) 1:=fun v hv=>hent v hv 1 (by omega)
 have hprt:∀v,v<g.2.length->prt g c4 v=prt g c v:=fun v hv=>by unfold prt;rw[e1 v hv]
 have hpo:PtrOk g c:=⟨hl,fun v hv=>⟨by have:=hr v hv;omega,hptr v hv⟩⟩
 have hpo4:PtrOk g c4:=⟨hl4,fun v hv=>⟨by have:=hr4 v hv;omega,by rw[e1 v hv];exact hptr v hv⟩⟩
 have hpar4:parL g c4 c4.length=parL g c c.length:=by
  rw[hl4,hl]
  unfold parL
  exact List.map_congr_left fun v hv=>hprt v (List.mem_range.1 hv)
 have htr2:∀v,v<g.2.length->(TreeAt g d v (at' (c4.map fun l=>l.take 2) (v:Int))↔TreeAt g d v (at' c (v:Int))):=fun v hv=>by
  rw[at_map_take (by omega)]
  unfold TreeAt
  have t0:at' ((at' c4 (v:Int)).take 2) 0=at' (at' c (v:Int)) 0:=(at_take (i:=0) (by omega)).trans (hent v hv 0 (by omega))
  have t1:at' ((at' c4 (v:Int)).take 2) 1=at' (at' c (v:Int)) 1:=(at_take (i:=1) (by omega)).trans (hent v hv 1 (by omega))
  rw[t0,t1]
 obtain⟨t1,t2⟩:=bfsLegit_eq hV hD rfl hc (c:=c4.map fun l=>l.take 2) hcf2
 obtain⟨u1,u2⟩:=tree_eq hV hD (by omega) (c:=c) hl (fun v hv=>by have:=hr v hv;omega)
 have eF:m_graph_Connected 1000 (g.1,g.2)=some true:=((fit_eq g).1 ⟨hV,hc⟩).1
 have eP:m_wave_Legit 1000 g c4=Option.bind (m_bfs_Legit 1000 g (c4.map fun l=>l.take 2)) fun r=>wave_Legit_k1 1000 g c4 (!r):=by
  unfold m_wave_Legit m_wave_configuration m_wave_Fit wave_configuration_k1
  have e0:m_bfs_Configuration 1000 (g.1,g.2) c4 [(g.1.length:Int),-1,1,1]=some true:=by rw[hV.len];exact(configuration_eq hV (by simp) c4).1 hcf4
  rw[eF,bindS rfl,bindS rfl,if_pos rfl,e0,bindS rfl,bindS rfl,if_neg (by simp),ckT (by omega)]
  have key:=iter_for (step:=wave_Legit_s2 1000 g c4) (K:=wave_Legit_k7 1000 g c4 (cutR 2 c4 c4.length)) c4.length (fun k=>((k:Int),cutR 2 c4 k)) (fun k ag hk=> ?_) (fun ag=> ?_) 1000 (by omega)
  ·rw[show(((0:Nat):Int),cutR 2 c4 0)=((0:Int),List.replicate (Int.toNat (c4.length:Int)) ([]:List Int)) by simp[cutR]]at key
   rw[key,cutR_all];rfl
  ·have hk4:=hr4 k (by omega)
   unfold wave_Legit_s2
   dsimp only
   rw[if_pos (by omega),ckT (by omega),ckT (by omega),ckT (by rw[cutR_len (by omega)];omega),wIncI (by omega)]
   have:=cutR_step (m:=2) hk
   rw[show Int.toNat (k:Int)=k from rfl,show Int.toNat (2:Int)=2 from rfl,this]
  ·unfold wave_Legit_s2
   dsimp only
   rw[if_neg (by omega)]
 have eR:m_ref35_Ordered 1000 g c=Option.bind (m_ref23_Tree 1000 g c 0 0 1) fun r=>if(!r)=true then some false else iter (ref35_Ordered_s1 c (parL g c c.length)) 1000 1:=by
  have en:m_ref23_Named 1000 (g.1,g.2) c 1=some (parL g c c.length):=named_eq h24 hpo
  unfold m_ref35_Ordered
  rw[en];rfl
 rw[eP,eR]
 by_cases hT:Tr
 ·have hP:Par g d (prt g c):=par_of_tree hV hc hD hT
  have hP4:Par g d (prt g c4):=⟨by rw[hprt 0 (by omega)];exact hP.root,fun v hv h0=>by rw[hprt v hv];exact hP.up v hv h0⟩
  obtain⟨a1,a2⟩:=wave_loop hV hl4 (fun v hv=>by have:=hr4 v hv;omega) (fun v hv=>by
   have e:at' (at' c4 (v:Int)) 2=at' (at' c (v:Int)) 2:=hent v hv 2 (by omega)
   rw[e];exact hb2 v hv) hP4
  obtain⟨b1,b2⟩:=ordered_loop hV hl (fun v hv=>by have:=hr v hv;omega) hb2 hP
  have hW:∀v,v<g.2.length->(WAt (prt g c4) c4 v↔WAt (prt g c) c v):=fun v hv=>by
   unfold WAt
   by_cases h0:v=0
   ·exact⟨fun _=> .inl h0,fun _=> .inl h0⟩
   ·obtain⟨u,hu,e,_⟩:=hP.up v hv h0
    rw[hprt v hv,e]
    have q2:at' (at' c4 (u:Int)) 2=at' (at' c (u:Int)) 2:=hent u hu 2 (by omega)
    have q3:at' (at' c4 (u:Int)) 3=at' (at' c (u:Int)) 3:=hent u hu 3 (by omega)
    have r2:at' (at' c4 (v:Int)) 2=at' (at' c (v:Int)) 2:=hent v hv 2 (by omega)
    have r3:at' (at' c4 (v:Int)) 3=at' (at' c (v:Int)) 3:=hent v hv 3 (by omega)
    rw[q2,q3,r2,r3]
  have ek:wave_Legit_k1 1000 g c4 (!true)=iter (wave_Legit_s1 c4 (parL g c4 c4.length)) 1000 0:=by
   have et:m_bfs_Towards 1000 (g.1,g.2) c4 1=some (parL g c4 c4.length):=towards_eq h24 hpo4
   unfold wave_Legit_k1
   rw[if_neg (by simp),et];rfl
  rw[t1 fun v hv=>(htr2 v hv).2 (hT v hv),bindS rfl,show m_ref23_Tree 1000 g c 0 0 1=some true from u1 hT,bindS rfl,ek,if_neg (by simp)]
  refine⟨fun h=>⟨a1 fun v hv=>(hW v hv).2 (h.2 v hv),b1 h.2⟩,fun h=>⟨a2 fun h'=>h ⟨hT,fun v hv=>(hW v hv).1 (h' v hv)⟩,b2 fun h'=>h ⟨hT,h'⟩⟩⟩
 ·rw[t2 fun h=>hT fun v hv=>(htr2 v hv).1 (h v hv),bindS rfl,show m_ref23_Tree 1000 g c 0 0 1=some false from u2 hT,bindS rfl,if_pos (by simp)]
  refine⟨fun h=>absurd h.1 hT,fun _=>⟨?_,rfl⟩⟩
  unfold wave_Legit_k1
  rw[if_pos (by simp)]
theorem sLegit (c:List (List Int)):∃b,m_snapshot_Legit 1000 g c=some b∧m_ref37_Legit 1000 g c=some b∧(b=true->CfOk g (sHs g.2.length) c):=by
 have h24:=hV.n24
 have h1:=hV.n1
 obtain⟨d,hd,hD⟩:=search_ok hV (s:=0) (by omega)
 have eF:m_ref01_Connected 1000 (g.1,g.2)=some true:=((fit_eq g).1 ⟨hV,hc⟩).2
 obtain⟨k1,k2⟩:=sConf hV hc c
 by_cases hcf:CfOk g (sHs g.2.length) c
 ·obtain⟨e1,l,e2,e3⟩:=k1 hcf
  have hl:=hcf.1
  have hr:∀v,v<g.2.length->(at' c (v:Int)).length=6:=fun v hv=>(hcf.2 v hv).1
  have eP:m_snapshot_Legit 1000 g c=Option.bind (m_wave_Legit 1000 g (c.map fun l=>l.take 4)) fun r=>snapshot_Legit_k1 1000 g c (!r):=by
   unfold m_snapshot_Legit
   rw[show m_snapshot_configuration 1000 (g.1,g.2) c=some true from e1,bindS rfl,if_neg (by simp),ckT (by omega)]
   have key:=iter_for (step:=snapshot_Legit_s2 1000 g c) (K:=snapshot_Legit_k4 1000 g c (cutR 4 c c.length)) c.length (fun k=>((k:Int),cutR 4 c k)) (fun k ag hk=> ?_) (fun ag=> ?_) 1000 (by omega)
   ·rw[show(((0:Nat):Int),cutR 4 c 0)=((0:Int),List.replicate (Int.toNat (c.length:Int)) ([]:List Int)) by simp[cutR]]at key
    rw[key,cutR_all];rfl
   ·have hk6:=hr k (by omega)
    unfold snapshot_Legit_s2
    dsimp only
    rw[if_pos (by omega),ckT (by omega),ckT (by omega),ckT (by rw[cutR_len (by omega)];omega),wIncI (by omega)]
    have:=cutR_step (m:=4) hk
    rw[show Int.toNat (k:Int)=k from rfl,show Int.toNat (4:Int)=4 from rfl,this]
   ·unfold snapshot_Legit_s2
    dsimp only
    rw[if_neg (by omega)]
  have eR:m_ref37_Legit 1000 g c=Option.bind (m_ref35_Ordered 1000 g c) fun r=>ref37_Legit_k1 1000 g c (!r):=by
   unfold m_ref37_Legit m_ref37_Fit
   rw[eF,bindS rfl,bindS rfl,if_neg (by simp),e2,bindS rfl,show m_ref23_Config 1000 (g.1,g.2) c l=some true from e3,bindS rfl,if_neg (by simp)]
  rw[eP,eR]
  obtain⟨w1,w2⟩:=waveLegit_eq hV hc hD hcf
  by_cases hW:(∀v,v<g.2.length->TreeAt g d v (at' c (v:Int)))∧∀v,v<g.2.length->WAt (prt g c) c v
  ·obtain⟨x1,x2⟩:=w1 hW
   have hP:Par g d (prt g c):=par_of_tree hV hc hD hW.1
   have h0:∀v,v<g.2.length->0<=D d v:=fun v hv=>(conn_iff hV (s:=0) (by omega) hD).2 hc v (by rw[hD.len];exact hv)
   have hx:∀v,v<g.2.length->0<=xAt c v∧xAt c v<=15:=fun v hv=>by
    have:=(hcf.2 v hv).2 4 (by simp[sHs])
    unfold inB at this
    rw[if_neg (by show¬(15:Int) = -1;omega)]at this
    exact this
   have hpo:PtrOk g c:=⟨hl,fun v hv=>⟨by have:=hr v hv;omega,by
    have:=(hcf.2 v hv).2 1 (by simp[sHs])
    unfold inB at this
    rw[if_pos (by rfl)]at this
    have e':at' (at' c (v:Int)) ((1:Nat):Int)=at' (at' c (v:Int)) 1:=rfl
    rw[e']at this
    have hdg:(row g v).length=(at' g.2 (v:Int)).length:=rfl
    omega⟩⟩
   obtain⟨R,r1,r2,r3⟩:=sums_eq hV hD hl hr hx hP h0 hpo
   obtain⟨a1,a2⟩:=sum_loop hV hl hr r2 r3
   obtain⟨b1,b2⟩:=refSum_loop hV hl hr hx hP
   have en:m_ref23_Named 1000 (g.1,g.2) c 1=some (parL g c c.length):=named_eq h24 hpo
   rw[x1,bindS rfl,x2,bindS rfl]
   unfold snapshot_Legit_k1 ref37_Legit_k1
   rw[if_neg (by simp),if_neg (by simp),show m_snapshot_sums 1000 (g.1,g.2) c=some R from r1,bindS rfl,en,bindS rfl]
   by_cases hS:∀v,v<g.2.length->SAt g c v
   ·exact⟨true,a1 hS,b1 hS,fun _=>hcf⟩
   ·exact⟨false,a2 hS,b2 hS,fun _=>hcf⟩
  ·obtain⟨x1,x2⟩:=w2 hW
   rw[x1,bindS rfl,x2,bindS rfl]
   exact⟨false,rfl,rfl,fun _=>hcf⟩
 ·obtain⟨e1,l,e2,e3⟩:=k2 hcf
  refine⟨false,?_,?_,fun h=>by cases h⟩
  ·unfold m_snapshot_Legit snapshot_Legit_k1
   rw[show m_snapshot_configuration 1000 (g.1,g.2) c=some false from e1,bindS rfl,if_pos (by simp),if_pos rfl]
  ·unfold m_ref37_Legit m_ref37_Fit ref37_Legit_k1
   rw[eF,bindS rfl,bindS rfl,if_neg (by simp),e2,bindS rfl,show m_ref23_Config 1000 (g.1,g.2) c l=some false from e3,bindS rfl,if_pos (by simp),if_pos rfl]
theorem sClaim:∃r,m_snapshot_Claim 1000 g=some r∧m_ref37_Claim 1000 g=some r:=by
 obtain⟨r,h1,h2⟩:=ecc_same hV hc
 obtain⟨f1,f2⟩:=(fit_eq g).1 ⟨hV,hc⟩
 refine⟨(3,true,false,wI .i64 (wI .i64 (6*r)+4),-1),?_,?_⟩
 ·unfold m_snapshot_Claim m_snapshot_Fit
  rw[show m_graph_Connected 1000 (g.1,g.2)=some true from f1,bindS rfl,bindS rfl,if_neg (by simp),show m_graph_Eccentricity 1000 (g.1,g.2) 0=some r from h1,bindS rfl]
 ·unfold m_ref37_Claim m_ref37_Fit
  rw[show m_ref01_Connected 1000 (g.1,g.2)=some true from f2,bindS rfl,bindS rfl,if_neg (by simp),show m_ref01_Eccentricity 1000 (g.1,g.2) 0=some r from h2,bindS rfl]
end
theorem snaps_same (g:GR) (c:List (List Int)):∃a b d,m_snapshot_Fit 1000 g=some a∧m_ref37_Fit 1000 g=some a∧m_snapshot_Legit 1000 g c=some b∧m_ref37_Legit 1000 g c=some b∧m_snapshot_Claim 1000 g=some d∧m_ref37_Claim 1000 g=some d∧m_law37_totals 1000 g c=some true:=by
 by_cases h:VG g∧Conn g
 ·obtain⟨hV,hc⟩:=h
  have h1:=hV.n1
  obtain⟨f1,f2⟩:=(fit_eq g).1 ⟨hV,hc⟩
  obtain⟨b,b1,b2,b3⟩:=sLegit hV hc c
  obtain⟨d,d1,d2⟩:=sClaim hV hc
  refine⟨true,b,d,by unfold m_snapshot_Fit;rw[show m_graph_Connected 1000 (g.1,g.2)=some true from f1];rfl,by unfold m_ref37_Fit;rw[show m_ref01_Connected 1000 (g.1,g.2)=some true from f2];rfl,b1,b2,d1,d2,?_⟩
  unfold m_law37_totals m_snapshot_Total m_ref37_Total
  rw[show m_snapshot_Legit 1000 (g.1,g.2) c=some b from b1,bindS rfl,show m_ref37_Legit 1000 (g.1,g.2) c=some b from b2]
  cases b with
  |false=>rfl
  |true=>
   have hcf:=b3 rfl
   have hl:=hcf.1
   have h6:(at' c 0).length=6:=(hcf.2 0 (by omega)).1
   rw[if_neg (by simp),ckT (by omega),ckT (by omega),bindS rfl,bindS rfl,if_neg (by simp),bindS rfl,if_pos rfl]
   rfl
 ·obtain⟨f1,f2⟩:=(fit_eq g).2 h
  have g1:m_snapshot_Fit 1000 (g.1,g.2)=some false:=by unfold m_snapshot_Fit;rw[show m_graph_Connected 1000 (g.1,g.2)=some false from f1];rfl
  have g2:m_ref37_Fit 1000 (g.1,g.2)=some false:=by unfold m_ref37_Fit;rw[show m_ref01_Connected 1000 (g.1,g.2)=some false from f2];rfl
  have g3:m_snapshot_configuration 1000 (g.1,g.2) c=some false:=by unfold m_snapshot_configuration;rw[g1,bindS rfl,if_neg (by simp)];rfl
  have l1:m_snapshot_Legit 1000 (g.1,g.2) c=some false:=by unfold m_snapshot_Legit;rw[g3,bindS rfl,if_pos (by simp)];rfl
  have l2:m_ref37_Legit 1000 (g.1,g.2) c=some false:=by unfold m_ref37_Legit;rw[g2,bindS rfl,if_pos (by simp)];rfl
  refine⟨false,false,(0,false,false,0,0),g1,g2,l1,l2,?_,?_,?_⟩
  ·unfold m_snapshot_Claim;rw[g1,bindS rfl,if_pos (by simp)]
  ·unfold m_ref37_Claim;rw[g2,bindS rfl,if_pos (by simp)]
  ·unfold m_law37_totals m_snapshot_Total m_ref37_Total
   rw[l1,bindS rfl,l2];rfl
theorem snapshot_pure (g:GR) (c:List (List Int)):m_law37_SnapshotJudges 1000 g c=some true:=by
 have hk:m_law37_known 1000=some true:=rfl
 obtain⟨a,b,d,a1,a2,b1,b2,d1,d2,e1⟩:=snaps_same g c
 unfold m_law37_SnapshotJudges
 have hl:∃r,m_law37_large 1000 (g.1,g.2) c=some r:=by
  unfold m_law37_large law37_large_k1
  split
  ·exact⟨_,rfl⟩
  ·split
   ·exact⟨_,rfl⟩
   ·exact⟨_,rfl⟩
 obtain⟨r,hr⟩:=hl
 rw[hr,bindS rfl]
 cases r with
 |true=>rw[if_pos rfl,hk];rfl
 | false =>
  rw[if_neg (by simp),hk,bindS rfl,if_pos rfl]
  rw[show m_snapshot_Fit 1000 (g.1,g.2)=some a from a1,bindS rfl,show m_ref37_Fit 1000 (g.1,g.2)=some a from a2,bindS rfl,if_pos (by simp),show m_snapshot_Legit 1000 (g.1,g.2) c=some b from b1,bindS rfl,show m_ref37_Legit 1000 (g.1,g.2) c=some b from b2,bindS rfl,if_pos (by simp),
   show m_snapshot_Claim 1000 (g.1,g.2)=some d from d1,bindS rfl,show m_ref37_Claim 1000 (g.1,g.2)=some d from d2,bindS rfl,if_pos rfl,show m_law37_totals 1000 (g.1,g.2) c=some true from e1,bindS rfl]
  rfl
end Go.Proofs.YtfbkplemadmbfaaGreatDoor
end
section
set_option maxRecDepth 100000
namespace Go.Sx
open Go.RowKit Go.ChangeShapes Go.WideShapes Go.ChangeAt Go.Proofs Go.Joins
theorem gb_of_laid {P:Program} {W:World} {n:String} {b m t t':Nat} {k:IntKind} {xs:List Int} (h:laidMet P [(n,.agg (xs.map fun x=> .lit (.int k x)))] W) (hg:P.globalNamed n=some b)
  (ht:(P.globals[b]?).map (·.type)=some t) (hu:P.underlying t=some (.array m t')) (hu':P.underlying t'=some (.int k)) (hc:P.cellsOf t'=1) (hcm:P.cellsOf t=m) (hm:0<m):(Gb b (cellsOf (Enc.int k) xs)).p W (fun _=>True):=by
 obtain⟨ps,⟨g,t2,cs,fuel,p,q,e1,e2,e3,e4,e5,e6⟩,hnd,hcell⟩:=h
 rw[hg]at e1;cases e1
 rw[ht]at e2;cases e2
 refine⟨trivial,?_⟩
 obtain⟨ys,ml,_,e7,hl,hyl,hf⟩:=DataW.trod_array hu e4
 simp only[Prod.mk.injEq,DataW.agg.injEq]at e7
 have hlen:xs.length=m:=by rw[<-hyl];simpa using congrArg List.length e7.1
 have hcl:cs.size=m:=by rw[<-hcm,<-hl];simp
 have hcs:cs.toList=cellsOf (Enc.int k) xs:=by
  refine List.ext_getElem? fun i=> ?_
  by_cases hi:i<m
  ·have h1:=hf i hi
   rw[hc,Nat.mul_one]at h1
   have hx:xs[i]? = some (xs[i]'(by omega)):=List.getElem?_eq_getElem _
   have h2:=cellsOf_get (Enc.int k) xs i _ hx 0 _ rfl
   rw[show i*(Enc.int k).sz+0=i from Nat.mul_one i]at h2
   rw[h2]
   have hy:ys[i]? = some (ys[i]'(by omega)):=List.getElem?_eq_getElem _
   rw[hy]at h1
   obtain⟨z,hz,hz2,_⟩:=DataW.trod_int hu' h1
   have hc0:cs.toList[i]? = some (.int k z):=by
    have:=congrArg (·[0]?) hz
    simpa [List.getElem?_take,List.getElem?_drop]using this
   rw[hc0]
   have h3:=congrArg (·[i]?) e7.1
   simp only[List.getElem?_map,hx,hy,Option.map_some,Option.some.injEq]at h3
   rw[hz2]at h3
   have h4:xs[i]=z:=by simpa using h3
   rw[h4]
  ·rw[List.getElem?_eq_none (by simp;omega),List.getElem?_eq_none (by rw[cellsOf_length,hlen];show m*1<=i;omega)]
 have hmem:MemPlace.cell b 0∈ps:=by
  rw[e6]
  refine List.mem_append_left _ (List.mem_append_left _ ?_)
  exact List.mem_map.2 ⟨0,by simp;omega,rfl⟩
 obtain⟨⟨c,T,hb⟩,_⟩:=hcell b 0 hmem
 refine⟨T,?_⟩
 have h5:c=cs:=by
  have h6:(W.var? P n)=some c:=by unfold World.var?;rw[hg];simp[hb]
  rw[h6]at e3;exact Option.some.inj e3
 rw[hb,h5,<-hcs]
theorem law_liftedL {H:Type} {enc:TypeId×Value->H} {os:Os} (ld:List (String×DataW Unit)) (hpl:(ld.all fun x=>x.2.handleName?.isNone)=true) (started:os.Started) {f:FuncId} {fn:Func} {s:ChangeSpec} {r:Bool} (hfn:Tryz.prog.funcs[f]? = some fn) (noInit:Tryz.prog.inits.idxOf? f=none)
  (hread:(fn.params.toList.all fun t=>Tryz.prog.readableRec t&&decide (t<Tryz.prog.types.size))=true) (hres:fn.resultTypes = #[4]) (hvars:s.vars=[])
  (hspec:∀ds:List (DataW H),ds.length=fn.params.toList.length->s.fn H ds={results:=[.lit (.bool true)],args:=ds})
  (witness:∃(w:World) (tape:Tape) (i:Input),w.os=os∧(w.forCall tape i).Shaped Tryz.prog∧i.vars=[]∧Input.okWide Tryz.prog (w.forCall tape i) .any w.heap.size f i∧
   ((s.pre enc Tryz.prog fn [] false (w.forCall tape i).memory i.args∧laidMetH Tryz.prog ld (w.forCall tape i).memory)∧sizedMet enc Tryz.prog fn (OpenSpec.ofChange s) false (w.forCall tape i).memory i.args)∧({}:Assume).holds Tryz.prog (lone (Frame.enter Tryz.prog f i.args .normal) [] (w.forCall tape i)))
  (main:∀(W:World) (base:Nat) (args:Array Value) (ds:List (DataW H)) (p:List MemPlace),laidMetH Tryz.prog ld W->(∀(j:Nat) t v,fn.params[j]? = some t->args[j]? = some v->Value.okWide Tryz.prog W .any base t v)->
   DataW.TrodAll enc Tryz.prog W 0 (fun _=>true) true fn.params.toList args.toList ds p->Calls Tryz.prog f args W fun e W'=>e = .returned (.bool true)∧Ext W W'):
  ReturnsInHanded {} Go.Proofs.YtfbkplemadmbfaaGreatDoor.Tryz.pinned.checked os f .any (fun w args=>(s.pre enc Tryz.prog fn [] false w args∧laidMetH Tryz.prog ld w)∧sizedMet enc Tryz.prog fn (OpenSpec.ofChange s) false w args) (s.post enc Tryz.prog fn false r false false):=by
 refine returnsInHanded_of_change_and (C:=Go.Proofs.YtfbkplemadmbfaaGreatDoor.Tryz.pinned.checked) (X:=fun w _=>laidMetH Tryz.prog ld w) (fun _ _ _ hh h=>by rw[MakeChecks.laidMetH_plain _ _ _ hpl]at h ⊢;exact h.of_heap hh) own0 started noInit hfn witness ?_
 intro W base args ds gs before hval hW _ _ hL _
 have hlt:=hW.lt
 have hW':=hW
 obtain⟨p,q,hA,hV,rfl,_,_⟩:=hW
 rw[hvars]at hV
 obtain⟨rfl,rfl⟩:=trodVars_none hV
 refine(main W base args ds p hL hval hA).mono ?_
 rintro e W' ⟨rfl,hb⟩
 refine⟨_,rfl,?_⟩
 have hlen:ds.length=fn.params.toList.length:=by
  have:∀(ts:List TypeId) (vs:List Value) (ds:List (DataW H)) (p:List MemPlace),DataW.TrodAll enc Tryz.prog W 0 (fun _=>true) true ts vs ds p->ds.length=ts.length:=by
   intro ts
   induction ts with
   |nil=>intro vs ds p h;cases vs<;>cases ds<;>first|rfl|exact h.elim
   | cons t ts ih =>
    intro vs ds p h
    cases vs with
    |nil=>exact h.elim
    |cons v vs=>
     cases ds with
     |nil=>exact h.elim
     |cons d ds=>obtain⟨_,_,_,h2,_⟩:=h;simp[ih vs ds _ h2]
  exact this _ _ _ _ hA
 have hs:s.fn H (ds++[])={results:=[.lit (.bool true)],args:=ds}:=by rw[List.append_nil];exact hspec ds hlen
 refine⟨ds,[],p++[],[],p,[],hW',?_,?_,?_,hb.frame _,fun h=>by cases h⟩
 ·rw[hs,hres]
  exact trodAll_mk1 (shut_bool Tryz.underlying4 true)
 ·rw[hs]
  exact trodAll_below laid0 hb _ _ _ _ hread hA (fun x hx=>hlt x (List.mem_append_left _ hx))
 ·rw[hs,hvars];exact rfl
theorem laidPlain {P:Program} {n:String} {k:IntKind} {xs:List Int} {W:World} (h:laidMetH P [(n,.agg (xs.map fun x=> .lit (.int k x)))] W):laidMet P [(n,.agg (xs.map fun x=> .lit (.int k x)))] W:=by
 rw[MakeChecks.laidMetH_plain _ _ _ (by rfl)]at h;exact h
end Go.Sx
end
