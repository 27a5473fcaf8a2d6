/- Models and proofs. Conditions: none. -/
import Derived.Test.YtjlbcgddhnjcjaaGreatDoorZCWi2
import Derived.Lib.Strings
import Derived.Lib.AppendZeros
import Derived.Laws.CopyRow
import Derived.Laws.StructEq
set_option linter.unusedVariables false
set_option linter.unusedSimpArgs false
set_option maxHeartbeats 4000000
set_option maxRecDepth 20000
section
namespace Go.Gx
open Go Go.Sx
section
noncomputable section
inductive GV where
 |int (k:IntKind) (n:Int)
 |bool (b:Bool)
 |str (n len:Nat)
 |ptr (h off:Nat)
 |pnil
 |sl (h off len sz:Nat)
 |snil
 |map (h:Nat)
 |fn (f:FuncId) (first caps:List GV)
 |fnil
 |inil
 |agg (cs:List GV)
 |tup (vs:List GV)
 |un
 |bad
 |opn (h:Nat)
inductive GO where
 |cells (cs:List GV)
 |mp (es:List (GV×GV))
inductive Tr (α:Type) where
 |lf
 |nd (a:Option α) (l r:Tr α)
def ob {α β:Type} (o:Option α) (f:α->Option β):Option β:=Option.casesOn (motive:=fun _=>Option β) o none f
def Tr.get {α:Type} (t:Tr α):Nat->Option α:=Tr.rec (motive:=fun _=>Nat->Option α) (fun _=>none) (fun a _ _ gl gr n=>Bool.casesOn (motive:=fun _=>Option α) (Nat.beq n 0) (Bool.casesOn (motive:=fun _=>Option α) (Nat.beq (Nat.mod n 2) 1) (gr (Nat.sub (Nat.div n 2) 1)) (gl (Nat.div n 2))) a) t
def yH {α:Type} (x:Option α) (f:Nat):Nat->Tr α:=Nat.rec (motive:=fun _=>Nat->Tr α) (fun _=> .lf) (fun _ ih n=>bif Nat.beq n 0 then .nd x .lf .lf else bif Nat.beq (Nat.mod n 2) 1 then .nd none (ih (Nat.div n 2)) .lf else .nd none .lf (ih (Nat.sub (Nat.div n 2) 1))) f
def Tr.set {α:Type} (x:Option α) (t:Tr α):Nat->Tr α:=Tr.rec (motive:=fun _=>Nat->Tr α) (fun n=>yH x (Nat.succ n) n) (fun a l r sl sr n=>Bool.casesOn (motive:=fun _=>Tr α) (Nat.beq n 0) (Bool.casesOn (motive:=fun _=>Tr α) (Nat.beq (Nat.mod n 2) 1) (.nd a l (sr (Nat.sub (Nat.div n 2) 1))) (.nd a (sl (Nat.div n 2)) r)) (.nd x l r)) t
def Ce {α R:Type} (x:Option α) (f:Nat):Nat->(Tr α->R)->R:=Nat.rec (motive:=fun _=>Nat->(Tr α->R)->R) (fun _ k=>k .lf) (fun _ ih n k=>Bool.casesOn (motive:=fun _=>R) (Nat.beq n 0) (Bool.casesOn (motive:=fun _=>R) (Nat.beq (Nat.mod n 2) 1) (ih (Nat.sub (Nat.div n 2) 1) fun t=>k (.nd none .lf t)) (ih (Nat.div n 2) fun t=>k (.nd none t .lf))) (k (.nd x .lf .lf))) f
def Tr.setK {α R:Type} (x:Option α) (t:Tr α):Nat->(Tr α->R)->R:=Tr.rec (motive:=fun _=>Nat->(Tr α->R)->R) (fun n k=>Ce x (Nat.succ n) n k) (fun a l r sl sr n k=>Bool.casesOn (motive:=fun _=>R) (Nat.beq n 0) (Bool.casesOn (motive:=fun _=>R) (Nat.beq (Nat.mod n 2) 1) (sr (Nat.sub (Nat.div n 2) 1) fun t=>k (.nd a l t)) (sl (Nat.div n 2) fun t=>k (.nd a t r))) (k (.nd x l r))) t
def sn {α:Type} (n:Nat) (f:Nat->α):α:=Nat.rec (motive:=fun _=>α) (f 0) (fun m _=>f (Nat.succ m)) n
def fi {α:Type} (z:Int) (f:Int->α):α:=Int.casesOn (motive:=fun _=>α) z (fun a=>sn a fun a=>f (.ofNat a)) (fun a=>sn a fun a=>f (.negSucc a))
def fb (b:Bool):Option GV:=Bool.casesOn (motive:=fun _=>Option GV) b (some (.bool false)) (some (.bool true))
structure GH where
 n:Nat
 t:Tr (Nat×GO)
def GH.get (H:GH) (h:Nat):Option GO:=ob (H.t.get h) fun p=>some p.2
def GH.ver (H:GH) (h:Nat):Option Nat:=ob (H.t.get h) fun p=>some p.1
def GH.set (H:GH) (h:Nat) (o:GO):GH:=⟨Nat.succ H.n,H.t.set (some (H.n,o)) h⟩
def GH.del (H:GH) (h:Nat):GH:=⟨H.n,H.t.set none h⟩
def GH.newK {α:Type} (H:GH) (o:GO) (f:Nat->GH->α):α:=sn H.n fun n=>H.t.setK (some (n,o)) n fun t=>sn (Nat.succ n) fun m=>f n ⟨m,t⟩
def GH.setK {α:Type} (H:GH) (h:Nat) (o:GO) (f:GH->α):α:=sn H.n fun n=>H.t.setK (some (n,o)) h fun t=>sn (Nat.succ n) fun m=>f ⟨m,t⟩
def GH.delK {α:Type} (H:GH) (h:Nat) (f:GH->α):α:=H.t.setK none h fun t=>f ⟨H.n,t⟩
def Vs (o:GO):Option (List GV):=GO.casesOn (motive:=fun _=>Option (List GV)) o (fun cs=>some cs) (fun _=>none)
def GO.asM (o:GO):Option (List (GV×GV)):=GO.casesOn (motive:=fun _=>Option (List (GV×GV))) o (fun _=>none) (fun es=>some es)
def GH.cells (H:GH) (h:Nat):Option (List GV):=ob (H.get h) Vs
abbrev GF:=List (Nat×GV)
def AZ (σ:GF) (t:Nat):Option GV:=List.rec (motive:=fun _=>Option GV) none (fun p _ ih=>Bool.casesOn (motive:=fun _=>Option GV) (Nat.beq t p.1) ih (some p.2)) σ
def WG (a b:Int):Bool:=Int.casesOn (motive:=fun _=>Bool) a (fun a=>Int.casesOn (motive:=fun _=>Bool) b (fun b=>Nat.blt a b) (fun _=>false)) (fun a=>Int.casesOn (motive:=fun _=>Bool) b (fun _=>true) (fun b=>Nat.blt b a))
def Xj (a b:Int):Bool:=Int.casesOn (motive:=fun _=>Bool) a (fun a=>Int.casesOn (motive:=fun _=>Bool) b (fun b=>Nat.beq a b) (fun _=>false)) (fun a=>Int.casesOn (motive:=fun _=>Bool) b (fun _=>false) (fun b=>Nat.beq a b))
def VF (a:Int):Option Nat:=Int.casesOn (motive:=fun _=>Option Nat) a (fun a=>some a) (fun _=>none)
def KI (a b:Nat×Nat):Bool:=bif Nat.beq a.2 b.2 then Nat.beq a.1 b.1 else false
def MM (a b:Bool):Bool:=Bool.casesOn (motive:=fun _=>Bool) a (Bool.casesOn (motive:=fun _=>Bool) b true false) b
def CV {α:Type} (l:List α):Nat->Option α:=List.rec (motive:=fun _=>Nat->Option α) (fun _=>none) (fun x _ ih n=>Nat.casesOn (motive:=fun _=>Option α) n (some x) ih) l
def Uv {α:Type} (v:α) (l:List α):Nat->Option (List α):=List.rec (motive:=fun _=>Nat->Option (List α)) (fun _=>none) (fun x r ih n=>Nat.casesOn (motive:=fun _=>Option (List α)) n (some (v::r)) (fun n=>ob (ih n) fun r'=>some (x::r'))) l
def Co (vs:List GV):Nat->List GV->Option (List GV):=List.rec (motive:=fun _=>Nat->List GV->Option (List GV)) (fun _ cs=>some cs) (fun v _ ih o cs=>ob (Uv v cs o) fun cs'=>sn (Nat.succ o) fun o'=>ih o' cs') vs
def tk {α:Type} (l:List α):Nat->Option (List α):=List.rec (motive:=fun _=>Nat->Option (List α)) (fun n=>Nat.casesOn (motive:=fun _=>Option (List α)) n (some []) (fun _=>none)) (fun x _ ih n=>Nat.casesOn (motive:=fun _=>Option (List α)) n (some []) (fun n=>ob (ih n) fun r=>some (x::r))) l
def dp {α:Type} (l:List α):Nat->Option (List α):=List.rec (motive:=fun _=>Nat->Option (List α)) (fun n=>Nat.casesOn (motive:=fun _=>Option (List α)) n (some []) (fun _=>none)) (fun x r ih n=>Nat.casesOn (motive:=fun _=>Option (List α)) n (some (x::r)) ih) l
def Xq {α:Type} (l:List α) (o n:Nat):Option (List α):=ob (dp l o) fun r=>tk r n
def jB (l:List UInt8):Nat:=List.rec (motive:=fun _=>Nat) 0 (fun b _ ih=>Nat.add b.toNat (Nat.mul 256 ih)) l
def aX (s:ByteArray):List UInt8:=s.data.toList
def GV.asI (v:GV):Option (IntKind×Int):=GV.casesOn (motive_1:=fun _=>Option (IntKind×Int)) v (fun a0 a1=>some (a0,a1)) (fun _=>none) (fun _ _=>none) (fun _ _=>none) none (fun _ _ _ _=>none) none (fun _=>none) (fun _ _ _=>none) none none (fun _=>none) (fun _=>none) none none (fun _=>none)
def GV.asB (v:GV):Option (Bool):=GV.casesOn (motive_1:=fun _=>Option (Bool)) v (fun _ _=>none) (fun a0=>some a0) (fun _ _=>none) (fun _ _=>none) none (fun _ _ _ _=>none) none (fun _=>none) (fun _ _ _=>none) none none (fun _=>none) (fun _=>none) none none (fun _=>none)
def GV.asP (v:GV):Option (Nat×Nat):=GV.casesOn (motive_1:=fun _=>Option (Nat×Nat)) v (fun _ _=>none) (fun _=>none) (fun _ _=>none) (fun a0 a1=>some (a0,a1)) none (fun _ _ _ _=>none) none (fun _=>none) (fun _ _ _=>none) none none (fun _=>none) (fun _=>none) none none (fun _=>none)
def GV.asS (v:GV):Option (Nat×Nat×Nat×Nat):=GV.casesOn (motive_1:=fun _=>Option (Nat×Nat×Nat×Nat)) v (fun _ _=>none) (fun _=>none) (fun _ _=>none) (fun _ _=>none) none (fun a0 a1 a2 a3=>some (a0,a1,a2,a3)) none (fun _=>none) (fun _ _ _=>none) none none (fun _=>none) (fun _=>none) none none (fun _=>none)
def GV.asF (v:GV):Option (Nat×List GV×List GV):=GV.casesOn (motive_1:=fun _=>Option (Nat×List GV×List GV)) v (fun _ _=>none) (fun _=>none) (fun _ _=>none) (fun _ _=>none) none (fun _ _ _ _=>none) none (fun _=>none) (fun a0 a1 a2=>some (a0,a1,a2)) none none (fun _=>none) (fun _=>none) none none (fun _=>none)
def GV.asT (v:GV):Option (List GV):=GV.casesOn (motive_1:=fun _=>Option (List GV)) v (fun _ _=>none) (fun _=>none) (fun _ _=>none) (fun _ _=>none) none (fun _ _ _ _=>none) none (fun _=>none) (fun _ _ _=>none) none none (fun _=>none) (fun a0=>some a0) none none (fun _=>none)
def GV.asStr (v:GV):Option (Nat×Nat):=GV.casesOn (motive_1:=fun _=>Option (Nat×Nat)) v (fun _ _=>none) (fun _=>none) (fun a0 a1=>some (a0,a1)) (fun _ _=>none) none (fun _ _ _ _=>none) none (fun _=>none) (fun _ _ _=>none) none none (fun _=>none) (fun _=>none) none none (fun _=>none)
def GV.asM (v:GV):Option (Nat):=GV.casesOn (motive_1:=fun _=>Option (Nat)) v (fun _ _=>none) (fun _=>none) (fun _ _=>none) (fun _ _=>none) none (fun _ _ _ _=>none) none (fun a0=>some a0) (fun _ _ _=>none) none none (fun _=>none) (fun _=>none) none none (fun _=>none)
def GV.asA (v:GV):Option (List GV):=GV.casesOn (motive_1:=fun _=>Option (List GV)) v (fun _ _=>none) (fun _=>none) (fun _ _=>none) (fun _ _=>none) none (fun _ _ _ _=>none) none (fun _=>none) (fun _ _ _=>none) none none (fun a0=>some a0) (fun _=>none) none none (fun _=>none)
def GV.cells (v:GV):Option (List GV):=GV.casesOn (motive_1:=fun _=>Option (List GV)) v (fun a0 a1=>some [GV.int a0 a1]) (fun a0=>some [GV.bool a0]) (fun a0 a1=>some [GV.str a0 a1]) (fun a0 a1=>some [GV.ptr a0 a1]) (some [GV.pnil]) (fun a0 a1 a2 a3=>some [GV.sl a0 a1 a2 a3]) (some [GV.snil]) (fun a0=>some [GV.map a0]) (fun a0 a1 a2=>some [GV.fn a0 a1 a2]) (some [GV.fnil]) (some [GV.inil]) (fun a0=>some a0) (fun a0=>none) (none) (none) (fun a0=>none)
def GV.isSnil (v:GV):Bool:=GV.casesOn (motive_1:=fun _=>Bool) v (fun _ _=>false) (fun _=>false) (fun _ _=>false) (fun _ _=>false) (false) (fun _ _ _ _=>false) (true) (fun _=>false) (fun _ _ _=>false) (false) (false) (fun _=>false) (fun _=>false) (false) (false) (fun _=>false)
def GV.isInil (v:GV):Bool:=GV.casesOn (motive_1:=fun _=>Bool) v (fun _ _=>false) (fun _=>false) (fun _ _=>false) (fun _ _=>false) (false) (fun _ _ _ _=>false) (false) (fun _=>false) (fun _ _ _=>false) (false) (true) (fun _=>false) (fun _=>false) (false) (false) (fun _=>false)
def GV.nilck (v:GV):Option GV:=GV.casesOn (motive_1:=fun _=>Option GV) v (fun a0 a1=>none) (fun a0=>none) (fun a0 a1=>none) (fun a0 a1=>some (GV.ptr a0 a1)) (none) (fun a0 a1 a2 a3=>none) (none) (fun a0=>none) (fun a0 a1 a2=>some (GV.fn a0 a1 a2)) (none) (none) (fun a0=>none) (fun a0=>none) (none) (none) (fun a0=>none)
def tdE (d:TypeDesc):Bool:=TypeDesc.casesOn (motive:=fun _=>Bool) d false false (fun _=>false) (fun _=>false) (fun _=>false) false false (fun _=>false) (fun _=>false) (fun _ _=>false) (fun _ _=>false) (fun _ _=>false) (fun _=>false) (fun _ _ _=>false) (fun a0=>Nat.beq (Array.size a0) 0) (fun _=>false) (fun _ _=>false)
def SJ (d:TypeDesc):Option TypeId:=TypeDesc.casesOn (motive:=fun _=>Option TypeId) d none none (fun _=>none) (fun _=>none) (fun _=>none) none none (fun _=>none) (fun a0=>some a0) (fun _ _=>none) (fun _ _=>none) (fun _ _=>none) (fun _=>none) (fun _ _ _=>none) (fun _=>none) (fun _=>none) (fun _ _=>none)
def W_ (d:TypeDesc):Option (Nat×TypeId):=TypeDesc.casesOn (motive:=fun _=>Option (Nat×TypeId)) d none none (fun _=>none) (fun _=>none) (fun _=>none) none none (fun _=>none) (fun _=>none) (fun a0 a1=>some (a0,a1)) (fun _ _=>none) (fun _ _=>none) (fun _=>none) (fun _ _ _=>none) (fun _=>none) (fun _=>none) (fun _ _=>none)
def YN (d:TypeDesc):Option (Array Field):=TypeDesc.casesOn (motive:=fun _=>Option (Array Field)) d none none (fun _=>none) (fun _=>none) (fun _=>none) none none (fun _=>none) (fun _=>none) (fun _ _=>none) (fun _ _=>none) (fun _ _=>none) (fun a0=>some a0) (fun _ _ _=>none) (fun _=>none) (fun _=>none) (fun _ _=>none)
def SI (d:TypeDesc):Option IntKind:=TypeDesc.casesOn (motive:=fun _=>Option IntKind) d none none (fun a0=>some a0) (fun _=>none) (fun _=>none) none none (fun _=>none) (fun _=>none) (fun _ _=>none) (fun _ _=>none) (fun _ _=>none) (fun _=>none) (fun _ _ _=>none) (fun _=>none) (fun _=>none) (fun _ _=>none)
def DY (d:TypeDesc):Bool:=TypeDesc.casesOn (motive:=fun _=>Bool) d false false (fun _=>false) (fun _=>false) (fun _=>false) (true) false (fun _=>false) (fun _=>false) (fun _ _=>false) (fun _ _=>false) (fun _ _=>false) (fun _=>false) (fun _ _ _=>false) (fun _=>false) (fun _=>false) (fun _ _=>false)
def Yx (d:TypeDesc):Bool:=TypeDesc.casesOn (motive:=fun _=>Bool) d false (true) (fun _=>false) (fun _=>false) (fun _=>false) false false (fun _=>false) (fun _=>false) (fun _ _=>false) (fun _ _=>false) (fun _ _=>false) (fun _=>false) (fun _ _ _=>false) (fun _=>false) (fun _=>false) (fun _ _=>false)
def tdM (d:TypeDesc):Option (TypeId×TypeId):=TypeDesc.casesOn (motive:=fun _=>Option (TypeId×TypeId)) d none none (fun _=>none) (fun _=>none) (fun _=>none) none none (fun _=>none) (fun _=>none) (fun _ _=>none) (fun a0 a1=>some (a0,a1)) (fun _ _=>none) (fun _=>none) (fun _ _ _=>none) (fun _=>none) (fun _=>none) (fun _ _=>none)
def OF:Value->Option GV
 | .int k n=>some (.int k n)
 | .bool b=>some (.bool b)
 | .slice none 0 0=>some .snil
 | .pointer none=>some .pnil
 | .nilFunc=>some .fnil
 | .nilIface=>some .inil
 | .string s=>sn (jB (aX s)) fun n=>sn (aX s).length fun l=>some (.str n l)
 |_=>none
def Uz:fP->Option (List GV)
 | []=>some []
 |v::vs=>ob (OF v) fun x=>ob (Uz vs) fun xs=>some (x::xs)
def Yq:Value->Option GV
 | .agg cs=>ob (Uz cs.toList) fun xs=>some (.agg xs)
 |v=>OF v
def Dw (s:Sem Value):Option GV:=match s with
 | .pure v=>OF v
 |_=>none
def QV (z:Int):Bool:=Int.casesOn (motive:=fun _=>Bool) z (fun a=>Nat.blt a 9223372036854775808) (fun a=>Nat.blt a 9223372036854775808)
def Vh (k:IntKind):Bool:=IntKind.casesOn (motive:=fun _=>Bool) k false false false true false false false false
def gw (k:IntKind) (z:Int):Option GV:=fi z fun z=>bif Vh k then(bif QV z then some (.int k z)else none)else fi (k.wrap z) fun z=>some (.int k z)
def Wp (a b:IntKind):Bool:=decide (a=b)
def XT (op:BinOp) (k:IntKind) (a b:Int):Option GV:=BinOp.casesOn (motive:=fun _=>Option GV) op (gw k (a+b)) (gw k (a - b)) (Dw (binOp .mul 0 (.int k a) (.int k b))) (Dw (binOp .quo 0 (.int k a) (.int k b))) (Dw (binOp .rem 0 (.int k a) (.int k b))) (Dw (binOp .and 0 (.int k a) (.int k b))) (Dw (binOp .or 0 (.int k a) (.int k b))) (Dw (binOp .xor 0 (.int k a) (.int k b))) (Dw (binOp .shl 0 (.int k a) (.int k b))) (Dw (binOp .shr 0 (.int k a) (.int k b))) (Dw (binOp .andNot 0 (.int k a) (.int k b))) (fb (Xj a b)) (fb (!Xj a b)) (fb (WG a b)) (fb (!WG b a)) (fb (WG b a)) (fb (!WG a b))
def EB (op:BinOp):Bool:=BinOp.casesOn (motive:=fun _=>Bool) op false false false false false false false false true true false false false false false false false
def Wd (a b:Nat×Nat):Option GV:=bif Nat.blt (Nat.add a.2 b.2) 16777216 then sn (Nat.add a.1 (Nat.mul (Nat.pow 2 (Nat.mul 8 a.2)) b.1)) fun n=>sn (Nat.add a.2 b.2) fun l=>some (.str n l)else none
def YU (op:BinOp) (a b:Nat×Nat):Option GV:=BinOp.casesOn (motive:=fun _=>Option GV) op (Wd a b) none none none none none none none none none none (fb (KI a b)) (fb (!KI a b)) none none none none
def YT (op:BinOp):Option GV:=BinOp.casesOn (motive:=fun _=>Option GV) op none none none none none none none none none none none (some (.bool true)) (some (.bool false)) none none none none
def Tj (op:BinOp) (a b:Bool):Option GV:=BinOp.casesOn (motive:=fun _=>Option GV) op none none none none none none none none none none none (fb (MM a b)) (fb (!MM a b)) none none none none
def gW (σ:GF) (o:Operand):Option GV:=Operand.casesOn (motive:=fun _=>Option GV) o (fun t=>AZ σ t) Yq (fun _=>none) (fun f=>some (.fn f [] []))
def BI (σ:GF) (l:List Operand):Option (List GV):=List.rec (motive:=fun _=>Option (List GV)) (some []) (fun x _ ih=>ob (gW σ x) fun v=>ob ih fun vs=>some (v::vs)) l
def pS (σ:GF) (l:List (Nat×Operand)):Option (List (Nat×GV)):=List.rec (motive:=fun _=>Option (List (Nat×GV))) (some []) (fun p _ ih=>ob (gW σ p.2) fun v=>ob ih fun vs=>some ((p.1,v)::vs)) l
abbrev TB:=Nat->Option Ty
def vO (tb:TB) (T:TypeId):Option (TypeId×Ty):=ob (tb T) fun t=>ob (SJ t.desc) fun e=>ob (tb e) fun te=>some (e,te)
def Ir (tb:TB) (l:List Field):Option (List (Nat×Nat)):=List.rec (motive:=fun _=>Option (List (Nat×Nat))) (some []) (fun f _ ih=>ob (tb f.type) fun t=>ob ih fun r=>some ((f.offset,t.size)::r)) l
def nF (tb:TB) (T:TypeId):Option (List Field):=ob (tb T) fun t=>ob (YN t.desc) fun fs=>some fs.toList
def JP (tb:TB) (T:TypeId):Option (List (Nat×Nat)):=ob (nF tb T) fun fs=>Ir tb fs

abbrev OR:=Option (GV×GH)
def uG (c a b:GV):Option GV:=ob c.asB fun q=>Bool.casesOn (motive:=fun _=>Option GV) q (some b) (some a)
def Ui (v:GV):Option Nat:=bif v.isSnil then some 0 else ob v.asS fun s=>some s.2.2.1
def LC (t:Ty) (a b:GV):Option Bool:=Option.casesOn (motive:=fun _=>Option Bool) a.asI (Option.casesOn (motive:=fun _=>Option Bool) a.asStr (ob a.asB fun x=>ob b.asB fun y=>bif Yx t.desc then some (MM x y)else none) fun x=>ob b.asStr fun y=>bif DY t.desc then some (KI x y)else none) fun x=>ob b.asI fun y=>ob (SI t.desc) fun _=>bif Wp x.1 y.1 then some (Xj x.2 y.2)else none
def Ua (tb:TB) (cs ds:List GV) (fs:List Field):Option Bool:=List.rec (motive:=fun _=>Option Bool) (some true) (fun f _ ih=>ob (tb f.type) fun t=>ob (CV cs f.offset) fun a=>ob (CV ds f.offset) fun b=>ob (LC t a b) fun q=>bif q then ih else some false) fs
def Bj (t:Ty):Bool:=bif Yx t.desc then true else bif DY t.desc then true else Option.casesOn (motive:=fun _=>Bool) (SI t.desc) false fun _=>true
def sD (tb:TB) (fs:List Field):Bool:=List.rec (motive:=fun _=>Bool) true (fun f _ ih=>Option.casesOn (motive:=fun _=>Bool) (tb f.type) false fun t=>bif Bj t then ih else false) fs
def GT (T:Nat):Bool:=bif Nat.blt 31 T then Nat.blt T 512 else false
def Sj (tb:TB) (op:BinOp) (T:TypeId) (v u:GV):Option GV:=Option.casesOn (motive:=fun _=>Option GV) v.asA (bif u.isSnil then ob (Ui v) fun _=>ob (tb T) fun t=>ob (SJ t.desc) fun _=>Tj op v.isSnil true else none) fun cs=>ob u.asA fun ds=>bif GT T then ob (nF tb T) fun fs=>bif sD tb fs then ob (Ua tb cs ds fs) fun q=>Tj op q true else none else none
def Bc (tb:TB) (op:BinOp) (T:TypeId) (v u:GV):Option GV:=
 Option.casesOn (motive:=fun _=>Option GV) v.asI
  (Option.casesOn (motive:=fun _=>Option GV) v.asStr (Option.casesOn (motive:=fun _=>Option GV) v.asB (bif v.isInil then(bif u.isInil then ob (tb T) fun t=>bif tdE t.desc then YT op else none else none)else Sj tb op T v u) fun a=>ob u.asB fun b=>ob (tb T) fun t=>bif Yx t.desc then Tj op a b else none) fun a=>ob u.asStr fun b=>YU op a b)
  fun a=>ob u.asI fun b=>bif EB op then Dw (binOp op 0 (.int a.1 a.2) (.int b.1 b.2))else bif Wp a.1 b.1 then XT op a.1 a.2 b.2 else none
def UX (op:UnOp) (v:GV):Option GV:=UnOp.casesOn (motive:=fun _=>Option GV) op (ob v.asI fun a=>gw a.1 (0 - a.2)) none (ob v.asB fun b=>fb (!b)) none
def Vn (tb:TB) (S D:TypeId) (v:GV):Option GV:=ob v.asI fun a=>ob (tb S) fun s=>ob (SI s.desc) fun _=>ob (tb D) fun t=>ob (SI t.desc) fun k=>fi (k.wrap a.2) fun z=>some (.int k z)
def vB (o:Option GV) (d:Nat):Option Nat:=Option.casesOn (motive:=fun _=>Option Nat) o (some d) fun v=>ob v.asI fun a=>VF a.2
def UW (s:Nat×Nat) (l h:Nat):Option GV:=bif Nat.ble l h then(bif Nat.ble h s.2 then sn (Nat.mod (Nat.shiftRight s.1 (Nat.mul 8 l)) (Nat.pow 2 (Nat.mul 8 (Nat.sub h l)))) fun n=>sn (Nat.sub h l) fun k=>some (.str n k)else none)else none
def UU (s:Nat×Nat×Nat×Nat) (sz l h:Nat):Option GV:=bif Nat.beq sz s.2.2.2 then(bif Nat.ble l h then(bif Nat.ble h s.2.2.1 then sn (Nat.add s.2.1 (Nat.mul l sz)) fun o=>sn (Nat.sub h l) fun k=>some (.sl s.1 o k sz)else none)else none)else none
def UV (p:Nat×Nat) (n sz l h:Nat):Option GV:=bif Nat.ble l h then(bif Nat.ble h n then(bif Nat.beq sz 0 then none else sn (Nat.add p.2 (Nat.mul l sz)) fun o=>sn (Nat.sub h l) fun k=>some (.sl p.1 o k sz))else none)else none
def zD (tb:TB) (T:TypeId) (v:GV) (lo hi:Option GV) (H:GH):Option GV:=ob (vB lo 0) fun l=>ob (tb T) fun t=>
 Option.casesOn (motive:=fun _=>Option GV) v.asStr
  (Option.casesOn (motive:=fun _=>Option GV) v.asS
   (Bool.casesOn (motive:=fun _=>Option GV) v.isSnil (ob v.asP fun p=>ob (W_ t.desc) fun e=>ob (tb e.2) fun te=>ob (vB hi e.1) fun h=>ob (H.cells p.1) fun cs=>bif Nat.ble (Nat.add p.2 (Nat.mul e.1 te.size)) cs.length then UV p e.1 te.size l h else none) (ob (SJ t.desc) fun e=>ob (tb e) fun te=>ob (vB hi 0) fun h=>bif Nat.beq l 0 then(bif Nat.beq h 0 then some .snil else none)else none))
   fun s=>ob (SJ t.desc) fun e=>ob (tb e) fun te=>ob (vB hi s.2.2.1) fun h=>UU s te.size l h)
  fun s=>ob (vB hi s.2) fun h=>bif DY t.desc then UW s l h else none
def BV (tb:TB) (T:TypeId) (f:Nat) (v:GV):Option GV:=ob v.asP fun p=>ob (nF tb T) fun fs=>ob (CV fs f) fun q=>ob (tb q.type) fun tq=>bif Nat.beq tq.size 0 then none else sn (Nat.add p.2 q.offset) fun o=>some (.ptr p.1 o)
def wS (t:Ty) (cs:List GV) (o:Nat):Option GV:=bif s_ t.desc then ob (Xq cs o t.size) fun r=>some (.agg r)else CV cs o
def Vq (tb:TB) (T:TypeId) (f:Nat) (v:GV):Option GV:=ob v.asA fun cs=>ob (nF tb T) fun fs=>ob (CV fs f) fun q=>ob (tb q.type) fun tq=>wS tq cs q.offset
def UT (tb:TB) (T:TypeId) (s:Nat×Nat×Nat×Nat) (i:Nat):Option GV:=ob (vO tb T) fun te=>bif Nat.blt i s.2.2.1 then sn (Nat.add s.2.1 (Nat.mul i te.2.size)) fun o=>some (.ptr s.1 o)else none
def US (tb:TB) (T:TypeId) (p:Nat×Nat) (i:Nat):Option GV:=ob (tb T) fun t=>ob (W_ t.desc) fun e=>ob (tb e.2) fun te=>bif Nat.blt i e.1 then sn (Nat.add p.2 (Nat.mul i te.size)) fun o=>some (.ptr p.1 o)else none
def Gg (tb:TB) (T:TypeId) (v w:GV):Option GV:=ob w.asI fun n=>ob (VF n.2) fun n=>Option.casesOn (motive:=fun _=>Option GV) v.asP (ob v.asS fun s=>UT tb T s n) fun p=>US tb T p n
def Xr (tb:TB) (T:TypeId) (v w:GV):Option GV:=ob v.asStr fun s=>ob w.asI fun n=>ob (VF n.2) fun n=>ob (tb T) fun t=>bif DY t.desc then(bif Nat.blt n s.2 then sn (Nat.mod (Nat.shiftRight s.1 (Nat.mul 8 n)) 256) fun b=>some (.int .u8 (.ofNat b))else none)else none
def Xd (i:Nat) (v:GV):Option GV:=ob v.asT fun vs=>CV vs i
def Lt (ps:List (Nat×Nat)) (l:List (Nat×GV)):List GV->Option (List GV):=List.rec (motive:=fun _=>List GV->Option (List GV)) (fun cs=>some cs) (fun p _ ih cs=>ob (CV ps p.1) fun q=>ob p.2.cells fun cc=>bif Nat.beq cc.length q.2 then(bif Nat.beq q.2 0 then none else ob (Co cc q.1 cs) ih)else none) l
def Dk (sz:Nat) (l:List (Nat×GV)):List GV->Option (List GV):=List.rec (motive:=fun _=>List GV->Option (List GV)) (fun cs=>some cs) (fun p _ ih cs=>ob p.2.cells fun cc=>bif Nat.beq cc.length sz then(bif Nat.beq sz 0 then none else ob (Co cc (Nat.mul p.1 sz) cs) ih)else none) l
def xK (tb:TB) (T:TypeId):Option (List GV):=ob (tb T) fun t=>ob (Yq t.zero) fun z=>z.cells
def Sm (tb:TB) (T:TypeId) (vs:List (Nat×GV)):Option GV:=ob (tb T) fun t=>ob (xK tb T) fun zc=>Option.casesOn (motive:=fun _=>Option GV) (YN t.desc) (ob (W_ t.desc) fun e=>ob (tb e.2) fun te=>ob (Dk te.size vs zc) fun cs=>some (.agg cs)) fun _=>ob (JP tb T) fun pl=>ob (Lt pl vs zc) fun cs=>some (.agg cs)
def Mb (tb:TB) (T:TypeId) (v:GV):Option GV:=ob (tb T) fun t=>Option.casesOn (motive:=fun _=>Option GV) v.asStr (ob (SJ t.desc) fun _=>ob (Ui v) fun n=>some (.int .i64 (.ofNat n))) fun s=>bif DY t.desc then some (.int .i64 (.ofNat s.2))else none
def YB (tb:TB) (T:TypeId) (v:GV):Option GV:=ob (tb T) fun t=>ob (SJ t.desc) fun _=>bif v.isSnil then some (.int .i64 (.ofNat 0))else none
def Ss (v u:GV):Option GV:=ob v.asI fun a=>ob u.asI fun b=>bif Wp a.1 b.1 then(bif WG a.2 b.2 then some u else some v)else none
def Su (v u:GV):Option GV:=ob v.asI fun a=>ob u.asI fun b=>bif Wp a.1 b.1 then(bif WG b.2 a.2 then some u else some v)else none

def sO (tb:TB) (T:TypeId) (v:GV) (H:GH):Option GV:=ob v.asP fun p=>ob (H.cells p.1) fun cs=>ob (tb T) fun t=>wS t cs p.2
def oV (tb:TB) (T:TypeId) (v u:GV) (H:GH):OR:=ob v.asP fun p=>ob (H.cells p.1) fun cs=>ob (tb T) fun t=>ob u.cells fun uc=>bif Nat.beq uc.length t.size then bif Nat.beq t.size 0 then none else ob (Co uc p.2 cs) fun cs'=>H.setK p.1 (.cells cs') fun H'=>some (.un,H')else none
def L_ (v:GV) (H:GH):OR:=ob v.cells fun vc=>H.newK (.cells vc) fun h H'=>some (.ptr h 0,H')
def rH (tb:TB) (T:TypeId) (H:GH):OR:=ob (xK tb T) fun zc=>H.newK (.cells zc) fun h H'=>some (.ptr h 0,H')
def KJ (z:List GV) (n:Nat):List GV:=Nat.rec (motive:=fun _=>List GV) [] (fun _ ih=>z++ih) n
def fc {R:Type} (a:List GV):(List GV->R)->R:=List.rec (motive:=fun _=>(List GV->R)->R) (fun k=>k []) (fun x _ ih k=>ih fun r=>k (x::r)) a
def wV (tb:TB) (T:TypeId) (n:Nat) (vs:List (Nat×GV)) (H:GH):OR:=ob (vO tb T) fun te=>ob (xK tb te.1) fun zc=>bif Nat.beq zc.length te.2.size then(bif Nat.blt (Nat.mul n te.2.size) 16777216 then(bif Nat.beq te.2.size 0 then none else ob (Dk te.2.size vs (KJ zc n)) fun cs=>H.newK (.cells cs) fun h H'=>some (.sl h 0 n te.2.size,H'))else none)else none
def NC (tb:TB) (T:TypeId) (v u:GV) (H:GH):OR:=ob (vO tb T) fun te=>ob (xK tb te.1) fun zc=>ob v.asI fun k=>ob u.asI fun c=>bif Xj k.2 c.2 then ob (VF k.2) fun k=>(bif Nat.beq zc.length te.2.size then(bif Nat.blt (Nat.mul k te.2.bytes) 16777216 then(bif Nat.blt k 16777216 then(bif Nat.beq te.2.size 0 then none else fc (KJ zc k) fun l=>H.newK (.cells l) fun h H'=>some (.sl h 0 k te.2.size,H'))else none)else none)else none)else none
def lap {R:Type} (a b:List GV):(List GV->R)->R:=List.rec (motive:=fun _=>(List GV->R)->R) (fun k=>k b) (fun x _ ih k=>ih fun r=>k (x::r)) a
def o_ (H:GH) (sz:Nat) (v:GV):Option (Nat×List GV):=bif v.isSnil then some (0,[])else ob v.asS fun s=>bif Nat.beq s.2.2.2 sz then ob (H.cells s.1) fun cs=>ob (Xq cs s.2.1 (Nat.mul s.2.2.1 sz)) fun r=>some (s.2.2.1,r)else none
def Ll (H:GH) (v:GV):GH:=Option.casesOn (motive:=fun _=>GH) v.asS H fun s=>H.del s.1
def Qt (H:GH) (v:GV) (f:GH->OR):OR:=Option.casesOn (motive:=fun _=>OR) v.asS (f H) fun s=>H.delK s.1 f
def Sf (tb:TB) (T T':TypeId) (v u:GV) (H:GH):OR:=bif v.isSnil then ob (vO tb T) fun te=>ob (tb T') fun t'=>ob (SI t'.desc) fun _=>ob (xK tb te.1) fun zc=>ob u.asI fun k=>ob (VF k.2) fun n=>bif Nat.beq zc.length te.2.size then(bif Nat.blt (Nat.mul n (Nat.add te.2.bytes 1)) 16777216 then(bif Nat.beq te.2.size 0 then none else(bif Nat.beq n 0 then none else fc (KJ zc n) fun l=>H.newK (.cells l) fun h H'=>some (.sl h 0 n te.2.size,H')))else none)else none else none
def OV (tb:TB) (T T':TypeId) (v u:GV) (H:GH):OR:=bif Nat.beq T T' then ob (vO tb T) fun te=>bif Nat.beq te.2.size 0 then none else ob (xK tb te.1) fun zc=>bif Nat.beq zc.length te.2.size then ob (o_ H te.2.size v) fun p=>ob (o_ H te.2.size u) fun q=>Nat.casesOn (motive:=fun _=>OR) q.1 (some (v,H)) (fun _=>sn (Nat.add p.1 q.1) fun n=>bif Nat.blt (Nat.mul n (Nat.add te.2.bytes 1)) 16777216 then lap p.2 q.2 fun l=>Qt H v fun H1=>H1.newK (.cells l) fun h H'=>some (.sl h 0 n te.2.size,H')else none)else none else Sf tb T T' v u H
def Vo (tb:TB) (T:TypeId) (v u:GV) (H:GH):OR:=ob v.asS fun s=>ob u.asS fun r=>ob (vO tb T) fun te=>bif Nat.beq s.2.2.2 te.2.size then(bif Nat.beq r.2.2.2 te.2.size then(bif Nat.beq r.2.2.1 s.2.2.1 then ob (H.cells r.1) fun cs=>ob (Xq cs r.2.1 (Nat.mul r.2.2.1 te.2.size)) fun xs=>ob (H.cells s.1) fun ds=>List.casesOn (motive:=fun _=>OR) xs none (fun _ _=>ob (Co xs s.2.1 ds) fun ds'=>H.setK s.1 (.cells ds') fun H'=>some (.int .i64 (.ofNat r.2.2.1),H'))else none)else none)else none
def yA (H:GH):OR:=H.newK (.mp []) fun h H'=>some (.map h,H')
def MX (a b:GV):Option Bool:=Option.casesOn (motive:=fun _=>Option Bool) a.asI (ob a.asStr fun x=>ob b.asStr fun y=>some (KI x y)) fun x=>ob b.asI fun y=>bif Wp x.1 y.1 then some (Xj x.2 y.2)else none
def JI (k:GV) (es:List (GV×GV)):Option (Option GV):=List.rec (motive:=fun _=>Option (Option GV)) (some none) (fun e _ ih=>ob (MX k e.1) fun b=>bif b then some (some e.2)else ih) es
def FB (t:Ty) (k:GV):Bool:=Option.casesOn (motive:=fun _=>Bool) k.asI (Option.casesOn (motive:=fun _=>Bool) k.asStr false (fun _=>DY t.desc)) (fun x=>Option.casesOn (motive:=fun _=>Bool) (SI t.desc) false (fun _=>true))
def Rh (tb:TB) (T:TypeId):Option (Ty×Ty):=ob (tb T) fun t=>ob (tdM t.desc) fun kv=>ob (tb kv.1) fun tk=>ob (tb kv.2) fun tv=>some (tk,tv)
def NB (tb:TB) (T:TypeId) (ok:Bool) (v k:GV) (H:GH):Option GV:=ob v.asM fun h=>ob (H.get h) fun o=>ob o.asM fun es=>ob (Rh tb T) fun t=>bif FB t.1 k then ob (JI k es) fun r=>ob (Yq t.2.zero) fun z=>Option.casesOn (motive:=fun _=>Option GV) r (bif ok then some (.tup [z,.bool false])else some z) (fun g=>bif ok then some (.tup [g,.bool true])else some g)else none
def IC (tb:TB) (T:TypeId) (v k u:GV) (H:GH):OR:=ob v.asM fun h=>ob (H.get h) fun o=>ob o.asM fun es=>ob (Rh tb T) fun t=>bif FB t.1 k then ob (JI k es) fun r=>Option.casesOn (motive:=fun _=>OR) r (H.setK h (.mp (es++[(k,u)])) fun H'=>some (.un,H')) (fun _=>none)else none

section
variable {R:Type}
abbrev KT (R:Type):=GF->GH->(GV->GH->Option R)->Option R
def k1 (x:Operand) (f:GV->Option GV):KT R:=fun σ H k=>ob (some x) fun x=>ob (gW σ x) fun v=>ob (f v) fun g=>k g H
def k2 (x y:Operand) (f:GV->GV->Option GV):KT R:=fun σ H k=>ob (some x) fun x=>ob (gW σ x) fun v=>ob (gW σ y) fun u=>ob (f v u) fun g=>k g H
def k3 (x y z:Operand) (f:GV->GV->GV->Option GV):KT R:=fun σ H k=>ob (some x) fun x=>ob (gW σ x) fun v=>ob (gW σ y) fun u=>ob (gW σ z) fun t=>ob (f v u t) fun g=>k g H
def DO (x:Operand):KT R:=fun σ H k=>ob (some x) fun x=>ob (gW σ x) fun v=>k v H
def kFn (fn:Fn) (first caps:Array Operand):KT R:=match fn with
 | .func f=>fun σ H k=>ob (BI σ first.toList) fun us=>ob (BI σ caps.toList) fun vs=>k (.fn f us vs) H
 |_=>fun _ _ _=>none
def Di (σ:GF) (o:Option Operand):Option (Option GV):=Option.casesOn (motive:=fun _=>Option (Option GV)) o (some none) fun x=>ob (gW σ x) fun v=>some (some v)
def WB (tb:TB) (T:TypeId) (x:Operand) (lo hi mx:Option Operand):KT R:=Option.casesOn (motive:=fun _=>KT R) mx (fun σ H k=>ob (some x) fun x=>ob (gW σ x) fun v=>ob (Di σ lo) fun l=>ob (Di σ hi) fun h=>ob (zD tb T v l h H) fun g=>k g H) (fun _ _ _ _=>none)
def WA (tb:TB) (T:TypeId) (ps:List (Nat×Operand)):KT R:=fun σ H k=>ob (pS σ ps) fun vs=>ob (Sm tb T vs) fun g=>k g H
def fQ (r:OR) (k:GV->GH->Option R):Option R:=ob r fun p=>Prod.casesOn (motive:=fun _=>Option R) p fun g h=>k g h
def MU (tb:TB) (T:TypeId) (x:Operand):KT R:=fun σ H k=>ob (some x) fun x=>ob (gW σ x) fun v=>ob (sO tb T v H) fun g=>k g H
def Ia (tb:TB) (T:TypeId) (x y:Operand):KT R:=fun σ H k=>ob (some x) fun x=>ob (gW σ x) fun v=>ob (gW σ y) fun u=>fQ (oV tb T v u H) k
def Up (x:Operand):KT R:=fun σ H k=>ob (some x) fun x=>ob (gW σ x) fun v=>fQ (L_ v H) k
def Wz (tb:TB) (T:TypeId):KT R:=fun σ H k=>fQ (rH tb T H) k
def Ur (tb:TB) (T:TypeId) (n:Nat) (ps:List (Nat×Operand)):KT R:=fun σ H k=>ob (pS σ ps) fun vs=>fQ (wV tb T n vs H) k
def MW (tb:TB) (T:TypeId) (x y:Operand):KT R:=fun σ H k=>ob (some x) fun x=>ob (gW σ x) fun v=>ob (gW σ y) fun u=>fQ (NC tb T v u H) k
def Q_ (r:Option Operand):KT R:=Option.casesOn (motive:=fun _=>KT R) r (fun σ H k=>fQ (yA H) k) (fun _ _ _ _=>none)
def MV (tb:TB) (T:TypeId) (x y:Operand) (ok:Bool):KT R:=fun σ H k=>ob (some x) fun x=>ob (gW σ x) fun v=>ob (gW σ y) fun u=>ob (NB tb T ok v u H) fun g=>k g H
def H_ (tb:TB) (T:TypeId) (x y z:Operand):KT R:=fun σ H k=>ob (some x) fun x=>ob (gW σ x) fun v=>ob (gW σ y) fun u=>ob (gW σ z) fun t=>fQ (IC tb T v u t H) k
def FA (xs:List Operand) (f:Operand->KT R):KT R:=List.casesOn (motive:=fun _=>KT R) xs (fun _ _ _=>none) fun x r=>List.casesOn (motive:=fun _=>KT R) r (f x) (fun _ _ _ _ _=>none)
def Ak (xs:List Operand) (f:Operand->Operand->KT R):KT R:=List.casesOn (motive:=fun _=>KT R) xs (fun _ _ _=>none) fun x r=>List.casesOn (motive:=fun _=>KT R) r (fun _ _ _=>none) fun y r=>List.casesOn (motive:=fun _=>KT R) r (f x y) (fun _ _ _ _ _=>none)
def QY (tb:TB) (ts:List TypeId) (x y:Operand):KT R:=fun σ H k=>ob (CV ts 0) fun T=>ob (CV ts 1) fun T'=>ob (gW σ x) fun v=>ob (gW σ y) fun u=>fQ (OV tb T T' v u H) k
def JA (tb:TB) (ts:List TypeId) (x y:Operand):KT R:=fun σ H k=>ob (CV ts 0) fun T=>ob (gW σ x) fun v=>ob (gW σ y) fun u=>fQ (Vo tb T v u H) k
def Ox (tb:TB) (ts:List TypeId) (x:Operand):KT R:=fun σ H k=>ob (CV ts 0) fun T=>ob (gW σ x) fun v=>ob (YB tb T v) fun g=>k g H
def Oy (tb:TB) (ts:List TypeId) (x:Operand):KT R:=fun σ H k=>ob (CV ts 0) fun T=>ob (gW σ x) fun v=>ob (Mb tb T v) fun g=>k g H
def LB (tb:TB) (xs:Array Operand) (ts:Array TypeId):Builtin->KT R
 | .len=>FA xs.toList (Oy tb ts.toList)
 | .max=>Ak xs.toList fun x y=>k2 x y Ss
 | .min=>Ak xs.toList fun x y=>k2 x y Su
 | .append=>Ak xs.toList (QY tb ts.toList)
 | .copy=>Ak xs.toList (JA tb ts.toList)
 | .cap=>FA xs.toList (Ox tb ts.toList)
 |_=>fun _ _ _=>none
abbrev CH:=Nat->List GV->GH->OR
def QZ (ih:CH) (xs:Array Operand) (f:Operand):KT R:=fun σ H k=>ob (gW σ f) fun v=>ob v.asF fun g=>ob (BI σ xs.toList) fun us=>fQ (ih g.1 (g.2.1++us++g.2.2) H) k
def Yj (tb:TB) (ih:CH) (c:Call):KT R:=Callee.casesOn (motive:=fun _=>KT R) c.callee (QZ ih c.args) (fun _ _ _ _ _=>none) (LB tb c.args c.argTypes)
end
def IE {R:Type} (tb:TB) (ih:CH) (o:Op):KT R:=Op.casesOn (motive:=fun _=>KT R) o (fun a0=>DO a0) (fun a0=>DO a0) (fun a0 a1 a2=>k3 a0 a1 a2 uG) (fun a0=>Wz tb a0) (fun _ a1=>Up a1) (fun a0 a1=>WA tb a0 a1.toList) (fun a0 a1 a2=>Ur tb a0 a1 a2.toList) (fun _ _ _ _=>fun _ _ _=>none) (fun a0 a1=>MU tb a0 a1) (fun a0 a1 a2=>Ia tb a0 a1 a2) (fun _=>fun _ _ _=>none) (fun _=>fun _ _ _=>none) (fun a0=>k1 a0 GV.nilck) (fun a0 a1 a2 a3 _=>k2 a2 a3 (Bc tb a0 a1)) (fun a0 _ a2=>k1 a2 (UX a0)) (fun a0 a1 a2=>k1 a2 (Vn tb a0 a1)) (fun _ _=>fun _ _ _=>none) (fun _ _=>fun _ _ _=>none) (fun a0 a1 a2=>kFn a0 a1 a2) (fun _ a1=>Q_ a1) (fun _ _=>fun _ _ _=>none) (fun a0 a1 a2=>MW tb a0 a1 a2) (fun a0 a1 a2 a3 a4=>WB tb a0 a1 a2 a3 a4) (fun a0 a1 a2=>k1 a1 (BV tb a0 a2)) (fun a0 a1 a2=>k1 a1 (Vq tb a0 a2)) (fun a0 a1 a2=>k2 a1 a2 (Gg tb a0)) (fun a0 a1 a2=>k2 a1 a2 (Xr tb a0)) (fun a0 a1 a2 a3=>MV tb a0 a1 a2 a3) (fun a0 a1 a2 a3=>H_ tb a0 a1 a2 a3) (fun _ _ _=>fun _ _ _=>none) (fun _ _ _ _=>fun _ _ _=>none) (fun _ _=>fun _ _ _=>none) (fun _ _=>fun _ _ _=>none) (fun _=>fun _ _ _=>none) (fun _ _ _ _=>fun _ _ _=>none) (fun a0 a1=>k1 a0 (Xd a1)) (fun a0=>Yj tb ih a0) (fun _=>fun _ _ _=>none) (fun _=>fun _ _ _=>none) (fun _=>fun _ _ _=>none) (fun _ _=>fun _ _ _=>none) (fun _ _ _=>fun _ _ _=>none) (fun _ _=>fun _ _ _=>none)

def YA (x:Operand):Nat:=Operand.casesOn (motive:=fun _=>Nat) x (fun t=>Nat.shiftLeft 1 t) (fun _=>0) (fun _=>0) (fun _=>0)
def Yz (all:List Oper) (o:Oper):Nat:=Nat.lor (o.op.operands.toList.foldl (fun m x=>Nat.lor m (YA x)) 0) (match o.guard with
 |none=>0
 |some g=>match CV all g.1 with
  |some oj=>(match oj.dst with|some d=>Nat.shiftLeft 1 d|none=>0)
  |none=>0)
def abn (m:Nat) (d:Option Nat):Nat:=match d with
 |none=>m
 |some d=>bif Nat.testBit m d then Nat.sub m (Nat.shiftLeft 1 d)else m
def Uu (all:List Oper) (l:List Oper) (m:Nat):Nat:=l.foldr (fun o m=>Nat.lor (abn m o.dst) (Yz all o)) m
structure Cx where
 res:List ResultVar
 retm:Nat
 env:List (Nat×Nat)
def xC (e:List (Nat×Nat)) (id:Nat):Nat:=List.rec (motive:=fun _=>Nat) 0 (fun p _ ih=>bif Nat.beq p.1 id then p.2 else ih) e
def Ym (c:Code) (retm:Nat):Nat->List (Nat×Nat)->Nat:=Code.rec (motive:=fun _=>Nat->List (Nat×Nat)->Nat)
 (fun m _=>m) (fun _ ops _ m _=>Uu ops.toList ops.toList m) (fun _ _ la lb m e=>la (lb m e) e) (fun x _ _ la lb m e=>Nat.lor (YA x) (Nat.lor (la m e) (lb m e))) (fun id _ lb m e=>lb m ((id,m)::e))
 (fun _ lb _ e=>Nat.lor (lb 0 e) (lb (lb 0 e) e)) (fun _ _ _ _ _ _ _ _=>0) (fun id _ e=>xC e id) (fun _ _ _ _=>0) (fun _ _ _=>0) (fun _ _ _=>0) (fun _ _=>retm) (fun _ _ _=>0) c
def live (c:Code) (m:Nat) (cx:Cx):Nat:=Ym c cx.retm m cx.env
def Yk (f m:Nat):Nat->List Nat:=Nat.rec (motive:=fun _=>Nat->List Nat) (fun _=>[]) (fun _ ih i=>bif Nat.testBit m i then i::ih (Nat.succ i)else ih (Nat.succ i)) f
def iY (m:Nat):List Nat:=Yk (Nat.succ (Nat.log2 m)) m 0
def xX (σ:GF) (ks:List Nat):List GV:=List.rec (motive:=fun _=>List GV) [] (fun k _ ih=>Option.casesOn (motive:=fun _=>GV) (AZ σ k) .bad (fun v=>v)::ih) ks
def gQ {R:Type} (ks:List Nat):List GV->(GF->Option R)->Option R:=List.rec (motive:=fun _=>List GV->(GF->Option R)->Option R) (fun vs k=>List.casesOn (motive:=fun _=>Option R) vs (k []) fun _ _=>none) (fun key _ ih vs k=>List.casesOn (motive:=fun _=>Option R) vs none fun v r=>ih r fun σ=>k ((key,v)::σ)) ks

inductive Ex where
 |normal
 |exit (id:Nat)
 |ret
inductive Vz where
 |fn (f:Nat)
 |loop (b:Code) (cx:Cx)
structure GS where
 σ:GF
 H:GH
structure IU where
 e:Ex
 vs:List GV
 H:GH
abbrev RS:=Option IU
abbrev QH0:=List GV->GH->RS
abbrev QH:=Nat->List GV->GH->RS
abbrev IH:=Vz->List GV->GH->RS
def WS (tb:TB) (s:GS) (r:ResultVar):Option GV:=ResultVar.casesOn (motive:=fun _=>Option GV) r (fun t=>AZ s.σ t) fun a T=>ob (AZ s.σ a) fun v=>sO tb T v s.H
def JX (tb:TB) (s:GS) (l:List ResultVar):Option (List GV):=List.rec (motive:=fun _=>Option (List GV)) (some []) (fun r _ ih=>ob (WS tb s r) fun v=>ob ih fun vs=>some (v::vs)) l
def EF (l:List ResultVar):Nat:=List.rec (motive:=fun _=>Nat) 0 (fun r _ ih=>Nat.lor (ResultVar.casesOn (motive:=fun _=>Nat) r (fun t=>Nat.shiftLeft 1 t) (fun a _=>Nat.shiftLeft 1 a)) ih) l
def OH (vs:List GV):GV:=List.casesOn (motive:=fun _=>GV) vs (.tup []) (fun v r=>List.casesOn (motive:=fun _=>GV) r v (fun _ _=> .tup vs))
def putD (d:Option Nat) (v:GV) (σ:GF):GF:=Option.casesOn (motive:=fun _=>GF) d σ fun d=>(d,v)::σ
def CC (ks:List Nat) (s:GS):RS:=some ⟨.normal,xX s.σ ks,s.H⟩
def LQ (tb:TB) (cx:Cx) (s:GS):RS:=ob (JX tb s cx.res) fun vs=>some ⟨.ret,vs,s.H⟩
def Vi (ks:List Nat) (k:GS->RS) (r:RS):RS:=ob r fun o=>Ex.casesOn (motive:=fun _=>RS) o.e (gQ ks o.vs fun σ=>k ⟨σ,o.H⟩) (fun _=>some o) (some o)
def nB (id:Nat) (r:RS):RS:=ob r fun o=>Ex.casesOn (motive:=fun _=>RS) o.e (some o) (fun i=>Bool.casesOn (motive:=fun _=>RS) (Nat.beq i id) (some o) (some ⟨.normal,o.vs,o.H⟩)) (some o)
def DW (g:GV) (H:GH):OR:=some (g,H)
def YM (d:Option Nat) (s:GS) (k:GS->RS) (g:GV) (H:GH):RS:=k ⟨putD d g s.σ,H⟩
def Xk (tb:TB) (ih:CH) (o:Oper) (s:GS) (b:Bool) (v:GV):OR:=GV.casesOn (motive_1:=fun _=>OR) v (fun _ _=>none) (fun q=>Bool.casesOn (motive:=fun _=>OR) (MM q b) (some (.un,s.H)) (IE tb ih o.op s.σ s.H DW)) (fun _ _=>none) (fun _ _=>none) none (fun _ _ _ _=>none) none (fun _=>none) (fun _ _ _=>none) none none (fun _=>none) (fun _=>none) (some (.un,s.H)) none (fun _=>none)
def Fp (tb:TB) (ih:CH) (all:List Oper) (o:Oper) (k:GS->RS) (s:GS):RS:=Option.casesOn (motive:=fun _=>RS) o.guard (IE tb ih o.op s.σ s.H (YM o.dst s k)) fun g=>ob (CV all g.1) fun oj=>ob oj.dst fun dj=>ob (AZ s.σ dj) fun v=>fQ (Xk tb ih o s g.2 v) (YM o.dst s k)
def Bh (tb:TB) (ih:CH) (all:List Oper) (k:GS->RS) (l:List Oper):GS->RS:=List.rec (motive:=fun _=>GS->RS) k (fun o _ ihl s=>Fp tb ih all o ihl s) l

def jP:Op->Bool
 | .load .. => true
 |_=>false
def HZ:Op->Bool
 | .lookup .. => true
 |_=>false
def Us (σ:GF):Op->Option Nat
 | .load _ x=>ob (some x) fun x=>ob (gW σ x) fun v=>ob v.asP fun p=>some p.1
 |_=>none
def YD {α:Type} (H:GH) (h v:Nat) (k:Option α):Option α:=ob (H.ver h) fun u=>Bool.casesOn (motive:=fun _=>Option α) (Nat.beq u v) none k
def pck (H:GH) (e:Option (Nat×Nat)) (k:Option Unit):Option Unit:=Option.casesOn (motive:=fun _=>Option Unit) e k fun p=>YD H p.1 p.2 k
def Fg (m:List Nat) (i:Nat) (H:GH) (pr:List (Nat×Option (Nat×Nat))):Option Unit:=List.rec (motive:=fun _=>Option Unit) (some ()) (fun p _ ih=>Bool.casesOn (motive:=fun _=>Option Unit) (before m i p.1) (pck H p.2 ih) ih) pr
def Fh (m:List Nat) (i h v:Nat) (hs:List (Nat×GH)):Option (Option (Nat×Nat)):=List.rec (motive:=fun _=>Option (Option (Nat×Nat))) (some (some (h,v))) (fun q _ ih=>Bool.casesOn (motive:=fun _=>Option (Option (Nat×Nat))) (before m i q.1) (YD q.2 h v ih) ih) hs
def ldV (m:List Nat) (i:Nat) (hs:List (Nat×GH)) (H:GH) (l:Option Nat):Option (Option (Nat×Nat)):=Option.casesOn (motive:=fun _=>Option (Option (Nat×Nat))) l (some none) fun h=>ob (H.ver h) fun v=>Fh m i h v hs
abbrev WT:=Nat->List (Nat×Option (Nat×Nat))->List (Nat×GH)->GS->RS
def QD (tb:TB) (ch:CH) (all:List Oper) (m:List Nat) (o:Oper) (K:WT):WT:=fun i pr hs s=>
 Bool.casesOn (motive:=fun _=>RS) (cU o.op)
  (Bool.casesOn (motive:=fun _=>RS) (jP o.op) (Fp tb ch all o (K (Nat.succ i) pr hs) s)
   (Fp tb ch all o (fun s'=>ob (ldV m i hs s.H (Us s.σ o.op)) fun e=>K (Nat.succ i) ((i,e)::pr) hs s') s))
  (Fp tb ch all o (fun s'=>ob (Fg m i s'.H pr) fun _=>K (Nat.succ i) pr ((i,s.H)::hs) s') s)
def Xm (tb:TB) (ch:CH) (all:List Oper) (m:List Nat) (k:GS->RS) (l:List Oper):WT:=List.rec (motive:=fun _=>WT) (fun _ _ _ s=>k s) (fun o _ ih=>QD tb ch all m o ih) l
def AQ (l:List Oper) (p:Op->Bool):Bool:=(List.range l.length).all fun i=>match l[i]? with
 |none=>true
 |some o=> !p o.op||(List.range l.length).all fun j=>match l[j]? with
  |none=>true
  |some oj=> !cU oj.op||before (lQ l) i j||before (lQ l) j i
def Xg (dr:Bool) (l:List Oper):Bool:=Bool.casesOn (motive:=fun _=>Bool) dr false (!AQ l jP)
def Hi (r:RS):OR:=ob r fun o=>Ex.casesOn (motive:=fun _=>OR) o.e none (fun _=>none) (some (OH o.vs,o.H))
structure GP where
 tab:TB
 cat:Nat
 ext:Nat->List GV->GH->Option (GV×GH)
 exn:Nat->List GV->Option GV
def sQ:GV:= .int .i64 (.ofNat 0)
def XX (ih:CH) (us:List GV) (H:GH):OR:=List.casesOn (motive:=fun _=>OR) us none fun u r=>List.casesOn (motive:=fun _=>OR) r (ob u.asF fun g=>H.newK (.cells [sQ]) fun h1 H1=>H1.newK (.cells [sQ]) fun h2 H2=>ob (ih g.1 (g.2.1++g.2.2) H2) fun x=>ob (x.2.cells h1) fun c1=>ob (x.2.cells h2) fun c2=>
 bif Nat.beq c1.length 1 then(bif Nat.beq c2.length 1 then x.2.setK h1 (.cells [sQ]) fun H3=>H3.setK h2 (.cells [sQ]) fun H4=>H4.delK h1 fun H5=>H5.delK h2 fun H6=>some (.tup [sQ,sQ],H6)else none)else none) (fun _ _=>none)
def XW (ih:IH):CH:=fun f us H=>Hi (ih (.fn f) us H)
def callQ (G:GP) (q:QH):CH:=fun f us H=>Bool.casesOn (motive:=fun _=>OR) (Nat.beq f G.cat) (Option.casesOn (motive:=fun _=>OR) (G.ext f us H) (Option.casesOn (motive:=fun _=>OR) (G.exn f us) (Hi (q f us H)) fun g=>some (g,H)) fun r=>some r) (XX (fun f us H=>Hi (q f us H)) us H)
def Aa (G:GP) (ih:IH):CH:=callQ G fun f us H=>ih (.fn f) us H
abbrev ET:=Nat->Cx->(GS->RS)->GS->RS
abbrev LH:=Code->Cx->QH0
def Ub (tb:TB) (ch:CH) (lp:LH) (c:Code):ET:=Code.rec (motive:=fun _=>ET)
 (fun _ _ k s=>k s)
 (fun _ ops dr _ _ k s=>Bool.casesOn (motive:=fun _=>RS) (Xg dr ops.toList) (Bh tb ch ops.toList k ops.toList s) (Xm tb ch ops.toList (lQ ops.toList) k ops.toList 0 [] [] s))
 (fun _ b ea eb m cx k s=>ea (live b m cx) cx (eb m cx k) s)
 (fun x _ _ ea eb m cx k s=>ob (gW s.σ x) fun v=>ob v.asB fun q=>Vi (iY m) k (Bool.casesOn (motive:=fun _=>RS) q (eb m cx (CC (iY m)) s) (ea m cx (CC (iY m)) s)))
 (fun id _ eb m cx k s=>Vi (iY m) k (nB id (eb m ⟨cx.res,cx.retm,(id,m)::cx.env⟩ (CC (iY m)) s)))
 (fun b _ _ cx _ s=>lp b cx (xX s.σ (iY (live (.loop b) 0 cx))) s.H)
 (fun _ _ _ _ _ _ _ _ _ _=>none)
 (fun id _ cx _ s=>some ⟨.exit id,xX s.σ (iY (xC cx.env id)),s.H⟩)
 (fun _ _ _ _ _ _=>none) (fun _ _ _ _ _=>none) (fun _ _ _ _ _=>none)
 (fun _ cx _ s=>LQ tb cx s)
 (fun _ _ _ _ _=>none) c
def QB (tb:TB) (ch:CH) (lp:LH) (fn:Func) (us:List GV) (H:GH):RS:=ob fn.body fun body=>gQ (List.range (Nat.add fn.params.size fn.nfree)) us fun σ=>Ub tb ch lp body (EF fn.results.toList) ⟨fn.results.toList,EF fn.results.toList,[]⟩ (LQ tb ⟨fn.results.toList,EF fn.results.toList,[]⟩) ⟨σ,H⟩
def Xl (tb:TB) (ch:CH) (lp:LH) (b:Code) (cx:Cx) (us:List GV) (H:GH):RS:=gQ (iY (live (.loop b) 0 cx)) us fun σ=>ob (Ub tb ch lp b (live (.loop b) 0 cx) cx (CC (iY (live (.loop b) 0 cx))) ⟨σ,H⟩) fun o=>Ex.casesOn (motive:=fun _=>RS) o.e (lp b cx o.vs o.H) (fun _=>some o) (some o)
abbrev FT:=Nat->Option Func
def step (G:GP) (Fs:FT) (ih:IH) (t:Vz):List GV->GH->RS:=Vz.casesOn (motive:=fun _=>List GV->GH->RS) t (fun f us H=>ob (Fs f) fun fn=>QB G.tab (Aa G ih) (fun b cx=>ih (.loop b cx)) fn us H) (Xl G.tab (Aa G ih) fun b cx=>ih (.loop b cx))
def run (G:GP) (Fs:FT) (fuel:Nat):IH:=Nat.rec (motive:=fun _=>IH) (fun _ _ _=>none) (fun _ ih=>step G Fs ih) fuel
def ME (G:GP) (Fs:FT) (fuel:Nat) (f:FuncId) (args:List GV) (H:GH):OR:=Aa G (run G Fs fuel) f args H
def H0:GH:=⟨0,.lf⟩
end
end
section
section
variable {α β:Type}
theorem aA {o:Option α} {f:α->Option β} {r:β}:ob o f=some r↔∃x,o=some x∧f x=some r:=by
 cases o<;>simp[ob]
theorem a_ {b:Bool} {x:Option α} {r:α}:(bif b then x else none)=some r↔b=true∧x=some r:=by
 cases b<;>simp
theorem iK {b:Bool} {x:Option α} {r:α}:(bif b then none else x)=some r↔b=false∧x=some r:=by
 cases b<;>simp
theorem rP (n:Nat) (f:Nat->α):sn n f=f n:=by cases n<;>rfl
theorem GX (z:Int) (f:Int->α):fi z f=f z:=by cases z<;>simp[fi,rP]
theorem pT (l:List α):∀n,CV l n=l[n]?:=by
 induction l with
 |nil=>intro n;rfl
 |cons x l ih=>intro n;cases n with
  |zero=>rfl
  |succ n=>exact ih n
theorem Uw {v:α}:∀{l l':List α} {n:Nat},Uv v l n=some l'->n<l.length∧l'=l.set n v:=by
 intro l
 induction l with
 |nil=>intro l' n h;cases h
 | cons x l ih => intro l' n h; cases n with
  |zero=>cases h;simp
  |succ n=>
   obtain⟨r,h1,h2⟩:=aA.1 (show ob (Uv v l n) (fun r'=>some (x::r'))=some l' from h)
   obtain⟨h3,h4⟩:=ih h1
   cases h2;simp[h3,h4]
theorem Yy:∀{l r:List α} {n:Nat},tk l n=some r->n<=l.length∧r=l.take n:=by
 intro l
 induction l with
 |nil=>intro r n h;cases n with
  |zero=>cases h;simp
  |succ n=>cases h
 | cons x l ih => intro r n h; cases n with
  |zero=>cases h;simp
  |succ n=>
   obtain⟨q,h1,h2⟩:=aA.1 (show ob (tk l n) (fun r=>some (x::r))=some r from h)
   obtain⟨h3,h4⟩:=ih h1
   cases h2;simp[h3,h4]
theorem XZ:∀{l r:List α} {n:Nat},dp l n=some r->n<=l.length∧r=l.drop n:=by
 intro l
 induction l with
 |nil=>intro r n h;cases n with
  |zero=>cases h;simp
  |succ n=>cases h
 |cons x l ih=>intro r n h;cases n with
  |zero=>cases h;simp
  |succ n=>have:=ih (show dp l n=some r from h);simpa using this
theorem Is {l r:List α} {o n:Nat} (h:Xq l o n=some r):o+n<=l.length∧r=(l.drop o).take n:=by
 obtain⟨q,h1,h2⟩:=aA.1 h
 obtain⟨h3,rfl⟩:=XZ h1
 obtain⟨h4,rfl⟩:=Yy h2
 simp at h4
 exact⟨by omega,rfl⟩
def wr (vs:List α) (o:Nat) (cs:List α):List α:=cs.take o++vs++cs.drop (o+vs.length)
end
theorem EA:∀{vs cs cs':List GV} {o:Nat},Co vs o cs=some cs'->(vs≠[]->o+vs.length<=cs.length)∧cs'.length=cs.length∧∀i,cs'[i]? = if o<=i∧i<o+vs.length then vs[i - o]? else cs[i]?:=by
 intro vs
 induction vs with
 |nil=>
  intro cs cs' o h
  cases h
  refine⟨fun h=>absurd rfl h,rfl,fun i=> ?_⟩
  rw[if_neg (by simp)]
 | cons v vs ih =>
  intro cs cs' o h
  obtain⟨c1,h1,h2⟩:=aA.1 (show ob (Uv v cs o) (fun cs'=>sn (Nat.succ o) fun o'=>Co vs o' cs')=some cs' from h)
  rw[rP]at h2
  obtain⟨h3,rfl⟩:=Uw h1
  obtain⟨h4,h5,h6⟩:=ih h2
  simp only[List.length_set,Nat.succ_eq_add_one]at h4 h5 h6
  refine⟨fun _=> ?_,h5,fun i=> ?_⟩
  ·cases vs with
   |nil=>simp;omega
   |cons y ys=>have:=h4 (by simp);simp at this ⊢;omega
  rw[h6 i]
  by_cases e:i=o
  ·subst e
   rw[if_neg (by omega),if_pos (by simp),List.getElem?_set_self h3];simp
  ·by_cases e2:o+1<=i∧i<o+1+vs.length
   ·rw[if_pos e2,if_pos (by simp;omega)]
    have:i - o=(i - (o+1))+1:=by omega
    rw[this,List.getElem?_cons_succ]
   ·rw[if_neg e2,if_neg (by simp;omega),List.getElem?_set_ne (Ne.symm e)]
theorem Jf {α:Type} (x:Option α):∀(f n m:Nat),n<f->(yH x f n).get m=if m=n then x else none:=by
 intro f
 induction f with
 |zero=>intro n m h;omega
 | succ f ih =>
  intro n m h
  show Tr.get (bif Nat.beq n 0 then .nd x .lf .lf else bif Nat.beq (Nat.mod n 2) 1 then .nd none (yH x f (Nat.div n 2)) .lf else .nd none .lf (yH x f (Nat.sub (Nat.div n 2) 1))) m=_
  have hg:∀(a:Option α) (l r:Tr α),Tr.get (.nd a l r) m=if m=0 then a else if m%2=1 then l.get (m / 2)else r.get (m / 2 - 1):=fun a l r=>by
   show Bool.casesOn (motive:=fun _=>Option α) (Nat.beq m 0) (Bool.casesOn (motive:=fun _=>Option α) (Nat.beq (Nat.mod m 2) 1) (r.get (Nat.sub (Nat.div m 2) 1)) (l.get (Nat.div m 2))) a=_
   by_cases h0:m=0
   ·subst h0;rfl
   ·rw[if_neg h0,jZ h0]
    by_cases h1:m%2=1
    ·rw[if_pos h1]
     have:Nat.beq (Nat.mod m 2) 1=true:=by rw[show Nat.mod m 2=1 from h1];rfl
     rw[this];rfl
    ·rw[if_neg h1]
     have:Nat.beq (Nat.mod m 2) 1=false:=jZ h1
     rw[this];rfl
  have hlf:∀k,(Tr.lf:Tr α).get k=none:=fun _=>rfl
  have hd:Nat.div n 2=n / 2:=rfl
  have hs:Nat.sub (Nat.div n 2) 1=n / 2 - 1:=rfl
  by_cases h0:n=0
  ·subst h0
   show Tr.get (.nd x .lf .lf) m=_
   simp only[hg,hlf]
   by_cases hm:m=0<;>simp[hm]
  ·rw[jZ h0]
   by_cases h1:n%2=1
   ·have:Nat.beq (Nat.mod n 2) 1=true:=by rw[show Nat.mod n 2=1 from h1];rfl
    simp only[this,cond_true,cond_false,hg,hlf,hd]
    rw[ih _ _ (by omega)]
    by_cases hm:m=0
    ·rw[if_pos hm,if_neg (by omega)]
    ·rw[if_neg hm]
     by_cases h2:m%2=1
     ·rw[if_pos h2];by_cases h3:m=n
      ·subst h3;simp
      ·rw[if_neg h3,if_neg (by omega)]
     ·rw[if_neg h2,if_neg (by intro e;subst e;exact h2 h1)]
   ·have:Nat.beq (Nat.mod n 2) 1=false:=jZ h1
    simp only[this,cond_true,cond_false,hg,hlf,hs]
    rw[ih _ _ (by omega)]
    by_cases hm:m=0
    ·rw[if_pos hm,if_neg (by omega)]
    ·rw[if_neg hm]
     by_cases h2:m%2=1
     ·rw[if_pos h2,if_neg (by intro e;subst e;exact h1 h2)]
     ·rw[if_neg h2];by_cases h3:m=n
      ·subst h3;simp
      ·rw[if_neg h3,if_neg (by omega)]
theorem oH {α:Type} (x:Option α):∀(t:Tr α) (n m:Nat),(t.set x n).get m=if m=n then x else t.get m:=by
 intro t
 induction t with
 |lf=>intro n m;exact Jf x _ n m (Nat.lt_succ_self n)
 | nd a l r ihl ihr =>
  intro n m
  have hg:∀(a:Option α) (l r:Tr α),Tr.get (.nd a l r) m=if m=0 then a else if m%2=1 then l.get (m / 2)else r.get (m / 2 - 1):=fun a l r=>by
   show Bool.casesOn (motive:=fun _=>Option α) (Nat.beq m 0) (Bool.casesOn (motive:=fun _=>Option α) (Nat.beq (Nat.mod m 2) 1) (r.get (Nat.sub (Nat.div m 2) 1)) (l.get (Nat.div m 2))) a=_
   by_cases h0:m=0
   ·subst h0;rfl
   ·rw[if_neg h0,jZ h0]
    by_cases h1:m%2=1
    ·rw[if_pos h1]
     have:Nat.beq (Nat.mod m 2) 1=true:=by rw[show Nat.mod m 2=1 from h1];rfl
     rw[this];rfl
    ·rw[if_neg h1]
     have:Nat.beq (Nat.mod m 2) 1=false:=jZ h1
     rw[this];rfl
  show Tr.get (Bool.casesOn (motive:=fun _=>Tr α) (Nat.beq n 0) (Bool.casesOn (motive:=fun _=>Tr α) (Nat.beq (Nat.mod n 2) 1) (.nd a l (r.set x (Nat.sub (Nat.div n 2) 1))) (.nd a (l.set x (Nat.div n 2)) r)) (.nd x l r)) m=_
  have hd:Nat.div n 2=n / 2:=rfl
  have hs:Nat.sub (Nat.div n 2) 1=n / 2 - 1:=rfl
  by_cases h0:n=0
  ·subst h0
   show Tr.get (.nd x l r) m=_
   rw[hg,hg];by_cases hm:m=0<;>simp[hm]
  ·rw[jZ h0]
   by_cases h1:n%2=1
   ·have:Nat.beq (Nat.mod n 2) 1=true:=by rw[show Nat.mod n 2=1 from h1];rfl
    rw[this]
    show Tr.get (.nd a (l.set x (Nat.div n 2)) r) m=_
    rw[hg,hg,ihl,hd]
    by_cases hm:m=0
    ·rw[if_pos hm,if_pos hm,if_neg (by omega)]
    ·rw[if_neg hm,if_neg hm]
     by_cases h2:m%2=1
     ·rw[if_pos h2,if_pos h2];by_cases h3:m=n
      ·subst h3;simp
      ·rw[if_neg h3,if_neg (by omega)]
     ·rw[if_neg h2,if_neg h2,if_neg (by intro e;subst e;exact h2 h1)]
   ·have:Nat.beq (Nat.mod n 2) 1=false:=jZ h1
    rw[this]
    show Tr.get (.nd a l (r.set x (Nat.sub (Nat.div n 2) 1))) m=_
    rw[hg,hg,ihr,hs]
    by_cases hm:m=0
    ·rw[if_pos hm,if_pos hm,if_neg (by omega)]
    ·rw[if_neg hm,if_neg hm]
     by_cases h2:m%2=1
     ·rw[if_pos h2,if_pos h2,if_neg (by intro e;subst e;exact h1 h2)]
     ·rw[if_neg h2,if_neg h2];by_cases h3:m=n
      ·subst h3;simp
      ·rw[if_neg h3,if_neg (by omega)]
theorem oC (H:GH) (h:Nat) (o:GO) (k:Nat):(H.set h o).get k=if k=h then some o else H.get k:=by
 unfold GH.get GH.set
 rw[oH]
 by_cases e:k=h<;>simp[e,ob]
theorem KP (H:GH) (h:Nat) (o:GO) (k:Nat):(H.set h o).ver k=if k=h then some H.n else H.ver k:=by
 unfold GH.ver GH.set
 rw[oH]
 by_cases e:k=h<;>simp[e,ob]
theorem By (H:GH) (h k:Nat):(H.del h).get k=if k=h then none else H.get k:=by
 unfold GH.get GH.del
 rw[oH]
 by_cases e:k=h<;>simp[e,ob]
theorem KN (H:GH) (h k:Nat):(H.del h).ver k=if k=h then none else H.ver k:=by
 unfold GH.ver GH.del
 rw[oH]
 by_cases e:k=h<;>simp[e,ob]
noncomputable def GH.new (H:GH) (o:GO):GH:=⟨H.n+1,H.t.set (some (H.n,o)) H.n⟩
theorem mV (H:GH) (o:GO) (k:Nat):(H.new o).get k=if k=H.n then some o else H.get k:=by
 unfold GH.get GH.new
 rw[oH]
 by_cases e:k=H.n<;>simp[e,ob]
theorem KO (H:GH) (o:GO) (k:Nat):(H.new o).ver k=if k=H.n then some H.n else H.ver k:=by
 unfold GH.ver GH.new
 rw[oH]
 by_cases e:k=H.n<;>simp[e,ob]
theorem Jg {α R:Type} (x:Option α):∀(f n:Nat) (k:Tr α->R),Ce x f n k=k (yH x f n):=by
 intro f
 induction f with
 |zero=>intro n k;rfl
 |succ f ih=>
  intro n k
  show Bool.casesOn (motive:=fun _=>R) (Nat.beq n 0) (Bool.casesOn (motive:=fun _=>R) (Nat.beq (Nat.mod n 2) 1) (Ce x f (Nat.sub (Nat.div n 2) 1) fun t=>k (.nd none .lf t)) (Ce x f (Nat.div n 2) fun t=>k (.nd none t .lf))) (k (.nd x .lf .lf))=k (bif Nat.beq n 0 then .nd x .lf .lf else bif Nat.beq (Nat.mod n 2) 1 then .nd none (yH x f (Nat.div n 2)) .lf else .nd none .lf (yH x f (Nat.sub (Nat.div n 2) 1)))
  rw[ih,ih]
  cases Nat.beq n 0<;>cases Nat.beq (Nat.mod n 2) 1<;>rfl
theorem yG {α R:Type} (x:Option α):∀(t:Tr α) (n:Nat) (k:Tr α->R),t.setK x n k=k (t.set x n):=by
 intro t
 induction t with
 |lf=>intro n k;exact Jg x (Nat.succ n) n k
 |nd a l r ihl ihr=>
  intro n k
  show Bool.casesOn (motive:=fun _=>R) (Nat.beq n 0) (Bool.casesOn (motive:=fun _=>R) (Nat.beq (Nat.mod n 2) 1) (r.setK x (Nat.sub (Nat.div n 2) 1) fun t=>k (.nd a l t)) (l.setK x (Nat.div n 2) fun t=>k (.nd a t r))) (k (.nd x l r))=k (Bool.casesOn (motive:=fun _=>Tr α) (Nat.beq n 0) (Bool.casesOn (motive:=fun _=>Tr α) (Nat.beq (Nat.mod n 2) 1) (.nd a l (r.set x (Nat.sub (Nat.div n 2) 1))) (.nd a (l.set x (Nat.div n 2)) r)) (.nd x l r))
  rw[ihl,ihr]
  cases Nat.beq n 0<;>cases Nat.beq (Nat.mod n 2) 1<;>rfl
theorem fU {α:Type} (H:GH) (o:GO) (f:Nat->GH->α):H.newK o f=f H.n (H.new o):=by simp only[GH.newK,rP,yG];rfl
theorem sV {α:Type} (H:GH) (h:Nat) (o:GO) (f:GH->α):H.setK h o f=f (H.set h o):=by simp only[GH.setK,rP,yG];rfl
theorem Bw {α:Type} (H:GH) (h:Nat) (f:GH->α):H.delK h f=f (H.del h):=by simp only[GH.delK,yG];rfl
theorem WC {R:Type} (a b:List GV):∀k:List GV->R,lap a b k=k (a++b):=by
 induction a with
 |nil=>intro k;rfl
 |cons x a ih=>intro k;exact ih _
theorem MN {R:Type} (a:List GV):∀k:List GV->R,fc a k=k a:=by
 induction a with
 |nil=>intro k;rfl
 |cons x a ih=>intro k;exact ih _
theorem Qv (H:GH) (v:GV) (f:GH->OR):Qt H v f=f (Ll H v):=by
 unfold Qt Ll
 cases v.asS with
 |none=>rfl
 |some s=>exact Bw H s.1 f
theorem fH {H:GH} {h:Nat} {cs:List GV}:H.cells h=some cs↔H.get h=some (.cells cs):=by
 unfold GH.cells
 rw[aA]
 constructor
 ·rintro⟨o,h1,h2⟩;cases o with
  |cells c=>cases h2;exact h1
  |mp e=>cases h2
 ·intro h;exact⟨_,h,rfl⟩
theorem GO.asM_eq {o:GO} {es:List (GV×GV)} (h:o.asM=some es):o = .mp es:=by
 cases o with
 |cells c=>cases h
 |mp e=>cases h;rfl
theorem vR (k:Nat) (v:GV) (σ:GF) (t:Nat):AZ ((k,v)::σ) t=if t=k then some v else AZ σ t:=by
 show Bool.casesOn (motive:=fun _=>Option GV) (Nat.beq t k) (AZ σ t) (some v)=_
 by_cases e:t=k
 ·subst e;simp
 ·rw[jZ e,if_neg e]
section
variable {v:GV}
theorem kY {p:IntKind×Int} (h:v.asI=some p):v = .int p.1 p.2:=by cases v<;>cases h;rfl
theorem w_ {p:Bool} (h:v.asB=some p):v = .bool p:=by cases v<;>cases h;rfl
theorem z_ {p:Nat×Nat} (h:v.asP=some p):v = .ptr p.1 p.2:=by cases v<;>cases h;rfl
theorem xA {p:Nat×Nat×Nat×Nat} (h:v.asS=some p):v = .sl p.1 p.2.1 p.2.2.1 p.2.2.2:=by cases v<;>cases h;rfl
theorem PW {p:Nat×List GV×List GV} (h:v.asF=some p):v = .fn p.1 p.2.1 p.2.2:=by cases v<;>cases h;rfl
theorem VH {p:List GV} (h:v.asT=some p):v = .tup p:=by cases v<;>cases h;rfl
theorem EX {p:List GV} (h:v.asA=some p):v = .agg p:=by cases v<;>cases h;rfl
theorem mG {p:Nat×Nat} (h:v.asStr=some p):v = .str p.1 p.2:=by cases v<;>cases h;rfl
theorem asM_eq {p:Nat} (h:v.asM=some p):v = .map p:=by cases v<;>cases h;rfl
theorem rM (h:v.isSnil=true):v = .snil:=by cases v<;>first|rfl|cases h
end
section
variable {d:TypeDesc}
theorem BU {e:TypeId} (h:SJ d=some e):d = .slice e:=by cases d<;>cases h;rfl
theorem LY {e:Nat×TypeId} (h:W_ d=some e):d = .array e.1 e.2:=by cases d<;>cases h;rfl
theorem IA {e:Array Field} (h:YN d=some e):d = .struct e:=by cases d<;>cases h;rfl
theorem BS {e:IntKind} (h:SI d=some e):d = .int e:=by cases d<;>cases h;rfl
theorem Xa {e:TypeId×TypeId} (h:tdM d=some e):d = .map e.1 e.2:=by cases d<;>cases h;rfl
theorem wF (h:DY d=true):d = .string:=by cases d<;>first|rfl|cases h
theorem LZ (h:Yx d=true):d = .bool:=by cases d<;>first|rfl|cases h
end
theorem Db {a:Int} {n:Nat} (h:VF a=some n):a=n:=by cases a<;>cases h;rfl
theorem XR {b:Bool} {p:Prop} [Decidable p] (h:b=true↔p):b=decide p:=by
 cases b
 ·exact(decide_eq_false fun hp=>by cases h.2 hp).symm
 ·exact(decide_eq_true (h.1 rfl)).symm
theorem Dm (a b:Int):WG a b=decide (a<b):=by
  refine XR ?_
  cases a with
  | ofNat a => cases b with
    |ofNat b=>show Nat.blt a b=true↔_;rw[Nat.blt_eq];simp
    | negSucc b => constructor
                   · intro h;cases h
                   · intro h;simp at h;omega
  | negSucc a => cases b with
    | ofNat b => constructor
                 · intro _;have:=Int.negSucc_lt_zero a;simp;omega
                 · intro _;rfl
    |negSucc b=>show Nat.blt b a=true↔_;rw[Nat.blt_eq];omega
theorem Fo (a b:Int):Xj a b=decide (a=b):=by
  refine XR ?_
  cases a with
  | ofNat a => cases b with
    |ofNat b=>show Nat.beq a b=true↔_;simp;omega
    | negSucc b => constructor
                   · intro h;cases h
                   · intro h;cases h
  | negSucc a => cases b with
    | ofNat b => constructor
                 · intro h;cases h
                 · intro h;cases h
    |negSucc b=>show Nat.beq a b=true↔_;simp
theorem BF (a b:Bool):MM a b=(a==b):=by cases a<;>cases b<;>rfl
theorem Dh {a b:IntKind} (h:Wp a b=true):a=b:=of_decide_eq_true h
theorem Fq (b:Bool):fb b=some (.bool b):=by cases b<;>rfl
end
end Go.Gx
end
section
namespace Go.Gx
open Go Go.Sx Go.RowKit
section
structure GE where
 b:Nat
 off:Nat
 size:Nat
 x:Obj
 /-- what the evaluator wrote -/
 o:GO
abbrev cK:=Nat->Option GE
def cK.le (ρ ρ':cK):Prop:=∀h l,ρ h=some l->ρ' h=some l
theorem cK.le_refl (ρ:cK):ρ.le ρ:=fun _ _ h=>h
theorem cK.le_trans {a b c:cK} (h:a.le b) (k:b.le c):a.le c:=fun _ _ x=>k _ _ (h _ _ x)
inductive Rl (ρ:cK):GV->Value->Prop
 |int (k n):Rl ρ (.int k n) (.int k n)
 |bool (b):Rl ρ (.bool b) (.bool b)
 |str (s:ByteArray):Rl ρ (.str (jB (aX s)) (aX s).length) (.string s)
 |ptr {h l} (off) (hl:ρ h=some l):Rl ρ (.ptr h off) (.pointer (some ⟨l.b,l.off+off,none⟩))
 |pnil:Rl ρ .pnil (.pointer none)
 |sl {h l off len sz cap} {A:Addr} (hl:ρ h=some l) (hc:len<=cap) (ha:cap=0∨(A=⟨l.b,l.off+off,none⟩∧l.off+off+cap*sz<=l.size)):Rl ρ (.sl h off len sz) (.slice (some A) len cap)
 |snil:Rl ρ .snil (.slice none 0 0)
 |map {h l} (hl:ρ h=some l):Rl ρ (.map h) (.map (some l.b))
 | fn {us vs : List GV} {us' vs' : fP} (f) (h1 : us.length = us'.length) (h2 : ∀ (i : Nat) g v, us[i]? = some g → us'[i]? = some v → Rl ρ g v) (h3 : vs.length = vs'.length) (h4 : ∀ (i : Nat) g v, vs[i]? = some g → vs'[i]? = some v → Rl ρ g v) :
   Rl ρ (.fn f us vs) (.func (.func f) us'.toArray vs'.toArray)
 |fnil:Rl ρ .fnil .nilFunc
 |inil:Rl ρ .inil .nilIface
 |agg {cs:List GV} {vs:fP} (h1:cs.length=vs.length) (h2:∀(i:Nat) g v,cs[i]? = some g->vs[i]? = some v->Rl ρ g v) (h3:∀v∈vs,one v=true):Rl ρ (.agg cs) (.agg vs.toArray)
 |tup {cs:List GV} {vs:fP} (h1:cs.length=vs.length) (h2:∀(i:Nat) g v,cs[i]? = some g->vs[i]? = some v->Rl ρ g v):Rl ρ (.tup cs) (.tuple vs.toArray)
 |un:Rl ρ .un undef
 |bad (v):Rl ρ .bad v
 |opn {h l} (v) (hl:ρ h=some l) (hx:l.x = .cells #[v] 0 (0,0)):Rl ρ (.opn h) v
theorem Rl.le {ρ ρ':cK} (hl:ρ.le ρ') {g:GV} {v:Value} (h:Rl ρ g v):Rl ρ' g v:=by
 induction h with
 |int k n=>exact .int k n
 |bool b=>exact .bool b
 |str s=>exact .str s
 |ptr off h=>exact .ptr off (hl _ _ h)
 |pnil=>exact .pnil
 |sl h hc ha=>exact .sl (hl _ _ h) hc ha
 |snil=>exact .snil
 |map h=>exact .map (hl _ _ h)
 |fn f h1 h2 h3 h4 ih2 ih4=>exact .fn f h1 ih2 h3 ih4
 |fnil=>exact .fnil
 |inil=>exact .inil
 |agg h1 h2 h3 ih=>exact .agg h1 ih h3
 |tup h1 h2 ih=>exact .tup h1 ih
 |un=>exact .un
 |bad v=>exact .bad v
 |opn v h hx=>exact .opn v (hl _ _ h) hx
structure lR (ρ:cK) (gs:List GV) (vs:fP):Prop where
 len:gs.length=vs.length
 at':∀(i:Nat) g v,gs[i]? = some g->vs[i]? = some v->Rl ρ g v
theorem lR.nil {ρ:cK}:lR ρ [] []:=⟨rfl,fun i g v h=>by simp at h⟩
theorem lR.cons {ρ:cK} {g:GV} {v:Value} {gs:List GV} {vs:fP} (h:Rl ρ g v) (r:lR ρ gs vs):lR ρ (g::gs) (v::vs):=⟨by simp[r.len],fun i a b ha hb=>by
 cases i with
 |zero=>simp at ha hb;subst ha hb;exact h
 |succ i=>simp at ha hb;exact r.at' i a b ha hb⟩
theorem lR.of_cons {ρ:cK} {g:GV} {gs:List GV} {vs:fP} (h:lR ρ (g::gs) vs):∃v vs',vs=v::vs'∧Rl ρ g v∧lR ρ gs vs':=by
 cases vs with
 |nil=>have:=h.len;simp at this
 |cons v vs=>exact⟨v,vs,rfl,h.at' 0 _ _ rfl rfl,by have:=h.len;simpa using this,fun i a b ha hb=>h.at' (i+1) a b (by simpa using ha) (by simpa using hb)⟩
theorem lR.of_nil {ρ:cK} {vs:fP} (h:lR ρ [] vs):vs=[]:=List.eq_nil_of_length_eq_zero h.len.symm
theorem lR.le {ρ ρ':cK} (hl:ρ.le ρ') {gs:List GV} {vs:fP} (h:lR ρ gs vs):lR ρ' gs vs:=⟨h.len,fun i g v h1 h2=>(h.at' i g v h1 h2).le hl⟩
theorem lR.append {ρ:cK} {gs gs':List GV} {vs vs':fP} (h:lR ρ gs vs) (k:lR ρ gs' vs'):lR ρ (gs++gs') (vs++vs'):=by
 induction gs generalizing vs with
 |nil=>rw[h.of_nil];exact k
 |cons g gs ih=>obtain⟨v,vs,rfl,h1,h2⟩:=h.of_cons;exact .cons h1 (ih h2)
theorem lR.get {ρ:cK} {gs:List GV} {vs:fP} (h:lR ρ gs vs) {i:Nat} {g:GV} (hg:gs[i]? = some g):∃v,vs[i]? = some v∧Rl ρ g v:=by
 have hi:=aU hg
 have:i<vs.length:=h.len▸hi
 exact⟨vs[i],List.getElem?_eq_getElem this,h.at' i g _ hg (List.getElem?_eq_getElem this)⟩
theorem lR.sub {ρ:cK} {gs:List GV} {vs:fP} (h:lR ρ gs vs) (o n:Nat):lR ρ ((gs.drop o).take n) ((vs.drop o).take n):=
 ⟨by simp[h.len],fun i g v h1 h2=>by
  rw[List.getElem?_take]at h1 h2
  split at h1
  ·rename_i hi
   rw[if_pos hi]at h2
   rw[List.getElem?_drop]at h1 h2
   exact h.at' _ g v h1 h2
  ·cases h1⟩

section
variable {ρ:cK} {V:Value}
theorem Rl.int_inv {k:IntKind} {n:Int} (h:Rl ρ (.int k n) V):V = .int k n:=by cases h;rfl
theorem Rl.bool_inv {b:Bool} (h:Rl ρ (.bool b) V):V = .bool b:=by cases h;rfl
theorem Rl.str_inv {n l:Nat} (h:Rl ρ (.str n l) V):∃s,V = .string s∧n=jB (aX s)∧l=(aX s).length:=by cases h;exact⟨_,rfl,rfl,rfl⟩
theorem Rl.ptr_inv {h o:Nat} (x:Rl ρ (.ptr h o) V):∃l,ρ h=some l∧V = .pointer (some ⟨l.b,l.off+o,none⟩):=by cases x with|ptr o hl=>exact⟨_,hl,rfl⟩
theorem Rl.sl_inv {h o n sz:Nat} (x:Rl ρ (.sl h o n sz) V):∃l cap A,ρ h=some l∧V = .slice (some A) n cap∧n<=cap∧(cap=0∨(A=⟨l.b,l.off+o,none⟩∧l.off+o+cap*sz<=l.size)):=by
 cases x with|sl hl hc ha=>exact⟨_,_,_,hl,rfl,hc,ha⟩
theorem Rl.snil_inv (h:Rl ρ .snil V):V = .slice none 0 0:=by cases h;rfl
theorem Rl.map_inv {h:Nat} (x:Rl ρ (.map h) V):∃l,ρ h=some l∧V = .map (some l.b):=by cases x with|map hl=>exact⟨_,hl,rfl⟩
theorem Rl.fn_inv {f:Nat} {us vs:List GV} (x:Rl ρ (.fn f us vs) V):∃us' vs',V = .func (.func f) us'.toArray vs'.toArray∧lR ρ us us'∧lR ρ vs vs':=by
 cases x with|fn f h1 h2 h3 h4=>exact⟨_,_,rfl,⟨h1,h2⟩,⟨h3,h4⟩⟩
theorem Rl.agg_inv {cs:List GV} (x:Rl ρ (.agg cs) V):∃vs,V = .agg vs.toArray∧lR ρ cs vs∧∀v∈vs,one v=true:=by
 cases x with|agg h1 h2 h3=>exact⟨_,rfl,⟨h1,h2⟩,h3⟩
theorem Rl.tup_inv {cs:List GV} (x:Rl ρ (.tup cs) V):∃vs,V = .tuple vs.toArray∧lR ρ cs vs:=by
 cases x with|tup h1 h2=>exact⟨_,rfl,⟨h1,h2⟩⟩
theorem Rl.opn_inv {h:Nat} (x:Rl ρ (.opn h) V):∃l,ρ h=some l∧l.x = .cells #[V] 0 (0,0):=by cases x with|opn v hl hx=>exact⟨_,hl,hx⟩
theorem Rl.un_inv (x:Rl ρ .un V):V=undef:=by cases x;rfl
theorem Rl.fn' {f:Nat} {us vs:List GV} {us' vs':List Value} (h1:lR ρ us us') (h2:lR ρ vs vs'):Rl ρ (.fn f us vs) (.func (.func f) us'.toArray vs'.toArray):= .fn f h1.len h1.at' h2.len h2.at'
theorem Cc {cs:List GV} {vs:List Value} (h:lR ρ cs vs) (h3:∀v∈vs,one v=true):Rl ρ (.agg cs) (.agg vs.toArray):= .agg h.len h.at' h3
theorem Eo {cs:List GV} {vs:List Value} (h:lR ρ cs vs):Rl ρ (.tup cs) (.tuple vs.toArray):= .tup h.len h.at'
theorem Rl.cells {g:GV} {cs:List GV} (h:Rl ρ g V) (hc:g.cells=some cs):∃vs,V.cells=vs.toArray∧lR ρ cs vs∧∀v∈vs,one v=true:=by
 have hone:∀g V,Rl ρ g V->one V=true->∃vs,#[V]=vs.toArray∧lR ρ [g] vs∧∀v∈vs,one v=true:=fun g V h h1=>⟨[V],rfl,.cons h .nil,fun v hv=>by simp at hv;subst hv;exact h1⟩
 have h0:=h
 cases h with
 |agg h1 h2 h3=>cases hc;exact⟨_,rfl,⟨h1,h2⟩,h3⟩
 |tup h1 h2=>cases hc
 |un=>cases hc
 |bad v=>cases hc
 |opn v hl hx=>cases hc
 |_=>cases hc;exact hone _ _ h0 rfl
end

theorem Ih {ρ:cK} {v:Value} {g:GV} (h:OF v=some g):Rl ρ g v∧one v=true:=by
 unfold OF at h
 split at h
 ·cases h;exact⟨.int _ _,rfl⟩
 ·cases h;exact⟨.bool _,rfl⟩
 ·cases h;exact⟨.snil,rfl⟩
 ·cases h;exact⟨.pnil,rfl⟩
 ·cases h;exact⟨.fnil,rfl⟩
 ·cases h;exact⟨.inil,rfl⟩
 ·simp only[rP]at h;cases h;exact⟨.str _,rfl⟩
 ·cases h
theorem Ni {ρ:cK}:∀{vs:List Value} {gs:List GV},Uz vs=some gs->lR ρ gs vs∧∀v∈vs,one v=true
 | [],gs,h=>by cases h;exact⟨.nil,fun v h=>by simp at h⟩
 | v :: vs, gs, h => by
  obtain⟨x,h1,h2⟩:=aA.1 (show ob (OF v) (fun x=>ob (Uz vs) fun xs=>some (x::xs))=some gs from h)
  obtain⟨xs,h3,h4⟩:=aA.1 h2
  cases h4
  obtain⟨a,b⟩:=Ni h3
  obtain⟨c,d⟩:=Ih (ρ:=ρ) h1
  exact⟨.cons c a,fun u hu=>by
   rcases List.mem_cons.1 hu with rfl|hu
   ·exact d
   ·exact b u hu⟩
theorem LM {ρ:cK} {v:Value} {g:GV} (h:Yq v=some g):Rl ρ g v:=by
 unfold Yq at h
 split at h
 ·obtain⟨xs,h1,h2⟩:=aA.1 h
  cases h2
  obtain⟨a,b⟩:=Ni (ρ:=ρ) h1
  have:=Cc a b
  simpa using this
 ·exact(Ih h).1
theorem Ns {ρ:cK} {s:Sem Value} {g:GV} (h:Dw s=some g):∃v,Rl ρ g v∧s = .pure v:=by
 unfold Dw at h
 split at h
 ·exact⟨_,(Ih h).1,rfl⟩
 ·cases h

structure iQ (ρ:cK) (n:Nat) (σ:GF) (a:Act):Prop where
 defers:a.defers=[]
 size:a.tmps.size=n
 slot:∀t g,AZ σ t=some g->Rl ρ g (a.eval (.tmp t))
theorem iQ.le {ρ ρ':cK} (hl:ρ.le ρ') {n:Nat} {σ:GF} {a:Act} (h:iQ ρ n σ a):iQ ρ' n σ a:=⟨h.defers,h.size,fun t g hg=>(h.slot t g hg).le hl⟩
theorem iQ.put {ρ:cK} {n:Nat} {σ:GF} {a:Act} (h:iQ ρ n σ a) {d:Nat} (hd:d<n) {g:GV} {v:Value} (hv:Rl ρ g v):iQ ρ n ((d,g)::σ) (a.put (some d) v):=
 ⟨h.defers,by simp[Act.put,h.size],fun t u ht=>by
  rw[vR]at ht
  by_cases e:t=d
  ·subst e;rw[if_pos rfl]at ht;cases ht
   have:(a.put (some t) v).eval (.tmp t)=v:=by simp[Act.put,Act.eval,h.size,hd]
   rw[this];exact hv
  ·rw[if_neg e]at ht
   have:(a.put (some d) v).eval (.tmp t)=a.eval (.tmp t):=by
    simp only[Act.put,Act.eval,Array.getD_eq_getD_getElem?]
    rw[Array.getElem?_setIfInBounds_ne (Ne.symm e)]
   rw[this];exact h.slot t u ht⟩
section
variable {ρ:cK} {n:Nat} {σ:GF} {a:Act}
theorem bM (F:iQ ρ n σ a) {x:Operand} {g:GV} (h:gW σ x=some g):Rl ρ g (a.eval x):=by
 cases x with
 |tmp t=>exact F.slot t g h
 |const v=>exact LM h
 |global g=>cases h
 |func f=>cases h;exact Rl.fn' .nil .nil
theorem AN (F:iQ ρ n σ a):∀{xs:List Operand} {gs:List GV},BI σ xs=some gs->lR ρ gs (xs.map a.eval)
 | [],gs,h=>by cases h;exact .nil
 |x::xs,gs,h=>by
  obtain⟨v,h1,h2⟩:=aA.1 (show ob (gW σ x) (fun v=>ob (BI σ xs) fun vs=>some (v::vs))=some gs from h)
  obtain⟨vs,h3,h4⟩:=aA.1 h2
  cases h4
  exact .cons (bM F h1) (AN F h3)
def Xh (ρ:cK) (gs:List (Nat×GV)) (vs:List (Nat×Value)):Prop:=gs.map (·.1)=vs.map (·.1)∧lR ρ (gs.map (·.2)) (vs.map (·.2))
theorem xS (F:iQ ρ n σ a):∀{xs:List (Nat×Operand)} {gs:List (Nat×GV)},pS σ xs=some gs->Xh ρ gs (xs.map fun p=>(p.1,a.eval p.2))
 | [],gs,h=>by cases h;exact⟨rfl,.nil⟩
 |x::xs,gs,h=>by
  obtain⟨v,h1,h2⟩:=aA.1 (show ob (gW σ x.2) (fun v=>ob (pS σ xs) fun vs=>some ((x.1,v)::vs))=some gs from h)
  obtain⟨vs,h3,h4⟩:=aA.1 h2
  cases h4
  obtain⟨e1,e2⟩:=xS F h3
  exact⟨by simp only[List.map_cons,e1],.cons (bM F h1) e2⟩
end

def yC (P:Program) (ρ:cK) (s:Sem Value) (g:GV):Prop:=∃v,Rl ρ g v∧∀w,s.run P w = .ok v w
structure dK (P:Program) (tb:TB):Prop where
 tab:∀{T d},tb T=some d->oI P T d
 /-- structs of leaves may be compared -/
 eqs:∀{T fs},GT T=true->nF tb T=some fs->sD tb fs=true->P.stoodInHeld T=false∧∀f∈fs,f.name ≠ "_"
noncomputable def X_ (P:Program) (tb:TB):Bool:=(List.range 512).all fun T=>bif GT T then(Option.casesOn (motive:=fun _=>Bool) (nF tb T) true fun fs=>bif sD tb fs then(!P.stoodInHeld T&&fs.all fun f=> !(f.name == "_"))else true)else true
theorem Wr {P:Program} {tb:TB} (h:X_ P tb=true) {T:Nat} {fs:List Field} (h5:GT T=true) (hf:nF tb T=some fs) (hl:sD tb fs=true):P.stoodInHeld T=false∧∀f∈fs,f.name ≠ "_":=by
 have h6:T<512:=by
  obtain⟨_,h⟩:=a_.1 (show(bif Nat.blt 31 T then(bif Nat.blt T 512 then some ()else none)else none)=some () by
   unfold GT at h5
   cases e:Nat.blt 31 T<;>rw[e]at h5
   ·cases h5
   ·rw[cond_true]at h5;rw[h5];rfl)
  obtain⟨h,_⟩:=a_.1 h
  simpa [Nat.blt_eq]using h
 have:=List.all_eq_true.1 h T (List.mem_range.2 h6)
 rw[h5,cond_true,hf]at this
 have this:(bif sD tb fs then(!P.stoodInHeld T&&fs.all fun f=> !(f.name == "_"))else true)=true:=this
 rw[hl,cond_true,Bool.and_eq_true]at this
 exact⟨by simpa using this.1,fun f hfm=>by simpa using List.all_eq_true.1 this.2 f hfm⟩
section
variable {P:Program} {tb:TB} {ρ:cK} {V U W:Value} {v u t g:GV}
theorem Md {k:IntKind} {z:Int} {g:GV} (h:gw k z=some g):g = .int k (k.wrap z):=by
  unfold gw at h
  rw[GX]at h
  cases hk:Vh k with
  | true =>
    rw[hk]at h
    obtain⟨h1,h2⟩:=a_.1 h
    cases h2
    have e:k = .i64:=by cases k<;>first|rfl|cases hk
    subst e
    have : -9223372036854775808<=z∧z<=9223372036854775807:=by
      cases z with
      | ofNat a => have : a < 9223372036854775808 := by simpa [QV, Nat.blt_eq] using h1
                   simp only[Int.ofNat_eq_natCast];omega
      | negSucc a => have : a < 9223372036854775808 := by simpa [QV, Nat.blt_eq] using h1
                     omega
    rw[Hu this.1 this.2]
  | false =>
    rw[hk]at h
    simp only[cond_false,GX]at h
    cases h;rfl
theorem Tk {op:BinOp} {k:IntKind} {a b:Int} {T:TypeId} (hs:EB op=false) (h:XT op k a b=some g):∃v,Rl ρ g v∧binOp op T (.int k a) (.int k b) = .pure v:=by
 have hb:∀{p:Prop} [Decidable p] {c:Bool},c=decide p->fb c=some g->Rl ρ g (.bool (decide p)):=fun e h=>by rw[Fq]at h;cases h;rw[e];exact .bool _
 have hsem:∀op',EB op'=false->Dw (binOp op' 0 (.int k a) (.int k b))=some g->∃v,Rl ρ g v∧binOp op' T (.int k a) (.int k b) = .pure v:=fun op' hs' h=>by
  obtain⟨v,h1,h2⟩:=Ns (ρ:=ρ) h
  refine⟨v,h1,?_⟩
  rw[<-h2];cases op'<;>first|rfl|cases hs'
 cases op with
 |add=>exact⟨_,by rw[Md h];exact .int _ _,by simp[binOp,Op.intArith];rfl⟩
 |sub=>exact⟨_,by rw[Md h];exact .int _ _,by simp[binOp,Op.intArith];rfl⟩
 |eql=>exact⟨.bool (decide (a=b)),hb (Fo a b) h,by simp[binOp,Op.intCmp];rfl⟩
 |neq=>exact⟨.bool (decide (¬a=b)),hb (by rw[Fo];simp) h,by simp[binOp,Op.intCmp];rfl⟩
 |lss=>exact⟨.bool (decide (a<b)),hb (Dm a b) h,by simp[binOp,Op.intCmp];rfl⟩
 |leq=>exact⟨.bool (decide (a<=b)),hb (by rw[Dm,<-decide_not];exact decide_eq_decide.2 (by omega)) h,by simp[binOp,Op.intCmp];rfl⟩
 |gtr=>exact⟨.bool (decide (b<a)),hb (Dm b a) h,by simp[binOp,Op.intCmp];rfl⟩
 |geq=>exact⟨.bool (decide (b<=a)),hb (by rw[Dm,<-decide_not];exact decide_eq_decide.2 (by omega)) h,by simp[binOp,Op.intCmp];rfl⟩
 |shl=>cases hs
 |shr=>cases hs
 |mul=>exact hsem .mul hs h
 |quo=>exact hsem .quo hs h
 |rem=>exact hsem .rem hs h
 |and=>exact hsem .and hs h
 |or=>exact hsem .or hs h
 |xor=>exact hsem .xor hs h
 |andNot=>exact hsem .andNot hs h
end
end
section

theorem rK (b:UInt8) (l:List UInt8):jB (b::l)=b.toNat+256*jB l:=rfl
theorem Cm:∀{x y:List UInt8},x.length=y.length->jB x=jB y->x=y
 | [],[],_,_=>rfl
 | [],_::_,h,_=>by simp at h
 |_::_,[],h,_=>by simp at h
 |a::x,b::y,h,e=>by
  rw[rK,rK]at e
  have ha:=a.toNat_lt
  have hb:=b.toNat_lt
  have e1:a.toNat=b.toNat:=by omega
  have e2:jB x=jB y:=by omega
  rw[UInt8.toNat_inj.1 e1,Cm (by simpa using h) e2]
theorem Df:∀(x:List UInt8) (n:Nat),jB x / 256^n=jB (x.drop n)
 |x,0=>by simp
 | [],n+1=>by simp[jB]
 |b::x,n+1=>by
  rw[rK,List.drop_succ_cons,<-Df x n,Nat.pow_succ,Nat.mul_comm (256^n) 256,<-Nat.div_div_eq_div_mul]
  have:=b.toNat_lt
  congr 1
  omega
theorem GQ:∀(x:List UInt8) (n:Nat),jB x%256^n=jB (x.take n)
 |x,0=>by simp[jB,Nat.mod_one]
 | [],n+1=>by simp[jB]
 |b::x,n+1=>by
  rw[rK,List.take_succ_cons,rK,<-GQ x n,Nat.pow_succ,Nat.mul_comm (256^n) 256,Nat.mod_mul]
  have hb:=b.toNat_lt
  have e1:(b.toNat+256*jB x)%256=b.toNat:=by omega
  have e2:(b.toNat+256*jB x) / 256=jB x:=by omega
  rw[e1,e2]
theorem Yw (n l:Nat):Nat.shiftRight n (Nat.mul 8 l)=n / 256^l:=by
 show n >>> (8*l)=_
 rw[Nat.shiftRight_eq_div_pow,Nat.pow_mul]
theorem Yr (k:Nat):Nat.pow 2 (Nat.mul 8 k)=256^k:=by
 show 2^(8*k)=_
 rw[Nat.pow_mul]
theorem Qx (x:List UInt8) (l k:Nat):Nat.mod (Nat.shiftRight (jB x) (Nat.mul 8 l)) (Nat.pow 2 (Nat.mul 8 k))=jB ((x.drop l).take k):=by
 rw[Yw,Yr]
 show jB x / 256^l%256^k=_
 rw[Df,GQ]
theorem ML (x:List UInt8) (i:Nat) (h:i<x.length):Nat.mod (Nat.shiftRight (jB x) (Nat.mul 8 i)) 256=(x[i]).toNat:=by
 rw[Yw]
 show jB x / 256^i%256=_
 rw[Df,List.drop_eq_getElem_cons h,rK]
 have:=(x[i]).toNat_lt
 omega
theorem NZ (s:ByteArray) (i:Nat):s[i]? = (aX s)[i]?:=by
 unfold aX
 by_cases h:i<s.size
 ·rw[getElem?_pos s i h,Array.getElem?_toList,Array.getElem?_eq_getElem (by simpa using h)];rfl
 ·rw[getElem?_neg s i h]
  rw[List.getElem?_eq_none (by have:=Lib.size_eq s;omega)]
section
variable {P:Program} {tb:TB} {ρ:cK} {V U W:Value} {v u t g:GV}
theorem XS (a b:ByteArray):(a==b)=(a.toList==b.toList):=by
 rw[Lib.toList_data,Lib.toList_data]
 obtain⟨⟨x⟩⟩:=a
 obtain⟨⟨y⟩⟩:=b
 have:((⟨⟨x⟩⟩:ByteArray)==⟨⟨y⟩⟩)=((⟨x⟩:Array UInt8)==⟨y⟩):=rfl
 rw[this]
 simp
theorem Wq {a b:Nat×Nat} {s r:ByteArray} (e1:a.1=jB (aX s)) (e2:a.2=(aX s).length) (e3:b.1=jB (aX r)) (e4:b.2=(aX r).length):KI a b=(s.toList==r.toList):=by
 rw[Lib.toList_data,Lib.toList_data]
 unfold KI
 rw[e1,e2,e3,e4]
 by_cases hl:(aX s).length=(aX r).length
 ·have hb:Nat.beq (aX r).length (aX r).length=true:=by simp
  rw[hl,hb,cond_true]
  by_cases he:jB (aX s)=jB (aX r)
  ·have:=Cm hl he
   unfold aX at this
   rw[he,this];simp
  ·rw[jZ he]
   symm
   rw[beq_eq_false_iff_ne]
   intro hh;exact he (by unfold aX;rw[hh])
 ·rw[jZ hl,cond_false]
  symm
  rw[beq_eq_false_iff_ne]
  intro hh;exact hl (by unfold aX;rw[hh])
theorem OA (hG:dK P tb) {T:TypeId} {t:Ty} (ht:tb T=some t) {q:Bool} (hv:Rl ρ v V) (hu:Rl ρ u U) (h:LC t v u=some q) (m:Nat) (w:World):(Op.equalIn (m+1) T V U).run P w = .ok q w:=by
 have hun:=(hG.tab ht).run_und w
 unfold LC at h
 cases hi:v.asI with
 |some a=>
  rw[hi]at h
  obtain⟨b,hb,h⟩:=aA.1 h
  obtain⟨k,hk,h⟩:=aA.1 h
  obtain⟨hkk,h⟩:=a_.1 h
  cases h
  rw[kY hi]at hv
  rw[kY hb]at hu
  rw[hv.int_inv,hu.int_inv,<-Dh hkk]
  rw[BS hk]at hun
  unfold Op.equalIn
  rw[Fo]
  simp[hun]
  rfl
 | none =>
  rw[hi]at h
  simp only at h
  cases hs:v.asStr with
  |some a=>
   rw[hs]at h
   obtain⟨b,hb,h⟩:=aA.1 h
   obtain⟨hd,h⟩:=a_.1 h
   cases h
   rw[mG hs]at hv
   rw[mG hb]at hu
   obtain⟨s,rfl,e1,e2⟩:=hv.str_inv
   obtain⟨r,rfl,e3,e4⟩:=hu.str_inv
   rw[wF hd]at hun
   rw[Wq e1 e2 e3 e4,<-XS]
   unfold Op.equalIn
   simp[hun]
  |none=>
   rw[hs]at h
   obtain⟨a,ha,h⟩:=aA.1 (show ob v.asB _=some q from h)
   obtain⟨b,hb,h⟩:=aA.1 h
   obtain⟨hd,h⟩:=a_.1 h
   cases h
   rw[w_ ha]at hv
   rw[w_ hb]at hu
   rw[hv.bool_inv,hu.bool_inv]
   rw[LZ hd]at hun
   unfold Op.equalIn
   rw[BF]
   simp[hun]
theorem Ha {t:Ty} (h:Bj t=true):(∃k,t.desc = .int k)∨t.desc = .string∨t.desc = .bool:=by
 unfold Bj at h
 cases hb:Yx t.desc with
 |true=>exact .inr (.inr (LZ hb))
 | false =>
  rw[hb]at h
  cases hs:DY t.desc with
  |true=>exact .inr (.inl (wF hs))
  |false=>
   rw[hs]at h
   cases hi:SI t.desc with
   |none=>rw[hi]at h;cases h
   |some k=>exact .inl ⟨k,BS hi⟩
theorem DR {f:Field} {fs:List Field} (h:sD tb (f::fs)=true):∃t,tb f.type=some t∧Bj t=true∧sD tb fs=true:=by
 have h:(Option.casesOn (motive:=fun _=>Bool) (tb f.type) false fun t=>bif Bj t then sD tb fs else false)=true:=h
 cases ht:tb f.type with
 |none=>rw[ht]at h;cases h
 |some t=>
  rw[ht]at h
  have h:(bif Bj t then sD tb fs else false)=true:=h
  cases hl:Bj t with
  |false=>rw[hl]at h;cases h
  |true=>rw[hl]at h;exact⟨t,rfl,hl,h⟩
theorem Kc (hG:dK P tb) {T:TypeId} {t:Ty} (ht:tb T=some t) (hl:Bj t=true) {cs:Array Value} {off:Nat} {x:Value} (hx:cs[off]? = some x) (w:World):(part T cs off).run P w = .ok x w:=by
 have hun:=(hG.tab ht).run_und w
 have ha:(isAgg T).run P w = .ok false w:=by
  unfold isAgg
  rcases Ha hl with⟨k,e⟩|e|e<;>rw[e]at hun<;>simp[hun]
 unfold part
 simp[ha,hx]
theorem Ka (hG:dK P tb) {cs ds:List GV} {vs us:List Value} (hv:lR ρ cs vs) (hu:lR ρ ds us) (m:Nat) (w:World):∀{fs:List Field} {q:Bool},Ua tb cs ds fs=some q->sD tb fs=true->(∀f∈fs,f.name ≠ "_")->
  Sem.run P (forIn fs ((none,()):Option Bool×Unit) fun f __s=>if f.name = "_" then pure (ForInStep.yield (none,()))else do
   let __do_lift <-part f.type vs.toArray f.offset
   let __do_lift_1 <-part f.type us.toArray f.offset
   let __do_lift <-Op.equalIn (m+1) f.type __do_lift __do_lift_1
   if __do_lift=false then pure (ForInStep.done (some false,()))else pure (ForInStep.yield (none,()))) w = .ok (if q then none else some false,()) w
 | [],q,h,_,_=>by
  have:q=true:=by have h:some true=some q:=h;cases h;rfl
  subst this
  simp
 | f :: fs, q, h, hl, hn => by
  obtain⟨t,ht,h⟩:=aA.1 (show ob (tb f.type) _=some q from h)
  obtain⟨a,ha,h⟩:=aA.1 h
  obtain⟨b,hb,h⟩:=aA.1 h
  obtain⟨e,he,h⟩:=aA.1 h
  obtain⟨t',ht',hlt,hlf⟩:=DR hl
  rw[ht]at ht';cases ht'
  rw[pT]at ha hb
  obtain⟨x,hx,hrx⟩:=hv.get ha
  obtain⟨y,hy,hry⟩:=hu.get hb
  have p1:=Kc hG ht hlt (cs:=vs.toArray) (by simpa using hx) w
  have p2:=Kc hG ht hlt (cs:=us.toArray) (by simpa using hy) w
  have p3:=OA hG ht hrx hry he m w
  have hne:=hn f List.mem_cons_self
  cases e with
  |false=>
   have:q=false:=by have h:some false=some q:=h;cases h;rfl
   subst this
   simp[List.forIn_cons,hne,p1,p2,p3]
  |true=>
   have ih:=Ka hG hv hu m w (show Ua tb cs ds fs=some q from h) hlf fun f hf=>hn f (List.mem_cons_of_mem _ hf)
   simp[List.forIn_cons,hne,p1,p2,p3,ih]
theorem Oj (hG:dK P tb) {T:TypeId} {fs:List Field} (h5:GT T=true) (hfs:nF tb T=some fs) (hl:sD tb fs=true) {cs ds:List GV} {vs us:List Value} (hv:lR ρ cs vs) (hu:lR ρ ds us) {q:Bool} (h:Ua tb cs ds fs=some q) (w:World):
  (Op.equal T (.agg vs.toArray) (.agg us.toArray)).run P w = .ok q w:=by
 obtain⟨hs,hn⟩:=hG.eqs h5 hfs hl
 obtain⟨t,ht,h'⟩:=aA.1 (show ob (tb T) _=some fs from hfs)
 obtain⟨a,ha,h'⟩:=aA.1 h'
 cases h'
 have hun:=(hG.tab ht).run_und w
 rw[IA ha]at hun
 obtain⟨a⟩:=a
 have key:∀m,(Op.equalIn (m+1+1) T (.agg vs.toArray) (.agg us.toArray)).run P w = .ok q w:=fun m=>by
  have k:=Ka hG hv hu m w h hl hn
  unfold Op.equalIn
  simp[hun,hs]
  simp only[]at k
  rw[k]
  cases q<;>simp
 exact key 9998
theorem Dg (hG:dK P tb):∀(m:Nat) {T:TypeId} {t:Ty},tb T=some t->Bj t=true->P.eqGuardType (m+1) T=false:=fun m T t ht hl=>by
 have hun:=(hG.tab ht).und
 unfold Program.eqGuardType
 rcases Ha hl with⟨k,e⟩|e|e<;>rw[e]at hun<;>simp[hun]
theorem Fl (hG:dK P tb) {T:TypeId} {fs:List Field} (hfs:nF tb T=some fs) (hl:sD tb fs=true):P.eqGuardType P.depth T=false:=by
 obtain⟨t,ht,h'⟩:=aA.1 (show ob (tb T) _=some fs from hfs)
 obtain⟨a,ha,h'⟩:=aA.1 h'
 cases h'
 have hun:=(hG.tab ht).und
 rw[IA ha]at hun
 have key:∀m,P.eqGuardType (m+2) T=false:=fun m=>by
  unfold Program.eqGuardType
  rw[hun]
  simp only
  rw[Array.any_eq_false']
  intro f hf
  have:f∈a.toList:=by simpa using hf
  have hlf:∀(l:List Field),sD tb l=true->∀f∈l,∃t,tb f.type=some t∧Bj t=true:=by
   intro l
   induction l with
   |nil=>intro _ f hf;cases hf
   |cons x l ih=>
    intro h f hf
    obtain⟨t,h1,h2,h3⟩:=DR h
    rcases List.mem_cons.1 hf with rfl|hf
    ·exact⟨t,h1,h2⟩
    ·exact ih h3 f hf
  obtain⟨t',h1,h2⟩:=hlf _ hl f this
  simp[Dg hG m h1 h2]
 unfold Program.depth
 exact key _
theorem Oq (hG:dK P tb) {op:BinOp} {T:TypeId} {fs:List Field} (hfs:nF tb T=some fs) (hl:sD tb fs=true) (x y:Operand) (a b:Array Value) (w:World):(eqGuard op T x y (.agg a) (.agg b)).run P w = .ok () w:=by
 have hg:=Fl hG hfs hl
 unfold eqGuard
 cases op<;>simp[hg]
theorem BE {op:BinOp} {T:TypeId} {q:Bool} {V U:Value} {x y:Operand} (hg:∀w,(eqGuard op T x y V U).run P w = .ok () w) (he:∀w,(Op.equal T V U).run P w = .ok q w) (h1:binOp .eql T V U=(do pure (.bool (<-Op.equal T V U)))) (h2:binOp .neq T V U=(do pure (.bool (!(<-Op.equal T V U))))) (h:Tj op q true=some g):
  yC P ρ (do eqGuard op T x y V U;binOp op T V U) g:=by
 cases op with
 |eql=>exact⟨.bool q,by have h':fb (MM q true)=some g:=h;rw[Fq,BF]at h';cases h';cases q<;>exact .bool _,fun w=>by have a:=hg w;have b:=he w;rw[h1];simp[a,b]⟩
 |neq=>exact⟨.bool (!q),by have h':fb (!MM q true)=some g:=h;rw[Fq,BF]at h';cases h';cases q<;>exact .bool _,fun w=>by have a:=hg w;have b:=he w;rw[h2];simp[a,b]⟩
 |_=>cases h
theorem Sk (hG:dK P tb) {op:BinOp} {T:TypeId} (x y:Operand) (hv:Rl ρ v V) (hu:Rl ρ u U) (h:Sj tb op T v u=some g):yC P ρ (do eqGuard op T x y V U;binOp op T V U) g:=by
 unfold Sj at h
 cases ha:v.asA with
 |some cs=>
  rw[ha]at h
  obtain⟨ds,hd,h⟩:=aA.1 (show ob u.asA _=some g from h)
  obtain⟨h5,h⟩:=a_.1 h
  obtain⟨fs,hfs,h⟩:=aA.1 h
  obtain⟨hl,h⟩:=a_.1 h
  obtain⟨q,hq,h⟩:=aA.1 h
  rw[EX ha]at hv
  rw[EX hd]at hu
  obtain⟨vs,rfl,hr,_⟩:=hv.agg_inv
  obtain⟨us,rfl,hr',_⟩:=hu.agg_inv
  exact BE (Oq hG hfs hl x y _ _) (Oj hG h5 hfs hl hr hr' hq) rfl rfl h
 | none =>
  rw[ha]at h
  obtain⟨hz,h⟩:=a_.1 (show(bif u.isSnil then _ else none)=some g from h)
  obtain⟨n,hn,h⟩:=aA.1 h
  obtain⟨t,ht,h⟩:=aA.1 h
  obtain⟨e,he,h⟩:=aA.1 h
  rw[rM hz]at hu
  have hU:=hu.snil_inv
  subst hU
  have hun:=fun w=>(hG.tab ht).run_und w
  rw[BU he]at hun
  cases hvz:v.isSnil with
  | true =>
   rw[hvz]at h
   rw[rM hvz]at hv
   have hV:=hv.snil_inv
   subst hV
   refine BE (fun w=> ?_) (q:=true) (fun w=> ?_) rfl rfl h
   ·unfold eqGuard;cases op<;>simp
   ·have:(Op.equalIn (9999+1) T (.slice none 0 0) (.slice none 0 0)).run P w = .ok true w:=by
     unfold Op.equalIn
     simp[hun w]
    exact this
  | false =>
   rw[hvz]at h
   unfold Ui at hn
   rw[hvz]at hn
   obtain⟨s,hs,hn⟩:=aA.1 (show ob v.asS _=some n from hn)
   rw[xA hs]at hv
   obtain⟨l,cap,A,hl,rfl,_,_⟩:=hv.sl_inv
   refine BE (fun w=> ?_) (q:=false) (fun w=> ?_) rfl rfl h
   ·unfold eqGuard;cases op<;>simp
   ·have:(Op.equalIn (9999+1) T (.slice (some A) s.2.2.1 cap) (.slice none 0 0)).run P w = .ok false w:=by
     unfold Op.equalIn
     simp[hun w]
    exact this
theorem DL:∀(x y:List UInt8),jB (x++y)=jB x+256^x.length*jB y
 | [],y=>by simp[jB]
 |b::x,y=>by
  rw[List.cons_append,rK,rK,DL x y,List.length_cons,Nat.pow_succ]
  rw[Nat.mul_add,Nat.mul_comm (256^x.length) 256,Nat.mul_assoc]
  omega
theorem MG {a b:Nat×Nat} {s r:ByteArray} (e1:a.1=jB (aX s)) (e2:a.2=(aX s).length) (e3:b.1=jB (aX r)) (e4:b.2=(aX r).length) (h:Wd a b=some g) (w:World):Rl ρ g (.string (s++r))∧(Op.stringOp .add s r).run P w = .ok (.string (s++r)) w:=by
 unfold Wd at h
 obtain⟨hl,h⟩:=a_.1 h
 rw[rP,rP]at h
 cases h
 have hl:a.2+b.2<16777216:=by simpa [Nat.blt_eq]using hl
 have hb:aX (s++r)=aX s++aX r:=by
  unfold aX
  obtain⟨⟨x⟩⟩:=s
  obtain⟨⟨y⟩⟩:=r
  simp
 constructor
 ·have h1:Nat.add a.1 (Nat.mul (Nat.pow 2 (Nat.mul 8 a.2)) b.1)=jB (aX (s++r)):=by
   rw[hb,DL,Yr,e1,e2,e3];rfl
  have h2:Nat.add a.2 b.2=(aX (s++r)).length:=by rw[hb,List.length_append,e2,e4];rfl
  rw[h1,h2]
  exact .str _
 ·have h3:(s.size:Int)+(r.size:Int)<=9223372036854775807:=by
   have e5:=Lib.size_eq s
   have e6:=Lib.size_eq r
   have e7:(aX s).length=s.data.size:=by unfold aX;simp
   have e8:(aX r).length=r.data.size:=by unfold aX;simp
   have e9:s.data.toList.length=s.data.size:=by simp
   have e10:r.data.toList.length=r.data.size:=by simp
   omega
  have h4:¬((((s.size+r.size:Nat)):Int)>IntKind.i64.max):=by
   show¬((((s.size+r.size:Nat)):Int)>9223372036854775807)
   omega
  unfold Op.stringOp
  simp only[]
  rw[if_neg h4]
  rfl
theorem Nx (hG:dK P tb) {op:BinOp} {T:TypeId} (x y:Operand) (hv:Rl ρ v V) (hu:Rl ρ u U) (h:Bc tb op T v u=some g):yC P ρ (do eqGuard op T x y V U;binOp op T V U) g:=by
 unfold Bc at h
 cases hi:v.asI with
 | some a =>
  rw[hi]at h
  obtain⟨b,hb,h⟩:=aA.1 h
  rw[kY hi]at hv
  rw[kY hb]at hu
  rw[hv.int_inv,hu.int_inv]
  have hg:∀w,(eqGuard op T x y (.int a.1 a.2) (.int b.1 b.2)).run P w = .ok () w:=fun w=>gA w
  cases hs:EB op with
  |true=>
   rw[hs]at h
   obtain⟨z,h1,h2⟩:=Ns (ρ:=ρ) h
   have e:binOp op T (.int a.1 a.2) (.int b.1 b.2)=binOp op 0 (.int a.1 a.2) (.int b.1 b.2):=by cases op<;>first|rfl|cases hs
   exact⟨z,h1,fun w=>by rw[e,h2];simp[hg w]⟩
  |false=>
   rw[hs]at h
   simp only[cond_false]at h
   obtain⟨hk,h⟩:=a_.1 h
   have hk:=Dh hk
   obtain⟨z,h1,h2⟩:=Tk (ρ:=ρ) (T:=T) hs h
   exact⟨z,h1,fun w=>by rw[<-hk,h2];have:=hg w;rw[<-hk]at this;simp[this]⟩
 | none =>
  rw[hi]at h
  simp only at h
  cases hstr:v.asStr with
  | some a =>
   rw[hstr]at h
   obtain⟨b,hb,h⟩:=aA.1 h
   rw[mG hstr]at hv
   rw[mG hb]at hu
   obtain⟨s,rfl,e1,e2⟩:=hv.str_inv
   obtain⟨r,rfl,e3,e4⟩:=hu.str_inv
   have heq:KI a b=(s.toList==r.toList):=by
    rw[Lib.toList_data,Lib.toList_data]
    unfold KI
    rw[e1,e2,e3,e4]
    by_cases hl:(aX s).length=(aX r).length
    ·have hb:Nat.beq (aX r).length (aX r).length=true:=by simp
     rw[hl,hb,cond_true]
     by_cases he:jB (aX s)=jB (aX r)
     ·have:=Cm hl he
      unfold aX at this
      rw[he,this];simp
     ·rw[jZ he]
      symm
      rw[beq_eq_false_iff_ne]
      intro hh;exact he (by unfold aX;rw[hh])
    ·rw[jZ hl,cond_false]
     symm
     rw[beq_eq_false_iff_ne]
     intro hh;exact hl (by unfold aX;rw[hh])
   have hgd:∀w,(eqGuard op T x y (.string s) (.string r)).run P w = .ok () w:=fun w=>by unfold eqGuard;cases op<;>simp
   have key:∀c:Bool,fb c=some g->Rl ρ g (.bool c):=fun c hc=>by rw[Fq]at hc;cases hc;exact .bool _
   cases op with
   |eql=>exact⟨_,key _ h,fun w=>by rw[heq];have:=hgd w;simp[this,binOp,Op.stringOp]⟩
   |neq=>exact⟨_,key _ h,fun w=>by rw[heq];have:=hgd w;simp[this,binOp,Op.stringOp]⟩
   |add=>exact⟨_,(MG (P:=P) e1 e2 e3 e4 h default).1,fun w=>by have:=hgd w;have k:=(MG (ρ:=ρ) (P:=P) e1 e2 e3 e4 h w).2;simp only[Sem.run_bind,this,Result.andThen_ok,binOp,k]⟩
   |_=>cases h
  | none =>
   rw[hstr]at h
   simp only at h
   cases ha:v.asB with
   | none =>
    rw[ha]at h
    simp only at h
    cases h1:v.isInil with
    |false=>rw[h1]at h;exact Sk hG x y hv hu h
    |true=>
    rw[h1]at h
    have h':=h
    clear h
    obtain⟨h2,h⟩:=a_.1 (show(bif u.isInil then _ else none)=some g from h')
    clear h'
    obtain⟨t,ht,h'⟩:=aA.1 h
    clear h
    obtain⟨hd,hfin⟩:=a_.1 h'
    clear h'
    have e1:v = .inil:=by cases v<;>first|rfl|cases h1
    have e2:u = .inil:=by cases u<;>first|rfl|cases h2
    subst e1;subst e2
    cases hv;cases hu
    obtain⟨ms,hms,h0⟩:∃ms,t.desc = .interface ms∧ms.size=0:=by
     cases hq:t.desc<;>rw[hq]at hd<;>first|(exact⟨_,rfl,Nat.eq_of_beq_eq_true hd⟩)|cases hd
    have hun:∀w:World,_:=fun w=>(hG.tab ht).run_und w
    have h0':ms.isEmpty=true:=by simp[Array.isEmpty,h0]
    have hgi:∀w,(Op.eqGuardIn Op.maxDepth T .nilIface .nilIface).run P w = .ok false w:=fun w=>by
     have key:∀m:Nat,(Op.eqGuardIn (m+1) T .nilIface .nilIface).run P w = .ok false w:=by
      intro m
      unfold Op.eqGuardIn
      simp[hun w,hms,h0']
     exact key 9999
    have hei:∀w,(Op.equal T .nilIface .nilIface).run P w = .ok true w:=fun w=>by
     have key:∀m:Nat,(Op.equalIn (m+1) T .nilIface .nilIface).run P w = .ok true w:=by
      intro m
      unfold Op.equalIn
      simp[hun w,hms]
     exact key 9999
    have hgd:∀w,(eqGuard op T x y .nilIface .nilIface).run P w = .ok () w:=fun w=>by
     unfold eqGuard
     cases op<;>simp[hgi w]
     all_goals (split<;>simp)
    cases op with
    |eql=>cases hfin;exact⟨.bool true,.bool _,fun w=>by have h1:=hgd w;have h2:=hei w;simp[h1,binOp,h2]⟩
    |neq=>cases hfin;exact⟨.bool false,.bool _,fun w=>by have h1:=hgd w;have h2:=hei w;simp[h1,binOp,h2]⟩
    |_=>cases hfin
   | some a =>
    rw[ha]at h
    simp only at h
    obtain⟨b,hb,h⟩:=aA.1 h
    obtain⟨t,ht,h⟩:=aA.1 h
    obtain⟨hd,h⟩:=a_.1 h
    rw[w_ ha]at hv
    rw[w_ hb]at hu
    rw[hv.bool_inv,hu.bool_inv]
    have hgd:∀w,(eqGuard op T x y (.bool a) (.bool b)).run P w = .ok () w:=fun w=>by unfold eqGuard;cases op<;>simp
    have heq:∀w,(Op.equal T (.bool a) (.bool b)).run P w = .ok (a==b) w:=fun w=>by
     have hu:=(hG.tab ht).run_und w
     rw[LZ hd]at hu
     have key:∀m:Nat,(Op.equalIn (m+1) T (.bool a) (.bool b)).run P w = .ok (a==b) w:=by
      intro m
      unfold Op.equalIn
      simp[hu]
     exact key 9999
    cases op with
    |eql=>exact⟨.bool (a==b),by have h':fb (MM a b)=some g:=h;rw[Fq,BF]at h';cases h';exact .bool _,fun w=>by have h1:=hgd w;have h2:=heq w;simp[h1,binOp,h2]⟩
    |neq=>exact⟨.bool (!(a==b)),by have h':fb (!MM a b)=some g:=h;rw[Fq,BF]at h';cases h';exact .bool _,fun w=>by have h1:=hgd w;have h2:=heq w;simp[h1,binOp,h2]⟩
    |_=>cases h
theorem Sv {op:UnOp} (hv:Rl ρ v V) (h:UX op v=some g):yC P ρ (Op.unary op V) g:=by
 cases op with
 |neg=>
  obtain⟨a,ha,h⟩:=aA.1 (show ob v.asI _=some g from h)
  rw[kY ha]at hv
  rw[hv.int_inv,Md h]
  exact⟨_,.int _ _,fun w=>by simp[Op.unary,Op.intArith]⟩
 |not=>
  obtain⟨a,ha,h⟩:=aA.1 (show ob v.asB _=some g from h)
  rw[w_ ha]at hv
  rw[hv.bool_inv]
  rw[Fq]at h;cases h
  exact⟨_,.bool _,fun w=>by simp[Op.unary]⟩
 |_=>cases h
theorem Ku (hG:dK P tb) {S D:TypeId} (hv:Rl ρ v V) (h:Vn tb S D v=some g):yC P ρ (convert S D V) g:=by
 obtain⟨a,ha,h⟩:=aA.1 (show ob v.asI _=some g from h)
 obtain⟨s,hs,h⟩:=aA.1 h
 obtain⟨k',hk',h⟩:=aA.1 h
 obtain⟨t,ht,h⟩:=aA.1 h
 obtain⟨k,hk,h⟩:=aA.1 h
 rw[GX]at h;cases h
 rw[kY ha]at hv
 rw[hv.int_inv]
 refine⟨_,.int _ _,fun w=> ?_⟩
 have h1:=(hG.tab hs).run_und w
 have h2:=(hG.tab ht).run_und w
 rw[BS hk']at h1
 rw[BS hk]at h2
 simp[convert,h1,h2,Conv.intToInt]
theorem JK (hv:Rl ρ v V) (h:v.nilck=some g):g=v∧∀(o:Oper) (x:Operand) (ev:Operand->Value),o.op = .nilCheck x->ev x=V->∀w,(execOp ev o).run P w = .ok (.value V) w:=by
 cases hv with
 |ptr off hl=>cases h;exact⟨rfl,fun o x ev ho hx w=>by simp[execOp,ho,hx]⟩
 |fn f h1 h2 h3 h4=>cases h;exact⟨rfl,fun o x ev ho hx w=>by simp[execOp,ho,hx]⟩
 |_=>cases h
theorem DN (hG:dK P tb) {T:TypeId} {fs:List Field} (h:nF tb T=some fs):∃d,oI P T d∧d.desc = .struct fs.toArray:=by
 obtain⟨t,ht,h⟩:=aA.1 (show ob (tb T) _=some fs from h)
 obtain⟨a,ha,h⟩:=aA.1 h
 cases h
 exact⟨t,hG.tab ht,by rw[IA ha]⟩
theorem Hn (hG:dK P tb) {T:TypeId} {f:Nat} (hv:Rl ρ v V) (h:BV tb T f v=some g):yC P ρ (Instr.fieldAt T V f) g:=by
 obtain⟨p,hp,h⟩:=aA.1 (show ob v.asP _=some g from h)
 obtain⟨fs,hfs,h⟩:=aA.1 h
 obtain⟨q,hq,h⟩:=aA.1 h
 obtain⟨tq,htq,h⟩:=aA.1 h
 obtain⟨h0,h⟩:=iK.1 h
 rw[rP]at h;cases h
 rw[z_ hp]at hv
 obtain⟨l,hl,rfl⟩:=hv.ptr_inv
 obtain⟨d,hd,he⟩:=DN hG hfs
 rw[pT]at hq
 refine⟨_,.ptr _ hl,fun w=> ?_⟩
 have h1:=hd.run_und w
 rw[he]at h1
 have hne:tq.size≠0:=fun e=>by rw[e]at h0;cases h0
 have e:l.off+(p.2+q.offset)=l.off+p.2+q.offset:=by omega
 show(Instr.fieldAt T (.pointer (some ⟨l.b,l.off+p.2,none⟩)) f).run P w = .ok (.pointer (some ⟨l.b,l.off+(p.2+q.offset),none⟩)) w
 rw[e]
 simp[Instr.fieldAt,h1,hq,Instr.sureAddr,fieldPlace,(hG.tab htq).run_size w,hne,cY]
theorem LK (hG:dK P tb) {T:TypeId} {t:Ty} {cs:List GV} {vs:List Value} {o:Nat} (hT:oI P T t) (hr:lR ρ cs vs) (h1:∀v∈vs,one v=true) (h:wS t cs o=some g):yC P ρ (part T vs.toArray o) g:=by
 unfold wS at h
 cases ha:s_ t.desc with
 |true=>
  rw[ha]at h
  obtain⟨r,hs,h⟩:=aA.1 h
  cases h
  obtain⟨hb,rfl⟩:=Is hs
  refine⟨_,Cc (hr.sub o t.size) (fun v hv=>h1 v (List.mem_of_mem_drop (List.mem_of_mem_take hv))),fun w=> ?_⟩
  have e1:=hT.run_agg w
  have e2:=hT.run_size w
  rw[ha]at e1
  simp[part,e1,e2]
 |false=>
  rw[ha]at h
  rw[cond_false,pT]at h
  obtain⟨x,hx,hr⟩:=hr.get h
  refine⟨x,hr,fun w=> ?_⟩
  have e1:=hT.run_agg w
  rw[ha]at e1
  simp[part,e1,hx]
theorem Kx (hG:dK P tb) {T:TypeId} {f:Nat} (hv:Rl ρ v V) (h:Vq tb T f v=some g):yC P ρ (Instr.field T V f) g:=by
 obtain⟨cs,hc,h⟩:=aA.1 (show ob v.asA _=some g from h)
 obtain⟨fs,hfs,h⟩:=aA.1 h
 obtain⟨q,hq,h⟩:=aA.1 h
 obtain⟨tq,htq,h⟩:=aA.1 h
 rw[EX hc]at hv
 obtain⟨vs,rfl,hr,h1⟩:=hv.agg_inv
 obtain⟨d,hd,he⟩:=DN hG hfs
 rw[pT]at hq
 obtain⟨x,hx,hrun⟩:=LK (T:=q.type) hG (hG.tab htq) hr h1 h
 refine⟨x,hx,fun w=> ?_⟩
 have h2:=hd.run_und w
 rw[he]at h2
 have:=hrun w
 simp[Instr.field,h2,hq,asAgg,this]
theorem tB (hG:dK P tb) {T:TypeId} {e:TypeId×Ty} (h:vO tb T=some e):(∃d,oI P T d∧d.desc = .slice e.1)∧oI P e.1 e.2∧tb e.1=some e.2:=by
 obtain⟨t,ht,h⟩:=aA.1 (show ob (tb T) _=some e from h)
 obtain⟨a,ha,h⟩:=aA.1 h
 obtain⟨te,hte,h⟩:=aA.1 h
 cases h
 exact⟨⟨t,hG.tab ht,BU ha⟩,hG.tab hte,hte⟩
theorem Ho (hG:dK P tb) {T:TypeId} (hv:Rl ρ v V) (hu:Rl ρ u U) (h:Gg tb T v u=some g):yC P ρ (Instr.indexAt T V U) g:=by
 obtain⟨n,hn,h⟩:=aA.1 (show ob u.asI _=some g from h)
 obtain⟨i,hi,h⟩:=aA.1 h
 rw[kY hn]at hu
 rw[hu.int_inv,Db hi]
 cases hp:v.asP with
 |some p=>
  rw[hp]at h
  rw[z_ hp]at hv
  obtain⟨l,hl,rfl⟩:=hv.ptr_inv
  obtain⟨t,ht,h⟩:=aA.1 (show ob (tb T) _=some g from h)
  obtain⟨e,he,h⟩:=aA.1 h
  obtain⟨te,hte,h⟩:=aA.1 h
  obtain⟨hlt,h⟩:=a_.1 h
  rw[rP]at h;cases h
  refine⟨_,.ptr _ hl,fun w=> ?_⟩
  have h1:=(hG.tab ht).run_und w
  rw[LY he]at h1
  have hlt:i<e.1:=by simpa [Nat.blt_eq]using hlt
  have ee:l.off+(p.2+i*te.size)=l.off+p.2+i*te.size:=by omega
  show(Instr.indexAt T (.pointer (some ⟨l.b,l.off+p.2,none⟩)) (.int n.1 i)).run P w = .ok (.pointer (some ⟨l.b,l.off+(p.2+i*te.size),none⟩)) w
  rw[ee]
  simp[Instr.indexAt,asIntOf,h1,Instr.sureAddr,hlt,(hG.tab hte).run_size w,cY]
 |none=>
  rw[hp]at h
  obtain⟨s,hs,h⟩:=aA.1 (show ob v.asS _=some g from h)
  rw[xA hs]at hv
  obtain⟨l,cap,A,hl,rfl,hc,ha⟩:=hv.sl_inv
  obtain⟨te,hte,h⟩:=aA.1 (show ob (vO tb T) _=some g from h)
  obtain⟨hlt,h⟩:=a_.1 h
  rw[rP]at h;cases h
  obtain⟨⟨d,hd,hde⟩,hE,_⟩:=tB hG hte
  have hlt:i<s.2.2.1:=by simpa [Nat.blt_eq]using hlt
  rcases ha with ha|⟨rfl,_⟩
  ·omega
  refine⟨_,.ptr _ hl,fun w=> ?_⟩
  have h1:=hd.run_und w
  rw[hde]at h1
  have ee:l.off+(s.2.1+i*te.2.size)=l.off+s.2.1+i*te.2.size:=by omega
  show(Instr.indexAt T (.slice (some ⟨l.b,l.off+s.2.1,none⟩) s.2.2.1 cap) (.int n.1 i)).run P w = .ok (.pointer (some ⟨l.b,l.off+(s.2.1+i*te.2.size),none⟩)) w
  rw[ee]
  simp[Instr.indexAt,asIntOf,h1,hlt,hE.run_size w,cY]
theorem Si (hG:dK P tb) {T:TypeId} (hv:Rl ρ v V) (hu:Rl ρ u U) (h:Xr tb T v u=some g):yC P ρ (Instr.index T V U) g:=by
 obtain⟨s,hs,h⟩:=aA.1 (show ob v.asStr _=some g from h)
 obtain⟨n,hn,h⟩:=aA.1 h
 obtain⟨i,hi,h⟩:=aA.1 h
 obtain⟨t,ht,h⟩:=aA.1 h
 obtain⟨hd,h⟩:=a_.1 h
 obtain⟨hlt,h⟩:=a_.1 h
 rw[rP]at h;cases h
 rw[kY hn]at hu
 rw[hu.int_inv,Db hi]
 rw[mG hs]at hv
 obtain⟨r,rfl,e1,e2⟩:=hv.str_inv
 have hlt:i<(aX r).length:=by rw[<-e2];simpa [Nat.blt_eq]using hlt
 rw[e1,ML _ _ hlt]
 refine⟨_,.int _ _,fun w=> ?_⟩
 have h1:=(hG.tab ht).run_und w
 rw[wF hd]at h1
 have hb:=NZ r i
 rw[List.getElem?_eq_getElem hlt]at hb
 simp[Instr.index,asIntOf,h1,hb]
theorem Nz {i:Nat} (hv:Rl ρ v V) (h:Xd i v=some g):yC P ρ (Instr.extract V i) g:=by
 obtain⟨vs,hs,h⟩:=aA.1 (show ob v.asT _=some g from h)
 rw[VH hs]at hv
 obtain⟨us,rfl,hr⟩:=hv.tup_inv
 rw[pT]at h
 obtain⟨x,hx,hr⟩:=hr.get h
 exact⟨x,hr,fun w=>by simp[Instr.extract,hx]⟩
theorem ND {t1 t2 ty:TypeId} (hv:Rl ρ v V) (hu:Rl ρ u U) (h:Ss v u=some g):yC P ρ (Builtin.max_ #[t1,t2] ty #[V,U]) g:=by
 obtain⟨a,ha,h⟩:=aA.1 (show ob v.asI _=some g from h)
 obtain⟨b,hb,h⟩:=aA.1 h
 obtain⟨hk,h⟩:=a_.1 h
 have hk:=Dh hk
 have hv':=hv;have hu':=hu
 rw[kY ha]at hv';rw[kY hb]at hu'
 rw[Dm]at h
 by_cases hlt:a.2<b.2
 ·rw[decide_eq_true hlt]at h;cases h
  refine⟨U,hu,fun w=> ?_⟩
  rw[hv'.int_inv,hu'.int_inv,<-hk]
  simp[Builtin.max_,Builtin.max2];omega
 ·rw[decide_eq_false hlt]at h;cases h
  refine⟨V,hv,fun w=> ?_⟩
  rw[hv'.int_inv,hu'.int_inv,<-hk]
  simp[Builtin.max_,Builtin.max2];omega
theorem NE {t1 t2 ty:TypeId} (hv:Rl ρ v V) (hu:Rl ρ u U) (h:Su v u=some g):yC P ρ (Builtin.min_ #[t1,t2] ty #[V,U]) g:=by
 obtain⟨a,ha,h⟩:=aA.1 (show ob v.asI _=some g from h)
 obtain⟨b,hb,h⟩:=aA.1 h
 obtain⟨hk,h⟩:=a_.1 h
 have hk:=Dh hk
 have hv':=hv;have hu':=hu
 rw[kY ha]at hv';rw[kY hb]at hu'
 rw[Dm]at h
 by_cases hlt:b.2<a.2
 ·rw[decide_eq_true hlt]at h;cases h
  refine⟨U,hu,fun w=> ?_⟩
  rw[hv'.int_inv,hu'.int_inv,<-hk]
  simp[Builtin.min_,Builtin.min2];omega
 ·rw[decide_eq_false hlt]at h;cases h
  refine⟨V,hv,fun w=> ?_⟩
  rw[hv'.int_inv,hu'.int_inv,<-hk]
  simp[Builtin.min_,Builtin.min2];omega
theorem Ny (hG:dK P tb) {T ty:TypeId} (hv:Rl ρ v V) (h:YB tb T v=some g):yC P ρ (Builtin.cap_ #[T] ty #[V]) g:=by
 obtain⟨t,ht,h⟩:=aA.1 (show ob (tb T) _=some g from h)
 obtain⟨e,he,h⟩:=aA.1 h
 obtain⟨hz,h⟩:=a_.1 h
 cases h
 rw[rM hz]at hv
 have hV:=hv.snil_inv
 subst hV
 have hun:=fun w=>(hG.tab ht).run_und w
 rw[BU he]at hun
 exact⟨_,.int _ _,fun w=>by simp[Builtin.cap_,hun w,goInt]⟩
theorem NA (hG:dK P tb) {T ty:TypeId} (hv:Rl ρ v V) (h:Mb tb T v=some g):yC P ρ (Builtin.len_ #[T] ty #[V]) g:=by
 obtain⟨t,ht,h⟩:=aA.1 (show ob (tb T) _=some g from h)
 cases hs:v.asStr with
 |some s=>
  rw[hs]at h
  obtain⟨hd,h⟩:=a_.1 h
  cases h
  rw[mG hs]at hv
  obtain⟨r,rfl,e1,e2⟩:=hv.str_inv
  refine⟨_,.int _ _,fun w=> ?_⟩
  have h1:=(hG.tab ht).run_und w
  rw[wF hd]at h1
  rw[e2]
  have:r.size=(aX r).length:=Lib.size_eq r
  simp[Builtin.len_,h1,goInt,this]
 | none =>
  rw[hs]at h
  obtain⟨E,hE,h⟩:=aA.1 (show ob (SJ t.desc) _=some g from h)
  obtain⟨n,hn,h⟩:=aA.1 h
  cases h
  unfold Ui at hn
  cases hz:v.isSnil with
  |true=>
   rw[hz]at hn;cases hn
   rw[rM hz]at hv
   rw[hv.snil_inv]
   exact⟨_,.int _ _,fun w=>Io w (hG.tab ht) (BU hE) _ _ _ _⟩
  |false=>
   rw[hz]at hn
   obtain⟨s,hs,hn⟩:=aA.1 (show ob v.asS _=some n from hn)
   cases hn
   rw[xA hs]at hv
   obtain⟨l,cap,A,hl,rfl,hc,ha⟩:=hv.sl_inv
   exact⟨_,.int _ _,fun w=>Io w (hG.tab ht) (BU hE) _ _ _ _⟩
end
end
section

theorem MR (off:Nat):∀(vs:fP) (k:Nat) (cs:Array Value),off+k+vs.length<=cs.size->
  ((vs.zipIdx k).foldl (fun cs p=>cs.setIfInBounds (off+p.2) p.1) cs).size=cs.size∧
  ∀i,((vs.zipIdx k).foldl (fun cs p=>cs.setIfInBounds (off+p.2) p.1) cs)[i]? = if off+k<=i∧i<off+k+vs.length then vs[i - (off+k)]? else cs[i]?
 | [],k,cs,_=>⟨rfl,fun i=>by rw[if_neg (by simp)];rfl⟩
 | v :: vs, k, cs, h => by
  simp only[List.length_cons]at h
  simp only[List.zipIdx_cons,List.foldl_cons]
  obtain⟨h1,h2⟩:=MR off vs (k+1) (cs.setIfInBounds (off+k) v) (by simp;omega)
  refine⟨by rw[h1];simp,fun i=> ?_⟩
  rw[h2 i]
  by_cases e:i=off+k
  ·subst e
   rw[if_neg (by omega),if_pos (by simp),Array.getElem?_setIfInBounds_self_of_lt (by omega)]
   simp
  ·by_cases e2:off+(k+1)<=i∧i<off+(k+1)+vs.length
   ·rw[if_pos e2,if_pos (by simp;omega)]
    have:i - (off+k)=(i - (off+(k+1)))+1:=by omega
    rw[this,List.getElem?_cons_succ]
   ·rw[if_neg e2,if_neg (by simp;omega),Array.getElem?_setIfInBounds_ne (Ne.symm e)]
section
variable {P:Program} {tb:TB} {ρ:cK} {V U W:Value} {v u t g:GV}
structure NS (ρ:cK) (cs:List GV) (a:Array Value):Prop where
 r:lR ρ cs a.toList
 one:∀v∈a.toList,Go.Sx.one v=true
theorem HX {a:Array Value} (h:∀v∈a.toList,one v=true) {i:Nat} {v:Value} (hv:a[i]? = some v):one v=true:=h v (by
 rw[<-Array.getElem?_toList]at hv;exact List.mem_of_getElem? hv)
theorem GY {cs c1 cc:List GV} {a:Array Value} {off sz:Nat} {x:Value} (hr:NS ρ cs a) (hx:Rl ρ g x) (hc:g.cells=some cc) (hl:cc.length=sz) (h0:sz≠0) (hp:Co cc off cs=some c1):
  (x.cells.size=sz∧off+x.cells.size<=a.size)∧NS ρ c1 (x.cells.zipIdx.foldl (fun cs (c,j)=>cs.setIfInBounds (off+j) c) a):=by
 obtain⟨vs,e,hvs,h1⟩:=hx.cells hc
 obtain⟨p1,p2,p3⟩:=EA hp
 have hne:cc≠[]:=by intro e;subst e;exact h0 hl.symm
 have p1:=p1 hne
 have hlen:cc.length=vs.length:=hvs.len
 have hsz:cs.length=a.size:=by have:=hr.r.len;simpa using this
 rw[e]
 have hfit:off+0+vs.length<=a.size:=by omega
 obtain⟨f1,f2⟩:=MR off vs 0 a hfit
 have ef:(vs.toArray.zipIdx.foldl (fun cs (c,j)=>cs.setIfInBounds (off+j) c) a)=((vs.zipIdx 0).foldl (fun cs p=>cs.setIfInBounds (off+p.2) p.1) a):=by
  simp
 refine⟨⟨by simp;omega,by simp;omega⟩,?_⟩
 rw[ef]
 refine⟨⟨by simp[f1,p2,hsz],fun i b c hb hc=> ?_⟩,fun y hy=> ?_⟩
 ·rw[p3 i]at hb
  rw[Array.getElem?_toList,f2 i]at hc
  simp only[Nat.add_zero]at hc
  by_cases hi:off<=i∧i<off+cc.length
  ·rw[if_pos hi]at hb
   rw[if_pos (by omega)]at hc
   exact hvs.at' _ _ _ hb hc
  ·rw[if_neg hi]at hb
   rw[if_neg (by omega)]at hc
   exact hr.r.at' i b c hb (by rw[Array.getElem?_toList];exact hc)
 ·obtain⟨i,hi⟩:=List.mem_iff_getElem?.1 hy
  rw[Array.getElem?_toList,f2 i]at hi
  split at hi
  ·exact h1 y (List.mem_of_getElem? hi)
  ·exact HX hr.one hi
theorem AO {sz:Nat}:∀{l:List (Nat×GV)} {parts:List (Nat×Value)} {cs cs':List GV} {a:Array Value},Xh ρ l parts->NS ρ cs a->Dk sz l cs=some cs'->
  ∃a',Instr.fill (fun i=>some (i*sz,sz)) a parts=some a'∧NS ρ cs' a'
 | [],parts,cs,cs',a,hp,hr,h=>by
  have:parts=[]:=by have:=hp.1;simpa using this.symm
  subst this;cases h;exact⟨a,rfl,hr⟩
 | p :: l, parts, cs, cs', a, hp, hr, h => by
  cases parts with
  |nil=>have:=hp.1;simp at this
  |cons q parts=>
   obtain⟨e1,e2⟩:=hp
   simp only[List.map_cons,List.cons.injEq]at e1
   obtain⟨y,ys,e3,h1,h2⟩:=e2.of_cons
   simp only[List.map_cons,List.cons.injEq]at e3
   obtain⟨rfl,rfl⟩:=e3
   obtain⟨cc,hcc,h⟩:=aA.1 (show ob p.2.cells (fun cc=>bif Nat.beq cc.length sz then(bif Nat.beq sz 0 then none else ob (Co cc (Nat.mul p.1 sz) cs) (Dk sz l))else none)=some cs' from h)
   obtain⟨hl,h⟩:=a_.1 h
   obtain⟨h0,h⟩:=iK.1 h
   obtain⟨c1,hg,h⟩:=aA.1 h
   have h0:sz≠0:=fun e=>by rw[e]at h0;cases h0
   obtain⟨⟨s1,s2⟩,s3⟩:=GY hr h1 hcc (Nat.eq_of_beq_eq_true hl) h0 hg
   obtain⟨a',f1,f2⟩:=AO ⟨e1.2,h2⟩ s3 h
   refine⟨a',?_,f2⟩
   have e:Nat.mul p.1 sz=q.1*sz:=by rw[<-e1.1];rfl
   rw[e]at s2 s3 f1
   show Instr.fill _ a ((q.1,q.2)::parts)=_
   unfold Instr.fill
   simp only
   rw[if_neg (by simp only[ne_eq,Bool.or_eq_true,decide_eq_true_eq,not_or,Decidable.not_not];omega)]
   exact f1
theorem G_ {ps:List (Nat×Nat)}:∀{l:List (Nat×GV)} {parts:List (Nat×Value)} {cs cs':List GV} {a:Array Value},Xh ρ l parts->NS ρ cs a->Lt ps l cs=some cs'->
  ∃a',Instr.fill (ps.toArray[·]?) a parts=some a'∧NS ρ cs' a'
 | [],parts,cs,cs',a,hp,hr,h=>by
  have:parts=[]:=by have:=hp.1;simpa using this.symm
  subst this;cases h;exact⟨a,rfl,hr⟩
 | p :: l, parts, cs, cs', a, hp, hr, h => by
  cases parts with
  |nil=>have:=hp.1;simp at this
  |cons q parts=>
   obtain⟨e1,e2⟩:=hp
   simp only[List.map_cons,List.cons.injEq]at e1
   obtain⟨y,ys,e3,h1,h2⟩:=e2.of_cons
   simp only[List.map_cons,List.cons.injEq]at e3
   obtain⟨rfl,rfl⟩:=e3
   obtain⟨pl,hpl,h⟩:=aA.1 (show ob (CV ps p.1) (fun q=>ob p.2.cells fun cc=>bif Nat.beq cc.length q.2 then(bif Nat.beq q.2 0 then none else ob (Co cc q.1 cs) (Lt ps l))else none)=some cs' from h)
   obtain⟨cc,hcc,h⟩:=aA.1 h
   obtain⟨hl,h⟩:=a_.1 h
   obtain⟨h0,h⟩:=iK.1 h
   obtain⟨c1,hg,h⟩:=aA.1 h
   have h0:pl.2≠0:=fun e=>by rw[e]at h0;cases h0
   obtain⟨⟨s1,s2⟩,s3⟩:=GY hr h1 hcc (Nat.eq_of_beq_eq_true hl) h0 hg
   obtain⟨a',f1,f2⟩:=G_ ⟨e1.2,h2⟩ s3 h
   refine⟨a',?_,f2⟩
   rw[pT,e1.1]at hpl
   show Instr.fill _ a ((q.1,q.2)::parts)=_
   unfold Instr.fill
   have:ps.toArray[q.1]? = some pl:=by simpa using hpl
   simp only[this]
   rw[if_neg (by simp only[ne_eq,Bool.or_eq_true,decide_eq_true_eq,not_or,Decidable.not_not];omega)]
   exact f1
theorem rS (hG:dK P tb) {T:TypeId} {zc:List GV} (h:xK tb T=some zc):∃d,tb T=some d∧oI P T d∧NS ρ zc d.zero.cells:=by
 obtain⟨d,hd,h⟩:=aA.1 (show ob (tb T) _=some zc from h)
 obtain⟨z,hz,h⟩:=aA.1 h
 obtain⟨vs,e,hr,h1⟩:=(LM (ρ:=ρ) hz).cells h
 exact⟨d,hd,hG.tab hd,by rw[e];exact⟨hr,h1⟩⟩
theorem FS (hG:dK P tb):∀{fs:List Field} {pl:List (Nat×Nat)},Ir tb fs=some pl->fs.mapM (fun f=>(P.info? f.type).map fun i=>(f.offset,i.size))=some pl
 | [],pl,h=>by cases h;rfl
 |f::fs,pl,h=>by
  obtain⟨t,ht,h⟩:=aA.1 (show ob (tb f.type) (fun t=>ob (Ir tb fs) fun r=>some ((f.offset,t.size)::r))=some pl from h)
  obtain⟨r,hr,h⟩:=aA.1 h
  cases h
  obtain⟨i,hi,hs,_,_⟩:=(hG.tab ht).info
  simp[List.mapM_cons,hi,hs,FS hG hr]
theorem Hm (hG:dK P tb) {T:TypeId} {l:List (Nat×GV)} {parts:List (Nat×Value)} (hp:Xh ρ l parts) (h:Sm tb T l=some g):yC P ρ (Instr.build T parts.toArray) g:=by
 obtain⟨t,ht,h⟩:=aA.1 (show ob (tb T) _=some g from h)
 obtain⟨zc,hz,h⟩:=aA.1 h
 obtain⟨d,hd,hT,hC⟩:=rS (ρ:=ρ) hG hz
 rw[ht]at hd;cases hd
 obtain⟨i,hi,hs,_,hzero⟩:=hT.info
 have hu:=hT.und
 suffices hh:∃a',P.built T parts=some a'∧∃cs',g = .agg cs'∧NS ρ cs' a' by
  obtain⟨a',hb,cs',rfl,hC'⟩:=hh
  refine⟨.agg a',?_,fun w=>run_build w T parts.toArray a' (by simpa using hb)⟩
  have:=Cc hC'.r hC'.one
  simpa using this
 cases hf:YN t.desc with
 | some fs =>
  rw[hf]at h
  obtain⟨pl,hpl,h⟩:=aA.1 (show ob (JP tb T) _=some g from h)
  obtain⟨cs,hfill,h⟩:=aA.1 h
  cases h
  obtain⟨fl,hfl,hpl⟩:=aA.1 (show ob (nF tb T) _=some pl from hpl)
  have hfl':fl=fs.toList:=by
   obtain⟨t',ht',h'⟩:=aA.1 (show ob (tb T) _=some fl from hfl)
   rw[ht]at ht';cases ht'
   obtain⟨fs',hfs',h'⟩:=aA.1 h'
   rw[hf]at hfs';cases hfs';cases h';rfl
  subst hfl'
  obtain⟨a',f1,f2⟩:=G_ hp hC hfill
  refine⟨a',?_,cs,rfl,f2⟩
  rw[IA hf]at hu
  unfold Program.built
  simp only[hi,hu,hzero,FS hG hpl]
  exact f1
 |none=>
  rw[hf]at h
  obtain⟨e,he,h⟩:=aA.1 (show ob (W_ t.desc) _=some g from h)
  obtain⟨te,hte,h⟩:=aA.1 h
  obtain⟨cs,hfill,h⟩:=aA.1 h
  cases h
  obtain⟨a',f1,f2⟩:=AO hp hC hfill
  refine⟨a',?_,cs,rfl,f2⟩
  rw[LY he]at hu
  obtain⟨ie,hie,hse,_,_⟩:=(hG.tab hte).info
  unfold Program.built
  simp only[hi,hu,hzero,hie,hse]
  exact f1
end

def sR (ρ:cK) (w:World) (l:GE):GO->Prop
 | .cells cs=>∃(cur:Array Value) (T:TypeId),w.heap[l.b]? = some (.cells cur T (0,0))∧cur.size=l.size∧l.off+cs.length<=l.size∧∀(i:Nat) g,cs[i]? = some g->∃v,cur[l.off+i]? = some v∧Rl ρ g v∧one v=true
 | .mp es=>∃(en:Array MapEntry) (clock:Nat),w.heap[l.b]? = some (.map en clock)∧en.size=es.length∧∀(i:Nat) e,es[i]? = some e->∃m,en[i]? = some m∧Rl ρ e.1 m.key∧Rl ρ e.2 m.val
theorem sR.lt {ρ:cK} {w:World} {l:GE} {o:GO} (h:sR ρ w l o):l.b<w.heap.size:=by
 cases o with
 |cells cs=>obtain⟨cur,T,h,_⟩:=h;exact(Array.getElem?_eq_some_iff.1 h).1
 |mp es=>obtain⟨cur,T,h,_⟩:=h;exact(Array.getElem?_eq_some_iff.1 h).1
theorem sR.move {ρ ρ':cK} {w w':World} {l:GE} {o:GO} (h:sR ρ w l o) (hl:ρ.le ρ') (e:w'.heap[l.b]? = w.heap[l.b]?):sR ρ' w' l o:=by
 cases o with
 |cells cs=>obtain⟨cur,T,h1,h2,h3,h4⟩:=h;exact⟨cur,T,by rw[e];exact h1,h2,h3,fun i g hg=>let ⟨v,a,b,c⟩:=h4 i g hg;⟨v,a,b.le hl,c⟩⟩
 |mp es=>obtain⟨en,cl,h1,h2,h3⟩:=h;exact⟨en,cl,by rw[e];exact h1,h2,fun i g hg=>let ⟨m,a,b,c⟩:=h3 i g hg;⟨m,a,b.le hl,c.le hl⟩⟩
structure tX where
 obs:List (Nat×Obj)
 env:List Value
def DF (gs:tX) (w:World) (O:Nat->Prop):Prop:=∀p∈gs.obs,w.heap[p.1]? = some p.2∧¬O p.1
structure cV (gs:tX) where
 w:World
 O:Nat->Prop
 ok:DF gs w O
def cV.mine {gs:tX} (b:cV gs) (k:Nat):Prop:=b.w.heap.size<=k∨b.O k
structure dR {gs:tX} (w0:cV gs) (ρ:cK) (H:GH) (w:World):Prop where
 ext:xL w0.O w0.w w
 live:∀h o,H.get h=some o->∃l,ρ h=some l∧w0.mine l.b∧sR ρ w l o
 inj:∀h h' o o' l l',H.get h=some o->H.get h'=some o'->ρ h=some l->ρ h'=some l'->l.b=l'.b->h=h'
 fresh:∀h,H.n<=h->ρ h=none
 dense:∀h,h<H.n->∃l,ρ h=some l
 /-- the block holds what was written last -/
 vers:∀h v l,H.ver h=some v->ρ h=some l->∃lv,ρ v=some lv∧w.heap[l.b]? = some lv.x∧H.get h=some lv.o
 /-- the first handles stand for the open values -/
 env:∀i v,gs.env[i]? = some v->∃l,ρ i=some l∧l.x = .cells #[v] 0 (0,0)
theorem dR.lt {gs:tX} {w0:cV gs} {w:World} {ρ:cK} {H:GH} (R:dR w0 ρ H w) {h:Nat} {o:GO} (hg:H.get h=some o):h<H.n:=by
 rcases Nat.lt_or_ge h H.n with h'|h'
 ·exact h'
 ·obtain⟨l,hl,_⟩:=R.live h o hg
  rw[R.fresh h h']at hl;cases hl
def Hx (P:Program) {gs:tX} (w0:cV gs) (ρ:cK) (s:Sem Value) (w:World) (g:GV) (H':GH):Prop:=∃v w' ρ',s.run P w = .ok v w'∧ρ.le ρ'∧dR w0 ρ' H' w'∧Rl ρ' g v
def cK.upd (ρ:cK) (h:Nat) (l:GE):cK:=fun k=>if k=h then some l else ρ k
theorem sX {ρ:cK} {h:Nat} {l:GE} (hf:ρ h=none):ρ.le (ρ.upd h l):=fun k x hx=>by
 unfold cK.upd
 by_cases e:k=h
 ·subst e;rw[hf]at hx;cases hx
 ·rw[if_neg e];exact hx
theorem dR.new {gs:tX} {w0:cV gs} {w w':World} {ρ:cK} {H:GH} (R:dR w0 ρ H w) {o:GO} {l:GE} (he:xL w0.O w0.w w') (hb:∀h o' l',H.get h=some o'->ρ h=some l'->w'.heap[l'.b]? = w.heap[l'.b]? ∧ l'.b≠l.b) (h0:w0.mine l.b)
    (ho:sR (ρ.upd H.n l) w' l o) (hx:w'.heap[l.b]? = some l.x) (hlo:l.o=o:=by rfl):ρ.le (ρ.upd H.n l)∧dR w0 (ρ.upd H.n l) (H.new o) w':=by
  have hle:ρ.le (ρ.upd H.n l):=sX (R.fresh _ (Nat.le_refl _))
  have hne:∀h o',H.get h=some o'->h≠H.n:=fun h o' hg=>Nat.ne_of_lt (R.lt hg)
  have hsame:∀h,h≠H.n->(ρ.upd H.n l) h=ρ h:=fun h hh=>by simp[cK.upd,hh]
  have hself:(ρ.upd H.n l) H.n=some l:=by simp[cK.upd]
  refine⟨hle,he,?_,?_,?_,?_,?_,fun i v e=>let ⟨l,a,b⟩:=R.env i v e;⟨l,hle _ _ a,b⟩⟩
  · intro h o' hg
    rw[mV]at hg
    by_cases e:h=H.n
    · subst e;rw[if_pos rfl]at hg;cases hg;exact⟨l,hself,h0,ho⟩
    · rw[if_neg e]at hg
      obtain⟨l',hl',hb',ho'⟩:=R.live h o' hg
      exact⟨l',by rw[hsame h e];exact hl',hb',ho'.move hle (hb h o' l' hg hl').1⟩
  · intro h h' o1 o2 l1 l2 hg hg' hl hl' hbb
    rw[mV]at hg hg'
    by_cases e:h=H.n
    · by_cases e':h'=H.n
      · rw[e,e']
      · rw[if_neg e']at hg'
        rw[hsame h' e']at hl'
        subst e;rw[hself]at hl;cases hl
        exact absurd hbb.symm (hb h' o2 l2 hg' hl').2
    · rw[if_neg e]at hg
      rw[hsame h e]at hl
      by_cases e':h'=H.n
      · subst e';rw[hself]at hl';cases hl'
        exact absurd hbb (hb h o1 l1 hg hl).2
      · rw[if_neg e']at hg'
        rw[hsame h' e']at hl'
        exact R.inj h h' o1 o2 l1 l2 hg hg' hl hl' hbb
  · intro h hh
    have : h ≠ H.n := by have : H.n + 1 ≤ h := hh
                         omega
    rw[hsame h this]
    exact R.fresh h (by have : H.n + 1 ≤ h := hh
                        omega)
  · intro h hh
    have hh:h<H.n+1:=hh
    by_cases e:h=H.n
    · subst e;exact⟨l,hself⟩
    · rw[hsame h e];exact R.dense h (by omega)
  · intro h v l' hv hl'
    rw[KO]at hv
    by_cases e:h=H.n
    · subst e;rw[if_pos rfl]at hv;cases hv
      rw[hself]at hl';cases hl'
      exact⟨l,hself,hx,by rw[mV,if_pos rfl,hlo]⟩
    · rw[if_neg e]at hv
      rw[hsame h e]at hl'
      obtain⟨lv,h1,h2,h3⟩:=R.vers h v l' hv hl'
      obtain⟨p,hp,_⟩:=aA.1 (show ob (H.t.get h) _=some v from hv)
      exact⟨lv,hle _ _ h1,by rw[(hb h p.2 l' (by unfold GH.get;rw[hp];rfl) hl').1];exact h2,by rw[mV,if_neg e];exact h3⟩
theorem dR.set {gs:tX} {w0:cV gs} {w w':World} {ρ:cK} {H:GH} (R:dR w0 ρ H w) {h:Nat} {o o':GO} {l:GE} {X:Obj} (hg:H.get h=some o) (hl:ρ h=some l) (he:xL w0.O w0.w w') (hb:∀k,k≠l.b->w'.heap[k]? = w.heap[k]?) (ho:sR ρ w' l o') (hx:w'.heap[l.b]? = some X):
  ρ.le (ρ.upd H.n ⟨l.b,l.off,l.size,X,o'⟩)∧dR w0 (ρ.upd H.n ⟨l.b,l.off,l.size,X,o'⟩) (H.set h o') w':=by
 have hle:ρ.le (ρ.upd H.n ⟨l.b,l.off,l.size,X,o'⟩):=sX (R.fresh _ (Nat.le_refl _))
 have hsame:∀k,k≠H.n->(ρ.upd H.n ⟨l.b,l.off,l.size,X,o'⟩) k=ρ k:=fun k hk=>by simp[cK.upd,hk]
 have hself:(ρ.upd H.n ⟨l.b,l.off,l.size,X,o'⟩) H.n=some ⟨l.b,l.off,l.size,X,o'⟩:=by simp[cK.upd]
 have key:∀k x,(if k=h then some o' else H.get k)=some x->∃y,H.get k=some y:=fun k x hx=>by
  by_cases e:k=h
  ·subst e;exact⟨o,hg⟩
  ·rw[if_neg e]at hx;exact⟨x,hx⟩
 refine⟨hle,he,?_,?_,?_,?_,?_,fun i v e=>let ⟨l,a,b⟩:=R.env i v e;⟨l,hle _ _ a,b⟩⟩
 ·intro k x hk
  rw[oC]at hk
  by_cases e:k=h
  ·subst e;rw[if_pos rfl]at hk;cases hk
   obtain⟨l',hl',h0,_⟩:=R.live k o hg
   rw[hl]at hl';cases hl'
   exact⟨l,hle _ _ hl,h0,ho.move hle rfl⟩
  ·rw[if_neg e]at hk
   obtain⟨l',hl',h0,ho'⟩:=R.live k x hk
   refine⟨l',hle _ _ hl',h0,ho'.move hle (hb _ fun e'=>e (R.inj k h x o l' l hk hg hl' hl e'))⟩
 ·intro k k' o1 o2 l1 l2 h1 h2 hl1 hl2 hbb
  rw[oC]at h1 h2
  obtain⟨y1,hy1⟩:=key k o1 h1
  obtain⟨y2,hy2⟩:=key k' o2 h2
  rw[hsame k (Nat.ne_of_lt (R.lt hy1))]at hl1
  rw[hsame k' (Nat.ne_of_lt (R.lt hy2))]at hl2
  exact R.inj k k' y1 y2 l1 l2 hy1 hy2 hl1 hl2 hbb
 ·intro k hk
  have hk':H.n+1<=k:=hk
  rw[hsame k (by omega)]
  exact R.fresh k (by omega)
 ·intro k hk
  have hk:k<H.n+1:=hk
  by_cases e:k=H.n
  ·subst e;exact⟨_,hself⟩
  ·rw[hsame k e];exact R.dense k (by omega)
 ·intro k v l' hv hl'
  rw[KP]at hv
  by_cases e:k=h
  ·subst e;rw[if_pos rfl]at hv;cases hv
   rw[hsame k (Nat.ne_of_lt (R.lt hg)),hl]at hl';cases hl'
   exact⟨_,hself,hx,by rw[oC,if_pos rfl]⟩
  ·rw[if_neg e]at hv
   obtain⟨p,hp,_⟩:=aA.1 (show ob (H.t.get k) _=some v from hv)
   have hgk:H.get k=some p.2:=by unfold GH.get;rw[hp];rfl
   rw[hsame k (Nat.ne_of_lt (R.lt hgk))]at hl'
   obtain⟨lv,h1,h2,h3⟩:=R.vers k v l' hv hl'
   exact⟨lv,hle _ _ h1,by rw[hb l'.b fun e'=>e (R.inj k h p.2 o l' l hgk hg hl' hl e')];exact h2,by rw[oC,if_neg e];exact h3⟩
theorem dR.del {gs:tX} {w0:cV gs} {w:World} {ρ:cK} {H:GH} (R:dR w0 ρ H w) (h:Nat):dR w0 ρ (H.del h) w:=by
 have key:∀k x,(H.del h).get k=some x->H.get k=some x:=fun k x hx=>by
  rw[By]at hx
  by_cases e:k=h
  ·rw[if_pos e]at hx;cases hx
  ·rw[if_neg e]at hx;exact hx
 exact⟨R.ext,fun k x hx=>R.live k x (key k x hx),fun k k' o1 o2 l1 l2 h1 h2=>R.inj k k' o1 o2 l1 l2 (key _ _ h1) (key _ _ h2),R.fresh,R.dense,fun k v l hv hl=>by
  rw[KN]at hv
  by_cases e:k=h
  ·rw[if_pos e]at hv;cases hv
  ·rw[if_neg e]at hv
   obtain⟨lv,h1,h2,h3⟩:=R.vers k v l hv hl
   exact⟨lv,h1,h2,by rw[By,if_neg e];exact h3⟩,R.env⟩
theorem dR.ext' {gs:tX} {w0:cV gs} {w w':World} {ρ:cK} {H:GH} (R:dR w0 ρ H w) (e:Hy w w'):dR w0 ρ H w':=
 ⟨R.ext.trans e,fun h o hg=>let ⟨l,a,b,c⟩:=R.live h o hg;⟨l,a,b,c.move (cK.le_refl _) (e.block _ c.lt)⟩,R.inj,R.fresh,R.dense,fun h v l hv hl=>by
  obtain⟨lv,h1,h2,h3⟩:=R.vers h v l hv hl
  exact⟨lv,h1,(by rw[e.block _ (Array.getElem?_eq_some_iff.1 h2).1];exact h2),h3⟩,R.env⟩
theorem dR.mono {gs gs':tX} {w0:cV gs} {w0':cV gs'} {w w':World} {ρ ρ':cK} {H H':GH} (R:dR w0 ρ H w) (R':dR w0' ρ' H' w') (hle:ρ.le ρ'):H.n<=H'.n:=by
 rcases Nat.lt_or_ge H'.n H.n with h|h
 ·obtain⟨l,hl⟩:=R.dense _ h
  have:=R'.fresh _ (Nat.le_refl _)
  rw[hle _ _ hl]at this;cases this
 ·exact h
def Pf (ρ:cK) (H:GH) (k:Nat):Prop:=∃h o l,H.get h=some o∧ρ h=some l∧l.b=k
theorem dR.glo {gs:tX} {w0:cV gs} {w:World} {ρ:cK} {H:GH} (R:dR w0 ρ H w):DF gs w (Pf ρ H):=fun p hp=>by
 obtain⟨h1,h2⟩:=w0.ok p hp
 have hlt:p.1<w0.w.heap.size:=(Array.getElem?_eq_some_iff.1 h1).1
 refine⟨by rw[R.ext.block p.1 hlt h2];exact h1,fun⟨h,o,l,hg,hl,e⟩=> ?_⟩
 obtain⟨l',hl',hb,_⟩:=R.live h o hg
 rw[hl]at hl';cases hl'
 rw[e]at hb
 rcases hb with hb|hb
 ·omega
 ·exact h2 hb
def dR.base {gs:tX} {w0:cV gs} {w:World} {ρ:cK} {H:GH} (R:dR w0 ρ H w):cV gs:=⟨w,Pf ρ H,R.glo⟩
def cV.of {gs:tX} (w:World) (h:DF gs w fun _=>False):cV gs:=⟨w,fun _=>False,h⟩
def WN:tX:=⟨[],[]⟩
def cV.one (w:World):cV WN:= .of w fun _ h=>absurd h List.not_mem_nil
theorem dR.rebase {gs:tX} {w0:cV gs} {w:World} {ρ:cK} {H:GH} (R:dR w0 ρ H w):dR R.base ρ H w:=
 ⟨xL.refl _,fun h o hg=>let ⟨l,a,_,c⟩:=R.live h o hg;⟨l,a,.inr ⟨h,o,l,hg,a,rfl⟩,c⟩,R.inj,R.fresh,R.dense,R.vers,R.env⟩
theorem dR.back {gs:tX} {w0:cV gs} {w w':World} {ρ ρ':cK} {H H':GH} (R:dR w0 ρ H w) (R':dR R.base ρ' H' w'):dR w0 ρ' H' w'∧∀k,k<w.heap.size->¬Pf ρ H k->w'.heap[k]? = w.heap[k]?:=by
 have hm:∀k,Pf ρ H k->w0.mine k:=fun k ⟨h,o,l,hg,hl,e⟩=>by
  obtain⟨l',hl',hb,_⟩:=R.live h o hg
  rw[hl]at hl';cases hl'
  rw[<-e];exact hb
 refine⟨⟨⟨R'.ext.os.trans R.ext.os,R'.ext.tape.trans R.ext.tape,R'.ext.output.trans R.ext.output,Nat.le_trans R.ext.size R'.ext.size,fun k hk hO=> ?_⟩,fun h o hg=> ?_,R'.inj,R'.fresh,R'.dense,R'.vers,R'.env⟩,fun k hk hh=>R'.ext.block k hk hh⟩
 ·rw[R'.ext.block k (Nat.lt_of_lt_of_le hk R.ext.size) (fun hh=>by rcases hm k hh with h|h;exact absurd h (by omega);exact hO h)]
  exact R.ext.block k hk hO
 ·obtain⟨l,hl,hb,ho⟩:=R'.live h o hg
  refine⟨l,hl,?_,ho⟩
  rcases hb with hb|hb
  ·exact .inl (Nat.le_trans R.ext.size hb)
  ·exact hm _ hb
section
variable {P:Program} {tb:TB} {ρ:cK} {V U W:Value} {v u t g:GV} {gs:tX} {w0:cV gs} {w:World} {H H':GH}
theorem dR.alloc (R:dR w0 ρ H w) {cs:List GV} {a:Array Value} (T:TypeId) (hr:NS ρ cs a):
  ∃ρ',ρ.le ρ'∧ρ'=ρ.upd H.n ⟨w.heap.size,0,a.size,.cells a T,.cells cs⟩∧dR w0 ρ' (H.new (.cells cs)) (w.alloc (.cells a T)):=by
 have e:Hy w (w.alloc (.cells a T)):=(Below.refl _ _).alloc (Nat.le_refl _) _
 have h:=R.new (o:= .cells cs) (l:=⟨w.heap.size,0,a.size,.cells a T,.cells cs⟩) (R.ext.trans e) (fun h o' l' hg hl=>by
  obtain⟨l,hl',_,ho⟩:=R.live h o' hg
  rw[hl]at hl';cases hl'
  exact⟨e.block _ ho.lt,Nat.ne_of_lt ho.lt⟩) (.inl R.ext.size) (by
  refine⟨a,T,heap_alloc_new w _,rfl,by have:=hr.r.len;simp at this;simp[this],fun i g hg=> ?_⟩
  obtain⟨x,hx,hrx⟩:=hr.r.get hg
  rw[Array.getElem?_toList]at hx
  exact⟨x,by simpa using hx,hrx.le (sX (R.fresh _ (Nat.le_refl _))),HX hr.one hx⟩) (heap_alloc_new w _)
 exact⟨_,h.1,rfl,h.2⟩
theorem UR {T:TypeId} (R:dR w0 ρ H w) (hv:Rl ρ v V) (h:L_ v H=some (g,H')):Hx P w0 ρ (Instr.box T V) w g H':=by
 obtain⟨vc,hc,h⟩:=aA.1 (show ob v.cells _=some (g,H')from h)
 rw[fU]at h;cases h
 obtain⟨vs,e,hr,h1⟩:=hv.cells hc
 obtain⟨ρ',hle,rfl,R'⟩:=R.alloc T (cs:=vc) (a:=V.cells) (by rw[e];exact⟨hr,h1⟩)
 refine⟨_,_,_,?_,hle,R',.ptr (l:=⟨w.heap.size,0,V.cells.size,.cells V.cells T,.cells vc⟩) 0 (by simp[cK.upd])⟩
 simp[Instr.box,newVar,newRow]
theorem Dy (hG:dK P tb) {T:TypeId} (R:dR w0 ρ H w) (h:rH tb T H=some (g,H')):Hx P w0 ρ (Instr.alloc T true (.tuple #[])) w g H':=by
 obtain⟨zc,hz,h⟩:=aA.1 (show ob (xK tb T) _=some (g,H')from h)
 rw[fU]at h;cases h
 obtain⟨d,hd,hT,hC⟩:=rS (ρ:=ρ) hG hz
 obtain⟨ρ',hle,rfl,R'⟩:=R.alloc T hC
 exact⟨_,_,_,Du w hT,hle,R',.ptr (l:=⟨w.heap.size,0,d.zero.cells.size,.cells d.zero.cells T,.cells zc⟩) 0 (by simp[cK.upd])⟩
theorem dR.cells (R:dR w0 ρ H w) {h:Nat} {cs:List GV} (hc:H.cells h=some cs) {l:GE} (hl:ρ h=some l):sR ρ w l (.cells cs):=by
 obtain⟨l',hl',_,ho⟩:=R.live h _ (fH.1 hc)
 rw[hl]at hl';cases hl';exact ho
theorem Gh (hG:dK P tb) {T:TypeId} (R:dR w0 ρ H w) (hv:Rl ρ v V) (h:sO tb T v H=some g):∃(x:Value) (p:Nat×Nat) (l:GE),v = .ptr p.1 p.2∧ρ p.1=some l∧(∃o,H.get p.1=some o)∧Rl ρ g x∧∀w',w'.heap[l.b]? = w.heap[l.b]? -> (Instr.loadAt T V).run P w' = .ok x w':=by
 obtain⟨p,hp,h⟩:=aA.1 (show ob v.asP _=some g from h)
 obtain⟨cs,hcs,h⟩:=aA.1 h
 obtain⟨t,ht,h⟩:=aA.1 h
 have hpe:=z_ hp
 have hg0:=fH.1 hcs
 rw[z_ hp]at hv
 obtain⟨l,hl,rfl⟩:=hv.ptr_inv
 obtain⟨cur,T',hb,hsz,hfit,hcell⟩:=R.cells hcs hl
 have hT:=hG.tab ht
 unfold wS at h
 cases ha:s_ t.desc with
 | true =>
  rw[ha]at h
  obtain⟨r,hs,h⟩:=aA.1 h
  cases h
  obtain⟨hbnd,rfl⟩:=Is hs
  let vs:=((cur.toList.drop (l.off+p.2)).take t.size)
  have hlen:vs.length=t.size:=by simp[vs];omega
  have hrel:lR ρ ((cs.drop p.2).take t.size) vs:=⟨by rw[hlen];simp;omega,fun i a b hai hbi=>by
   simp only[vs]at hbi
   rw[List.getElem?_take]at hai hbi
   by_cases hi:i<t.size
   ·rw[if_pos hi,List.getElem?_drop]at hai hbi
    obtain⟨x,h1,h2,_⟩:=hcell _ _ hai
    rw[Array.getElem?_toList,show l.off+p.2+i=l.off+(p.2+i) by omega,h1]at hbi
    cases hbi;exact h2
   ·rw[if_neg hi]at hai;cases hai⟩
  have hone:∀x∈vs,one x=true:=fun x hx=>by
   obtain⟨i,hi⟩:=List.mem_iff_getElem?.1 hx
   have hlt:=aU hi
   have hai:((cs.drop p.2).take t.size)[i]? = some (cs[p.2+i]'(by omega)):=by
    rw[List.getElem?_take,if_pos (by omega),List.getElem?_drop,List.getElem?_eq_getElem (by omega)]
   simp only[vs]at hi
   rw[List.getElem?_take,if_pos (by omega),List.getElem?_drop,Array.getElem?_toList,show l.off+p.2+i=l.off+(p.2+i) by omega]at hi
   obtain⟨y,h1,_,h3⟩:=hcell (p.2+i) _ (List.getElem?_eq_getElem (by omega))
   rw[h1]at hi;cases hi;exact h3
  refine⟨_,p,l,hpe,hl,⟨_,hg0⟩,Cc hrel hone,fun w' hw'=> ?_⟩
  rw[hb]at hw'
  refine wT hT ha hlen (fun j x hx=> ?_)
  rw[cY]
  have hlt:=aU hx
  simp only[vs]at hx
  rw[List.getElem?_take,if_pos (by omega),List.getElem?_drop,Array.getElem?_toList]at hx
  simp[World.cell?,hw',hx]
 |false=>
  rw[ha]at h
  rw[cond_false,pT]at h
  obtain⟨x,h1,h2,_⟩:=hcell _ _ h
  exact⟨x,p,l,hpe,hl,⟨_,hg0⟩,h2,fun w' hw'=>tG hT ha (by rw[hb]at hw';simp[World.cell?,hw',h1])⟩
theorem DC (hG:dK P tb) {T:TypeId} (R:dR w0 ρ H w) (hv:Rl ρ v V) (hu:Rl ρ u U) (h:oV tb T v u H=some (g,H')):g = .un∧∃w' ρ',(Instr.storeAt T V U).run P w = .ok () w'∧ρ.le ρ'∧dR w0 ρ' H' w':=by
 obtain⟨p,hp,h⟩:=aA.1 (show ob v.asP _=some (g,H')from h)
 obtain⟨cs,hcs,h⟩:=aA.1 h
 obtain⟨t,ht,h⟩:=aA.1 h
 obtain⟨uc,huc,h⟩:=aA.1 h
 obtain⟨hl1,h⟩:=a_.1 h
 obtain⟨h0,h⟩:=iK.1 h
 obtain⟨c1,hput,h⟩:=aA.1 h
 rw[sV]at h
 cases h
 refine⟨rfl,?_⟩
 rw[z_ hp]at hv
 obtain⟨l,hl,rfl⟩:=hv.ptr_inv
 obtain⟨cur,T',hb,hsz,hfit,hcell⟩:=R.cells hcs hl
 obtain⟨us,eU,hus,hone⟩:=hu.cells huc
 have hT:=hG.tab ht
 have hlen:uc.length=t.size:=Nat.eq_of_beq_eq_true hl1
 have hul:uc.length=us.length:=hus.len
 have hne:uc≠[]:=by intro e;rw[e]at hlen;simp at hlen;rw[<-hlen]at h0;cases h0
 obtain⟨p1,p2,p3⟩:=EA hput
 have p1:=p1 hne
 have hst:=run_storeCells_at P l.b (l.off+p.2) T' us 0 cur w hb (by omega) (fun x hx=>mU (hone x hx))
 simp only[Nat.add_zero]at hst
 refine⟨w.setRow l.b (cur.toList.take (l.off+p.2)++us++cur.toList.drop (l.off+p.2+us.length)).toArray,_,?_,R.set (fH.1 hcs) hl ?_ (fun k hk=>setRow_other w l.b k _ hk) ?_ (setRow_heap w l.b _ _ T' _ hb)⟩
 ·have hs:=hT.run_size w
  simp only[Instr.storeAt,Instr.sureAddr,storeVar,eU]
  have e:us.toArray.size=t.size:=by simp;omega
  simp[hs,e,hst]
 ·obtain⟨l',hl',hbase,_⟩:=R.live _ _ (fH.1 hcs)
  rw[hl]at hl';cases hl'
  exact⟨R.ext.os,R.ext.tape,R.ext.output,by simpa using R.ext.size,fun k hk hO=>by
   rw[setRow_other w l.b k _ (fun e=>by subst e;rcases hbase with hbase|hbase;exact absurd hbase (by omega);exact hO hbase)];exact R.ext.block k hk hO⟩
 ·refine⟨_,T',setRow_heap w l.b _ _ T' _ hb,?_,by omega,fun i x hx=> ?_⟩
  ·simp;omega
  ·rw[p3 i]at hx
   have hcl:cur.toList.length=cur.size:=by simp
   have key:(cur.toList.take (l.off+p.2)++us++cur.toList.drop (l.off+p.2+us.length)).toArray[l.off+i]? = if p.2<=i∧i<p.2+us.length then us[i - p.2]? else cur[l.off+i]?:=by
    rw[List.getElem?_toArray,List.append_assoc]
    by_cases hi:i<p.2
    ·rw[if_neg (by omega),List.getElem?_append_left (by simp;omega),List.getElem?_take,if_pos (by omega),Array.getElem?_toList]
    ·rw[List.getElem?_append_right (by simp;omega),List.length_take]
     have e1:min (l.off+p.2) cur.toList.length=l.off+p.2:=by omega
     rw[e1]
     by_cases hi2:i<p.2+us.length
     ·rw[if_pos (by omega),List.getElem?_append_left (by omega)]
      congr 1;omega
     ·rw[if_neg (by omega),List.getElem?_append_right (by omega),List.getElem?_drop,Array.getElem?_toList]
      congr 1;omega
   by_cases hi:p.2<=i∧i<p.2+uc.length
   ·rw[if_pos hi]at hx
    obtain⟨y,hy,hr⟩:=hus.get hx
    exact⟨y,by rw[key,if_pos (by omega)];exact hy,hr,hone y (List.mem_of_getElem? hy)⟩
   ·rw[if_neg hi]at hx
    obtain⟨y,hy,hr⟩:=hcell i x hx
    exact⟨y,by rw[key,if_neg (by omega)];exact hy,hr⟩
end
end
section
section
variable {P:Program} {tb:TB} {ρ:cK} {V U W:Value} {v u t g:GV} {gs:tX} {w0:cV gs} {w:World} {H H':GH}

theorem CB (z:List GV):∀n,(KJ z n).length=n*z.length
 |0=>by show([]:List GV).length=_;simp
 |n+1=>by
  have:KJ z (n+1)=z++KJ z n:=rfl
  rw[this,List.length_append,CB z n,Nat.add_mul];omega
theorem Nm (z:List GV) (hz:0<z.length):∀(n i:Nat),i<n*z.length->(KJ z n)[i]? = z[i%z.length]?
 |0,i,h=>by simp at h
 |n+1,i,h=>by
  have:KJ z (n+1)=z++KJ z n:=rfl
  rw[this]
  by_cases hi:i<z.length
  ·rw[List.getElem?_append_left hi,Nat.mod_eq_of_lt hi]
  ·rw[List.getElem?_append_right (by omega),Nm z hz n (i - z.length) (by have:(n+1)*z.length=n*z.length+z.length:=Nat.succ_mul n z.length;omega),<-Nat.mod_eq_sub_mod (by omega)]
theorem EE {zc:List GV} {z:Array Value} (hC:NS ρ zc z) (h0:0<zc.length) (n:Nat):NS ρ (KJ zc n) ((Array.range (n*zc.length)).map (z[· % z.size]!)):=by
 have hl:zc.length=z.size:=by have:=hC.r.len;simpa using this
 have hz:0<z.size:=by omega
 have hget:∀i,i<n*zc.length->z[i%z.size]? = some (z[i%z.size]!):=fun i _=>by
  have hm:i%z.size<z.size:=Nat.mod_lt _ hz
  rw[getElem!_pos z (i%z.size) hm];simp
 refine⟨⟨by simp[CB],fun i a b ha hb=> ?_⟩,fun x hx=> ?_⟩
 ·have hi:=aU ha
  rw[CB]at hi
  rw[Nm zc h0 n i hi]at ha
  have hb':some (z[i%z.size]!)=some b:=by
   rw[<-hb,Array.getElem?_toList]
   simp[hi]
  cases hb'
  refine hC.r.at' (i%zc.length) a _ ha ?_
  rw[Array.getElem?_toList,hl]
  exact hget i hi
 ·simp only[Array.toList_map,List.mem_map]at hx
  obtain⟨i,hi,rfl⟩:=hx
  have hi:i<n*zc.length:=by simpa using hi
  exact HX hC.one (hget i hi)
theorem BJ {sz:Nat}:∀{l:List (Nat×GV)} {r0 cs:List GV},Dk sz l r0=some cs->cs.length=r0.length
 | [],r0,cs,h=>by cases h;rfl
 |p::l,r0,cs,h=>by
  obtain⟨cc,hcc,h⟩:=aA.1 (show ob p.2.cells (fun cc=>bif Nat.beq cc.length sz then(bif Nat.beq sz 0 then none else ob (Co cc (Nat.mul p.1 sz) r0) (Dk sz l))else none)=some cs from h)
  obtain⟨_,h⟩:=a_.1 h
  obtain⟨_,h⟩:=iK.1 h
  obtain⟨c1,hg,h⟩:=aA.1 h
  rw[BJ h]
  exact(EA hg).2.1
theorem Ma (hG:dK P tb) {T:TypeId} {n:Nat} {l:List (Nat×GV)} {parts:List (Nat×Value)} (R:dR w0 ρ H w) (hp:Xh ρ l parts) (h:wV tb T n l H=some (g,H')):Hx P w0 ρ (Instr.buildSlice T n parts.toArray) w g H':=by
 obtain⟨te,hte,h⟩:=aA.1 (show ob (vO tb T) _=some (g,H')from h)
 obtain⟨zc,hz,h⟩:=aA.1 h
 obtain⟨hlen,h⟩:=a_.1 h
 obtain⟨hbig,h⟩:=a_.1 h
 obtain⟨h0,h⟩:=iK.1 h
 obtain⟨cs,hfill,h⟩:=aA.1 h
 rw[fU]at h;cases h
 obtain⟨⟨d,hd,hde⟩,hE,htab⟩:=tB hG hte
 obtain⟨dz,hdz,_,hC⟩:=rS (ρ:=ρ) hG hz
 rw[htab]at hdz;cases hdz
 have hlen:zc.length=te.2.size:=Nat.eq_of_beq_eq_true hlen
 have h0:te.2.size≠0:=fun e=>by rw[e]at h0;cases h0
 have hbig:n*te.2.size<16777216:=by simpa [Nat.blt_eq]using hbig
 have hrep:=EE hC (by omega) n
 rw[hlen]at hrep
 obtain⟨a',f1,f2⟩:=AO hp hrep hfill
 obtain⟨ρ',hle,rfl,R'⟩:=R.alloc te.1 f2
 have hsz:a'.size=n*te.2.size:=by
  have e1:=f2.r.len
  have:cs.length=(KJ zc n).length:=BJ hfill
  rw[this,CB,hlen]at e1
  simp at e1;omega
 refine⟨_,_,_,?_,hle,R',.sl (l:=⟨w.heap.size,0,a'.size,.cells a' te.1,.cells cs⟩) (cap:=n) (A:=⟨w.heap.size,0,none⟩) (by simp[cK.upd]) (Nat.le_refl _) (.inr ⟨rfl,by simp[hsz]⟩)⟩
 have hu:=hd.run_und w
 rw[hde]at hu
 by_cases hn:n*te.2.size=0
 ·have hz0:n=0:=by rcases Nat.mul_eq_zero.1 hn with h|h;exact h;exact absurd h h0
  subst hz0
  have e0:(Array.range (0*te.2.size)).map (te.2.zero.cells[· % te.2.zero.cells.size]!)=(#[]:Array Value):=by simp
  rw[e0]at f1
  have e1:(Array.range 0).map (fun _=>(default:Value)) = #[]:=by simp
  simp[Instr.buildSlice,hu,hE.run_size w,newRow]
  simp[e1,f1]
 ·simp[Instr.buildSlice,hu,hE.run_size w,hE.run_zero w,hn,f1,newRow,show¬(16777216<n*te.2.size) by omega]
theorem Sr (hG:dK P tb) {T:TypeId} (R:dR w0 ρ H w) (hv:Rl ρ v V) (hu:Rl ρ u U) (h:NC tb T v u H=some (g,H')):Hx P w0 ρ (Instr.makeSlice T V U) w g H':=by
 obtain⟨te,hte,h⟩:=aA.1 (show ob (vO tb T) _=some (g,H')from h)
 obtain⟨zc,hz,h⟩:=aA.1 h
 obtain⟨k,hk,h⟩:=aA.1 h
 obtain⟨c,hc,h⟩:=aA.1 h
 obtain⟨heq,h⟩:=a_.1 h
 obtain⟨n,hn,h⟩:=aA.1 h
 obtain⟨hlen,h⟩:=a_.1 h
 obtain⟨hby,h⟩:=a_.1 h
 obtain⟨hn2,h⟩:=a_.1 h
 obtain⟨h0,h⟩:=iK.1 h
 rw[MN,fU]at h;cases h
 obtain⟨⟨d,hd,hde⟩,hE,htab⟩:=tB hG hte
 obtain⟨dz,hdz,_,hC⟩:=rS (ρ:=ρ) hG hz
 rw[htab]at hdz;cases hdz
 have hlen:zc.length=te.2.size:=Nat.eq_of_beq_eq_true hlen
 have h0:te.2.size≠0:=fun e=>by rw[e]at h0;cases h0
 have hby:n*te.2.bytes<16777216:=by simpa [Nat.blt_eq]using hby
 have hn2:n<16777216:=by simpa [Nat.blt_eq]using hn2
 rw[kY hk]at hv
 rw[kY hc]at hu
 rw[Fo]at heq
 have heq:=of_decide_eq_true heq
 rw[hv.int_inv,hu.int_inv,<-heq,Db hn]
 have hrep:=EE hC (by omega) n
 rw[hlen]at hrep
 obtain⟨ρ',hle,rfl,R'⟩:=R.alloc te.1 hrep
 obtain⟨iE,hiE,hs,hb,hze⟩:=hE.info
 have hund:=hd.und
 rw[hde]at hund
 have hbb:(iE.bytes:Int)*(n:Int)<=281474976710656:=by
  have e:(te.2.bytes:Int)*(n:Int)=((n*te.2.bytes:Nat):Int):=by rw[Nat.mul_comm];simp
  rw[hb,e];omega
 have hr:=run_make (P:=P) w T te.1 iE te.2.zero hund hiE hze k.1 c.1 n n (by omega) (Int.le_refl _) hbb (by omega)
 refine⟨_,_,_,?_,hle,R',.sl (l:=⟨w.heap.size,0,((Array.range (n*te.2.size)).map (te.2.zero.cells[· % te.2.zero.cells.size]!)).size,.cells ((Array.range (n*te.2.size)).map (te.2.zero.cells[· % te.2.zero.cells.size]!)) te.1,.cells (KJ zc n)⟩) (cap:=n) (A:=⟨w.heap.size,0,none⟩) (by simp[cK.upd]) (Nat.le_refl _) (.inr ⟨rfl,by simp⟩)⟩
 rw[hr]
 simp[madeCells,hs]

theorem Vm {o:Option GV} {O:Option Value} {d n:Nat} (hr:(o=none∧O=none)∨∃g x,o=some g∧O=some x∧Rl ρ g x) (h:vB o d=some n):(o=none∧O=none∧n=d)∨∃k:IntKind,O=some (.int k n):=by
 rcases hr with⟨rfl,rfl⟩|⟨g,x,rfl,rfl,hx⟩
 ·cases h;exact .inl ⟨rfl,rfl,rfl⟩
 ·obtain⟨a,ha,h⟩:=aA.1 (show ob g.asI _=some n from h)
  rw[kY ha]at hx
  exact .inr ⟨a.1,by rw[hx.int_inv,Db h]⟩
def XL (ρ:cK) (o:Option GV) (O:Option Value):Prop:=(o=none∧O=none)∨∃g x,o=some g∧O=some x∧Rl ρ g x
theorem yX {sl:Bool} {len cap l h:Nat} {lo hi:Option GV} {LO HI:Option Value} (hlo:XL ρ lo LO) (hhi:XL ρ hi HI) (h1:vB lo 0=some l) (h2:vB hi len=some h) (hle:l<=h) (hc:h<=cap) (w:World):
  (Instr.sliceBounds sl len cap LO HI none).run P w = .ok (l,h,cap) w:=by
 rcases Vm hlo h1 with⟨_,rfl,rfl⟩|⟨k1,rfl⟩<;>rcases Vm hhi h2 with⟨_,rfl,rfl⟩|⟨k2,rfl⟩
 ·simp[Instr.sliceBounds]
 ·simp[Instr.sliceBounds,Instr.sliceBound,asIntOf,hc]
 ·simp[Instr.sliceBounds,Instr.sliceBound,asIntOf,hle]
 ·simp[Instr.sliceBounds,Instr.sliceBound,asIntOf,hle,hc]
theorem Hp (hG:dK P tb) {T:TypeId} {lo hi:Option GV} {LO HI:Option Value} (R:(∃(w0:cV gs) (w:World),dR w0 ρ H w)∨∀t,tb T=some t->W_ t.desc=none) (hv:Rl ρ v V) (hlo:XL ρ lo LO) (hhi:XL ρ hi HI) (h:zD tb T v lo hi H=some g):yC P ρ (Instr.sliceAt T V LO HI none) g:=by
 obtain⟨l,hl,h⟩:=aA.1 (show ob (vB lo 0) _=some g from h)
 obtain⟨t,ht,h⟩:=aA.1 h
 have hT:=hG.tab ht
 cases hs:v.asStr with
 | some s =>
  rw[hs]at h
  obtain⟨e,he,h⟩:=aA.1 (show ob (vB hi s.2) _=some g from h)
  obtain⟨hd,h⟩:=a_.1 h
  obtain⟨hle,h⟩:=a_.1 (show(bif Nat.ble l e then _ else none)=some g from h)
  obtain⟨hlen,h⟩:=a_.1 h
  simp only[rP]at h
  cases h
  have hle:l<=e:=by simpa using hle
  have hlen:e<=s.2:=by simpa using hlen
  rw[mG hs]at hv
  obtain⟨r,rfl,e1,e2⟩:=hv.str_inv
  have hsz:r.size=s.2:=by rw[e2];exact Lib.size_eq r
  have hx:=Lib.extract_data r l e
  refine⟨.string (r.extract l e),?_,fun w=> ?_⟩
  ·have:Rl ρ (.str (jB (aX (r.extract l e))) (aX (r.extract l e)).length) (.string (r.extract l e)):= .str _
   have e3:aX (r.extract l e)=((aX r).drop l).take (e - l):=hx
   rw[e3]at this
   rw[e1,Qx]
   have e4:(((aX r).drop l).take (e - l)).length=Nat.sub e l:=by
    simp only[List.length_take,List.length_drop,<-e2]
    show _=e - l
    omega
   rw[e4]at this
   exact this
  ·have hu:=hT.run_und w
   rw[wF hd]at hu
   have hb:=yX (P:=P) (sl:=false) (cap:=s.2) hlo hhi hl he hle hlen w
   simp[Instr.sliceAt,hu,Instr.slice,hsz,hb]
 | none =>
  rw[hs]at h
  cases hS:v.asS with
  | some s =>
   simp only[hS]at h
   obtain⟨E,hE,h⟩:=aA.1 (show ob (SJ t.desc) _=some g from h)
   obtain⟨te,hte,h⟩:=aA.1 h
   obtain⟨e,he,h⟩:=aA.1 h
   obtain⟨hsz,h⟩:=a_.1 (show(bif Nat.beq te.size s.2.2.2 then _ else none)=some g from h)
   obtain⟨hle,h⟩:=a_.1 h
   obtain⟨hlen,h⟩:=a_.1 h
   simp only[rP]at h
   cases h
   have hsz:te.size=s.2.2.2:=Nat.eq_of_beq_eq_true hsz
   have hle:l<=e:=by simpa using hle
   have hlen:e<=s.2.2.1:=by simpa using hlen
   rw[xA hS]at hv
   obtain⟨lc,cap,A,hlc,rfl,hc,ha⟩:=hv.sl_inv
   refine⟨.slice (if cap=l then some A else(some A).map (·.add (l*te.size))) (e - l) (cap - l),?_,fun w=> ?_⟩
   ·have e1:(if cap=l then some A else(some A).map (·.add (l*te.size)))=some (if cap=l then A else A.add (l*te.size)):=by split<;>rfl
    rw[e1]
    refine .sl hlc (show e - l<=cap - l by omega) ?_
    by_cases hcl:cap - l=0
    ·exact .inl hcl
    ·right
     rw[if_neg (by omega)]
     rcases ha with ha|⟨rfl,hb⟩
     ·omega
     ·rw[cY]
      refine⟨by show _=(⟨lc.b,lc.off+(s.2.1+l*te.size),none⟩:Addr);rw[Nat.add_assoc],?_⟩
      have:cap*s.2.2.2=l*te.size+(cap - l)*te.size:=by rw[<-hsz,<-Nat.add_mul];congr 1;omega
      show lc.off+(s.2.1+l*te.size)+(cap - l)*te.size<=lc.size
      omega
   ·have hu:=hT.run_und w
    rw[BU hE]at hu
    have hb:=yX (P:=P) (sl:=true) (cap:=cap) hlo hhi hl he hle (by omega) w
    simp[Instr.sliceAt,hu,Instr.slice,hb,(hG.tab hte).run_size w]
  | none =>
   simp only[hS]at h
   cases hz:v.isSnil with
   |true=>
    rw[hz]at h
    obtain⟨E,hE,h⟩:=aA.1 (show ob (SJ t.desc) _=some g from h)
    obtain⟨te,hte,h⟩:=aA.1 h
    obtain⟨e,he,h⟩:=aA.1 h
    obtain⟨h0,h⟩:=a_.1 h
    obtain⟨h1,h⟩:=a_.1 h
    cases h
    have h0:l=0:=Nat.eq_of_beq_eq_true h0
    have h1:e=0:=Nat.eq_of_beq_eq_true h1
    subst h0 h1
    rw[rM hz]at hv
    rw[hv.snil_inv]
    refine⟨_,.snil,fun w=> ?_⟩
    have hu:=hT.run_und w
    rw[BU hE]at hu
    have hb:=yX (P:=P) (sl:=true) (len:=0) (cap:=0) hlo hhi hl he (Nat.le_refl _) (Nat.le_refl _) w
    simp[Instr.sliceAt,hu,Instr.slice,hb,(hG.tab hte).run_size w]
   |false=>
   rw[hz]at h
   obtain⟨p,hp,h⟩:=aA.1 (show ob v.asP _=some g from h)
   obtain⟨E,hE,h⟩:=aA.1 h
   obtain⟨te,hte,h⟩:=aA.1 h
   obtain⟨e,he,h⟩:=aA.1 h
   obtain⟨cs,hcs,h⟩:=aA.1 h
   obtain⟨hfit,h⟩:=a_.1 h
   obtain⟨hle,h⟩:=a_.1 (show(bif Nat.ble l e then _ else none)=some g from h)
   obtain⟨hlen,h⟩:=a_.1 h
   obtain⟨h0,h⟩:=iK.1 h
   simp only[rP]at h
   cases h
   have hfit:p.2+E.1*te.size<=cs.length:=by simpa using hfit
   have hle:l<=e:=by simpa using hle
   have hlen:e<=E.1:=by simpa using hlen
   rw[z_ hp]at hv
   obtain⟨lc,hlc,rfl⟩:=hv.ptr_inv
   rcases R with⟨w0,w,R⟩|R
   rotate_left
   ·rw[R t ht]at hE;cases hE
   obtain⟨cur,T',hb,hcs2,hfit2,_⟩:=R.cells hcs hlc
   refine⟨.slice (some (if E.1=l then⟨lc.b,lc.off+p.2,none⟩else Addr.add ⟨lc.b,lc.off+p.2,none⟩ (l*te.size))) (e - l) (E.1 - l),?_,fun w=> ?_⟩
   ·refine .sl hlc (show e - l<=E.1 - l by omega) ?_
    by_cases hcl:E.1 - l=0
    ·exact .inl hcl
    ·right
     rw[if_neg (by omega),cY]
     refine⟨by show _=(⟨lc.b,lc.off+(p.2+l*te.size),none⟩:Addr);rw[Nat.add_assoc],?_⟩
     have:E.1*te.size=l*te.size+(E.1 - l)*te.size:=by rw[<-Nat.add_mul];congr 1;omega
     show lc.off+(p.2+l*te.size)+(E.1 - l)*te.size<=lc.size
     omega
   ·have hu:=hT.run_und w
    rw[LY hE]at hu
    have hb:=yX (P:=P) (sl:=false) (cap:=E.1) hlo hhi hl he hle hlen w
    simp[Instr.sliceAt,hu,Instr.sureAddr,hb,(hG.tab hte).run_size w]
end
end
section
section
variable {P:Program} {tb:TB} {ρ:cK} {V U W:Value} {v u t g:GV} {gs:tX} {w0:cV gs} {w:World} {H H':GH}

structure NI (ρ:cK) (w:World) (sz n:Nat) (r:List GV) (V:Value) (ns:List Value):Prop where
 rel:lR ρ r ns
 len:ns.length=n*sz
 one:∀x∈ns,Go.Sx.one x=true
 val:∃base cap,V = .slice base n cap∧n<=cap∧((base=none∧n=0∧cap=0)∨∃A,base=some A∧∀(j:Nat) x,ns[j]? = some x->w.cell? (A.add j)=some x)
theorem yM (R:dR w0 ρ H w) {sz:Nat} {p:Nat×List GV} (hv:Rl ρ v V) (h:o_ H sz v=some p):∃ns,NI ρ w sz p.1 p.2 V ns:=by
 unfold o_ at h
 cases hz:v.isSnil with
 |true=>
  rw[hz]at h;cases h
  rw[rM hz]at hv
  exact⟨[],.nil,by simp,fun x hx=>by simp at hx,none,0,hv.snil_inv,Nat.le_refl _,.inl ⟨rfl,rfl,rfl⟩⟩
 | false =>
  rw[hz]at h
  obtain⟨s,hs,h⟩:=aA.1 (show ob v.asS _=some p from h)
  obtain⟨hsz,h⟩:=a_.1 h
  obtain⟨cs,hcs,h⟩:=aA.1 h
  obtain⟨r,hr,h⟩:=aA.1 h
  cases h
  have hsz:s.2.2.2=sz:=Nat.eq_of_beq_eq_true hsz
  obtain⟨hb,rfl⟩:=Is hr
  have hb:s.2.1+s.2.2.1*sz<=cs.length:=hb
  rw[xA hs]at hv
  obtain⟨l,cap,A,hl,rfl,hc,ha⟩:=hv.sl_inv
  obtain⟨cur,T,hh,hsize,hfit,hcell⟩:=R.cells hcs hl
  let ns:=(cur.toList.drop (l.off+s.2.1)).take (s.2.2.1*sz)
  have hlen:ns.length=s.2.2.1*sz:=by simp[ns];omega
  have hrel:lR ρ ((cs.drop s.2.1).take (s.2.2.1*sz)) ns:=⟨by rw[hlen];simp;omega,fun i a b hai hbi=>by
   simp only[ns]at hbi
   rw[List.getElem?_take]at hai hbi
   by_cases hi:i<s.2.2.1*sz
   ·rw[if_pos hi,List.getElem?_drop]at hai hbi
    obtain⟨x,h1,h2,_⟩:=hcell _ _ hai
    rw[Array.getElem?_toList,show l.off+s.2.1+i=l.off+(s.2.1+i) by omega,h1]at hbi
    cases hbi;exact h2
   ·rw[if_neg hi]at hai;cases hai⟩
  have hnx:∀(j:Nat) x,ns[j]? = some x->j<s.2.2.1*sz∧cur[l.off+(s.2.1+j)]? = some x:=fun j x hx=>by
   have hlt:=aU hx
   simp only[ns]at hx
   rw[List.getElem?_take,if_pos (by omega),List.getElem?_drop,Array.getElem?_toList,show l.off+s.2.1+j=l.off+(s.2.1+j) by omega]at hx
   exact⟨by omega,hx⟩
  refine⟨ns,hrel,hlen,fun x hx=> ?_,_,cap,rfl,hc,.inr ⟨A,rfl,fun j x hx=> ?_⟩⟩
  ·obtain⟨i,hi⟩:=List.mem_iff_getElem?.1 hx
   obtain⟨h1,h2⟩:=hnx i x hi
   obtain⟨y,h3,_,h4⟩:=hcell (s.2.1+i) _ (List.getElem?_eq_getElem (by omega))
   rw[h2]at h3;cases h3;exact h4
  ·obtain⟨h1,h2⟩:=hnx j x hx
   rcases ha with ha|⟨rfl,_⟩
   ·have:s.2.2.1=0:=by omega
    rw[this]at h1;simp at h1
   ·rw[cY,show l.off+s.2.1+j=l.off+(s.2.1+j) by omega]
    simp[World.cell?,hh,h2]
theorem NI.src {sz n:Nat} {r:List GV} {ns:List Value} (h:NI ρ w sz n r V ns) {T E:TypeId} (hu:P.underlying T=some (.slice E)):Src P sz T V n ns w:=by
 obtain⟨base,cap,rfl,_,hh⟩:=h.val
 have hone:∀x∈ns,x.oneCell'=true:=fun x hx=>mU (h.one x hx)
 rcases hh with⟨rfl,rfl,rfl⟩|⟨A,rfl,hc⟩
 ·have:ns=[]:=List.eq_nil_of_length_eq_zero (by have:=h.len;simpa using this)
  subst this
  exact Src.ofNil w hu 0
 ·exact Src.ofSlice w hu A n cap ns h.len hc hone
theorem NI.old {sz n:Nat} {r:List GV} {ns:List Value} (h:NI ρ w sz n r V ns):(Builtin.firstCells sz n V).run P w.drew = .ok ns.toArray w.drew:=by
 obtain⟨base,cap,rfl,_,hh⟩:=h.val
 rcases hh with⟨rfl,rfl,rfl⟩|⟨A,rfl,hc⟩
 ·have:ns=[]:=List.eq_nil_of_length_eq_zero (by have:=h.len;simpa using this)
  subst this
  exact run_firstCells_none w.drew sz 0 0 0
 ·exact run_firstCells_some w.drew sz n A n cap ns h.len hc
theorem dR.alloc' (R:dR w0 ρ H w) {cs:List GV} {a:Array Value} (T:TypeId) (hl:cs.length<=a.size) (hr:∀(i:Nat) g,cs[i]? = some g->∃x,a[i]? = some x∧Rl ρ g x∧one x=true):
  ∃ρ',ρ.le ρ'∧ρ'=ρ.upd H.n ⟨w.heap.size,0,a.size,.cells a T,.cells cs⟩∧dR w0 ρ' (H.new (.cells cs)) (w.alloc (.cells a T)):=by
 have e:Hy w (w.alloc (.cells a T)):=(Below.refl _ _).alloc (Nat.le_refl _) _
 have h:=R.new (o:= .cells cs) (l:=⟨w.heap.size,0,a.size,.cells a T,.cells cs⟩) (R.ext.trans e) (fun h o' l' hg hl=>by
  obtain⟨l,hl',_,ho⟩:=R.live h o' hg
  rw[hl]at hl';cases hl'
  exact⟨e.block _ ho.lt,Nat.ne_of_lt ho.lt⟩) (.inl R.ext.size) (by
  refine⟨a,T,heap_alloc_new w _,rfl,by simpa using hl,fun i g hg=> ?_⟩
  obtain⟨x,hx,hrx,h1⟩:=hr i g hg
  exact⟨x,by simpa using hx,hrx.le (sX (R.fresh _ (Nat.le_refl _))),h1⟩) (heap_alloc_new w _)
 exact⟨_,h.1,rfl,h.2⟩
theorem Lj {sz:Nat} {p:Nat×List GV} {s:Nat×Nat×Nat×Nat} (h:o_ H sz v=some p) (hs:v.asS=some s):s.2.2.2=sz∧∃cs,H.cells s.1=some cs∧s.2.1+s.2.2.1*sz<=cs.length∧p.1=s.2.2.1:=by
 unfold o_ at h
 have hnz:v.isSnil=false:=by rw[xA hs];rfl
 rw[hnz]at h
 obtain⟨s',hs',h⟩:=aA.1 (show ob v.asS _=some p from h)
 rw[hs]at hs';cases hs'
 obtain⟨hsz,h⟩:=a_.1 h
 obtain⟨cs,hcs,h⟩:=aA.1 h
 obtain⟨r,hr,h⟩:=aA.1 h
 cases h
 exact⟨Nat.eq_of_beq_eq_true hsz,cs,hcs,(Is hr).1,rfl⟩
theorem NV (R:dR w0 ρ H w) {hh off k sz m cap:Nat} {l:GE} {cs p2 q2:List GV} {ns1 ns2:List Value} (hcs:H.cells hh=some cs) (hl:ρ hh=some l) (c1:NI ρ w sz k p2 (.slice (some ⟨l.b,l.off+off,none⟩) k cap) ns1)
  (r2:lR ρ q2 ns2) (l2:ns2.length=m*sz) (o2:∀x∈ns2,one x=true) (hroom:k+m<=cap) (hbound:l.off+off+cap*sz<=l.size):
  ∃cur T',w.heap[l.b]? = some (.cells cur T' (0,0))∧l.off+off+cap*sz<=cur.size∧ρ.le (ρ.upd H.n ⟨l.b,l.off+off,l.size,(.cells (cur.toList.take (l.off+off+k*sz)++ns2++cur.toList.drop (l.off+off+k*sz+ns2.length)).toArray T'),.cells (p2++q2)⟩)∧
   dR w0 (ρ.upd H.n ⟨l.b,l.off+off,l.size,(.cells (cur.toList.take (l.off+off+k*sz)++ns2++cur.toList.drop (l.off+off+k*sz+ns2.length)).toArray T'),.cells (p2++q2)⟩) ((H.del hh).new (.cells (p2++q2))) (w.setRow l.b (cur.toList.take (l.off+off+k*sz)++ns2++cur.toList.drop (l.off+off+k*sz+ns2.length)).toArray):=by
 obtain⟨cur,T',hb,hsize,hfit,hcell⟩:=R.cells hcs hl
 have hmul:k*sz+m*sz<=cap*sz:=by rw[<-Nat.add_mul];exact Nat.mul_le_mul_right _ hroom
 have hcl:cur.toList.length=cur.size:=by simp
 obtain⟨l0,hl0,hbase0,_⟩:=R.live _ _ (fH.1 hcs)
 rw[hl]at hl0;cases hl0
 have l1:=c1.len
 have e1:p2.length=k*sz:=by rw[c1.rel.len];exact l1
 have e2:q2.length=m*sz:=by rw[r2.len];exact l2
 have hnew:=(R.del hh).new (o:= .cells (p2++q2)) (l:=⟨l.b,l.off+off,l.size,(.cells (cur.toList.take (l.off+off+k*sz)++ns2++cur.toList.drop (l.off+off+k*sz+ns2.length)).toArray T'),.cells (p2++q2)⟩)
  (w':=w.setRow l.b (cur.toList.take (l.off+off+k*sz)++ns2++cur.toList.drop (l.off+off+k*sz+ns2.length)).toArray)
  ⟨R.ext.os,R.ext.tape,R.ext.output,by simpa using R.ext.size,fun k hk hO=>by
   rw[setRow_other w l.b k _ (fun e=>by subst e;rcases hbase0 with hbase|hbase;exact absurd hbase (by omega);exact hO hbase)];exact R.ext.block k hk hO⟩
  (fun h o' l' hg hl'=>by
   rw[By]at hg
   by_cases e:h=hh
   ·rw[if_pos e]at hg;cases hg
   ·rw[if_neg e]at hg
    have hne:l'.b≠l.b:=fun e'=>e (R.inj h hh o' _ l' l hg (fH.1 hcs) hl' hl e')
    exact⟨setRow_other w l.b l'.b _ hne,hne⟩) hbase0 (by
   refine⟨_,T',setRow_heap w l.b _ _ T' _ hb,?_,?_,fun i x hx=> ?_⟩
   ·simp;omega
   ·show l.off+off+(p2++q2).length<=l.size
    rw[List.length_append,e1,e2];omega
   ·have hle0:ρ.le (ρ.upd (H.del hh).n ⟨l.b,l.off+off,l.size,(.cells (cur.toList.take (l.off+off+k*sz)++ns2++cur.toList.drop (l.off+off+k*sz+ns2.length)).toArray T'),.cells (p2++q2)⟩):=sX (R.fresh _ (Nat.le_refl _))
    have hil:=aU hx
    rw[List.length_append,e1,e2]at hil
    obtain⟨y,hy,hr⟩:=(c1.rel.append r2).get hx
    refine⟨y,?_,hr.le hle0,?_⟩
    ·show(cur.toList.take (l.off+off+k*sz)++ns2++cur.toList.drop (l.off+off+k*sz+ns2.length)).toArray[l.off+off+i]? = some y
     rw[List.getElem?_toArray,List.append_assoc]
     by_cases hi:i<k*sz
     ·rw[List.getElem?_append_left (by simp;omega),List.getElem?_take,if_pos (by omega),Array.getElem?_toList]
      rw[List.getElem?_append_left (by omega)]at hy
      obtain⟨base',cap2,hV2,_,hh2⟩:=c1.val
      cases hV2
      rcases hh2 with⟨h1,_⟩|⟨A,hA,hAc⟩
      ·cases h1
      ·cases hA
       have:=hAc i y hy
       rw[cY]at this
       simpa [World.cell?,hb]using this
     ·rw[List.getElem?_append_right (by simp;omega),List.length_take,show min (l.off+off+k*sz) cur.toList.length=l.off+off+k*sz by omega]
      rw[List.getElem?_append_right (by omega),l1]at hy
      rw[List.getElem?_append_left (by omega)]
      rw[<-hy];congr 1;omega
    ·rcases List.mem_append.1 (List.mem_of_getElem? hy)with hm|hm
     ·exact c1.one y hm
     ·exact o2 y hm) (setRow_heap w l.b _ _ T' _ hb)
 exact⟨cur,T',hb,by omega,hnew.1,hnew.2⟩
theorem Sg (hG:dK P tb) {T T' ty:TypeId} (R:dR w0 ρ H w) (hv:Rl ρ v V) (hu:Rl ρ u U) (h:Sf tb T T' v u H=some (g,H')):Hx P w0 ρ (Builtin.append_ #[T,T'] ty #[V,U]) w g H':=by
 unfold Sf at h
 obtain⟨hvz,h⟩:=a_.1 h
 obtain⟨te,hte,h⟩:=aA.1 h
 obtain⟨t',ht',h⟩:=aA.1 h
 obtain⟨kn,hkn,h⟩:=aA.1 h
 obtain⟨zc,hz,h⟩:=aA.1 h
 obtain⟨k,hk,h⟩:=aA.1 h
 obtain⟨n,hn,h⟩:=aA.1 h
 obtain⟨hlen,h⟩:=a_.1 h
 obtain⟨hby,h⟩:=a_.1 h
 obtain⟨h0,h⟩:=iK.1 h
 obtain⟨hn0,h⟩:=iK.1 h
 rw[MN,fU]at h;cases h
 obtain⟨⟨d,hd,hde⟩,hE,htab⟩:=tB hG hte
 obtain⟨dz,hdz,_,hC⟩:=rS (ρ:=ρ) hG hz
 rw[htab]at hdz;cases hdz
 have hlen:zc.length=te.2.size:=Nat.eq_of_beq_eq_true hlen
 have h0:te.2.size≠0:=fun e=>by rw[e]at h0;cases h0
 have hn0:n≠0:=fun e=>by rw[e]at hn0;cases hn0
 have hby:n*(te.2.bytes+1)<16777216:=by simpa [Nat.blt_eq]using hby
 have hb1:n*te.2.bytes+n<16777216:=by rw[Nat.mul_add,Nat.mul_one]at hby;exact hby
 rw[rM hvz]at hv
 have hV:=hv.snil_inv
 subst hV
 rw[kY hk]at hu
 rw[hu.int_inv,Db hn]
 obtain⟨iE,hiE,hs,hb,hze⟩:=hE.info
 have hund:=hd.und
 rw[hde]at hund
 have hund':=(hG.tab ht').und
 rw[BS hkn]at hund'
 have hr:=Lib.run_append_nil_zeros (P:=P) w T T' ty te.1 iE te.2.zero k.1 kn hund hund' hiE hze n (by omega) (by omega) (by omega) (by rw[hb];omega)
 have hzs:te.2.zero.cells.size=te.2.size:=by have:=hC.r.len;simp at this;omega
 have hge:=grownCap_ge w n 0 te.1
 have hrep:=EE hC (by omega) n
 have hrl:=hrep.r.len
 have hx:Builtin.zeroCells te.2.zero.cells n=(Array.range (n*zc.length)).map (te.2.zero.cells[· % te.2.zero.cells.size]!):=by
  unfold Builtin.zeroCells
  rw[hzs,hlen]
 rw[<-hx]at hrep hrl
 obtain⟨ρ',hle,rfl,R'⟩:=R.alloc' (cs:=KJ zc n) (a:=Builtin.zeroCells te.2.zero.cells n++Builtin.zeroCells te.2.zero.cells (grownCap w n 0 te.1 - n)) te.1 (by
   simp only[Array.size_append];have:(KJ zc n).length=(Builtin.zeroCells te.2.zero.cells n).size:=by simpa using hrl
   omega) (fun i x hxi=>by
  obtain⟨y,hy,hry⟩:=hrep.r.get hxi
  have hy':(Builtin.zeroCells te.2.zero.cells n)[i]? = some y:=by simpa using hy
  exact⟨y,by rw[Array.getElem?_append_left (by simpa using aU hy)];exact hy',hry,hrep.one y (by simpa using List.mem_of_getElem? hy)⟩)
 refine⟨_,_,_,hr,hle,R'.ext' ((Below.refl _ _).drew),?_⟩
 refine .sl (l:=⟨w.heap.size,0,(Builtin.zeroCells te.2.zero.cells n++Builtin.zeroCells te.2.zero.cells (grownCap w n 0 te.1 - n)).size,.cells (Builtin.zeroCells te.2.zero.cells n++Builtin.zeroCells te.2.zero.cells (grownCap w n 0 te.1 - n)) te.1,.cells (KJ zc n)⟩) (by simp[cK.upd]) hge (.inr ⟨rfl,?_⟩)
 simp only[Array.size_append,size_zeroCells,hzs]
 have:grownCap w n 0 te.1*te.2.size=n*te.2.size+(grownCap w n 0 te.1 - n)*te.2.size:=by
  rw[<-Nat.add_mul];congr 1;omega
 omega
theorem dR.put (R:dR w0 ρ H w) {hh o:Nat} {cs uc c1:List GV} {l:GE} {us:List Value} (hcs:H.cells hh=some cs) (hl:ρ hh=some l) (hus:lR ρ uc us) (hone:∀x∈us,one x=true) (hput:Co uc o cs=some c1) (hne:uc≠[]):
  ∃cur T',w.heap[l.b]? = some (.cells cur T' (0,0))∧l.off+o+us.length<=cur.size∧∃ρ',ρ.le ρ'∧dR w0 ρ' (H.set hh (.cells c1)) (w.setRow l.b (cur.toList.take (l.off+o)++us++cur.toList.drop (l.off+o+us.length)).toArray):=by
 obtain⟨cur,T',hb,hsz,hfit,hcell⟩:=R.cells hcs hl
 have hul:uc.length=us.length:=hus.len
 obtain⟨p1,p2,p3⟩:=EA hput
 have p1:=p1 hne
 refine⟨cur,T',hb,by omega,_,R.set (fH.1 hcs) hl ?_ (fun k hk=>setRow_other w l.b k _ hk) ?_ (setRow_heap w l.b _ _ T' _ hb)⟩
 ·obtain⟨l',hl',hbase,_⟩:=R.live _ _ (fH.1 hcs)
  rw[hl]at hl';cases hl'
  exact⟨R.ext.os,R.ext.tape,R.ext.output,by simpa using R.ext.size,fun k hk hO=>by
   rw[setRow_other w l.b k _ (fun e=>by subst e;rcases hbase with hbase|hbase;exact absurd hbase (by omega);exact hO hbase)];exact R.ext.block k hk hO⟩
 ·refine⟨_,T',setRow_heap w l.b _ _ T' _ hb,?_,by omega,fun i x hx=> ?_⟩
  ·simp;omega
  ·rw[p3 i]at hx
   have hcl:cur.toList.length=cur.size:=by simp
   have key:(cur.toList.take (l.off+o)++us++cur.toList.drop (l.off+o+us.length)).toArray[l.off+i]? = if o<=i∧i<o+us.length then us[i - o]? else cur[l.off+i]?:=by
    rw[List.getElem?_toArray,List.append_assoc]
    by_cases hi:i<o
    ·rw[if_neg (by omega),List.getElem?_append_left (by simp;omega),List.getElem?_take,if_pos (by omega),Array.getElem?_toList]
    ·rw[List.getElem?_append_right (by simp;omega),List.length_take]
     have e1:min (l.off+o) cur.toList.length=l.off+o:=by omega
     rw[e1]
     by_cases hi2:i<o+us.length
     ·rw[if_pos (by omega),List.getElem?_append_left (by omega)]
      congr 1;omega
     ·rw[if_neg (by omega),List.getElem?_append_right (by omega),List.getElem?_drop,Array.getElem?_toList]
      congr 1;omega
   by_cases hi:o<=i∧i<o+uc.length
   ·rw[if_pos hi]at hx
    obtain⟨y,hy,hr⟩:=hus.get hx
    exact⟨y,by rw[key,if_pos (by omega)];exact hy,hr,hone y (List.mem_of_getElem? hy)⟩
   ·rw[if_neg hi]at hx
    obtain⟨y,hy,hr⟩:=hcell i x hx
    exact⟨y,by rw[key,if_neg (by omega)];exact hy,hr⟩
theorem So (hG:dK P tb) {T T' ty:TypeId} (R:dR w0 ρ H w) (hv:Rl ρ v V) (hu:Rl ρ u U) (h:Vo tb T v u H=some (g,H')):Hx P w0 ρ (Builtin.copy_ #[T,T'] ty #[V,U]) w g H':=by
 obtain⟨s,hs,h⟩:=aA.1 (show ob v.asS _=some (g,H')from h)
 obtain⟨r,hr,h⟩:=aA.1 h
 obtain⟨te,hte,h⟩:=aA.1 h
 obtain⟨hs1,h⟩:=a_.1 h
 obtain⟨hr1,h⟩:=a_.1 h
 obtain⟨hlen,h⟩:=a_.1 h
 obtain⟨cs,hcs,h⟩:=aA.1 h
 obtain⟨xs,hxs,h⟩:=aA.1 h
 obtain⟨ds,hds,h⟩:=aA.1 h
 have hs1:s.2.2.2=te.2.size:=Nat.eq_of_beq_eq_true hs1
 have hr1:r.2.2.2=te.2.size:=Nat.eq_of_beq_eq_true hr1
 have hlen:r.2.2.1=s.2.2.1:=Nat.eq_of_beq_eq_true hlen
 cases xs with
 |nil=>cases h
 | cons x0 xs0 =>
  obtain⟨c1,hput,h⟩:=aA.1 (show ob (Co (x0::xs0) s.2.1 ds) _=some (g,H')from h)
  rw[sV]at h
  cases h
  have hcont:o_ H te.2.size u=some (r.2.2.1,x0::xs0):=by
   unfold o_
   rw[xA hr]
   have hb:Nat.beq te.2.size te.2.size=true:=by simp
   show ob (some r) (fun s=>bif Nat.beq s.2.2.2 te.2.size then _ else none)=_
   show(bif Nat.beq r.2.2.2 te.2.size then ob (H.cells r.1) (fun cs=>ob (Xq cs r.2.1 (Nat.mul r.2.2.1 te.2.size)) fun q=>some (r.2.2.1,q))else none)=_
   rw[hr1,hb,cond_true,hcs]
   show ob (Xq cs r.2.1 (Nat.mul r.2.2.1 te.2.size)) _=_
   rw[hxs];rfl
  obtain⟨ns,c2⟩:=yM R hu hcont
  obtain⟨⟨d,hd,hde⟩,hE,htab⟩:=tB hG hte
  rw[xA hs]at hv
  obtain⟨l,cap,A,hl,rfl,hc,ha⟩:=hv.sl_inv
  have hne:x0::xs0≠[]:=by simp
  obtain⟨cur,T2,hb,hfit,ρ',hle,R'⟩:=R.put hds hl c2.rel c2.one hput hne
  have hnsl:=c2.len
  have hns0:ns.length≠0:=by have:=c2.rel.len;simp at this;omega
  have hA:A=⟨l.b,l.off+s.2.1,none⟩:=by
   rcases ha with ha|⟨e,_⟩
   ·exfalso
    have:s.2.2.1=0:=by omega
    rw[hlen,this]at hnsl;simp at hnsl;exact hns0 (by simp[hnsl])
   ·exact e
  subst hA
  have hund:=hd.und
  rw[hde]at hund
  have hst:=run_storeCells_at P l.b (l.off+s.2.1) T2 ns 0 cur w hb (by simpa using hfit) (fun x hx=>mU (c2.one x hx))
  simp only[Nat.add_zero]at hst
  obtain⟨base,cap2,hV2,hcap2,hh2⟩:=c2.val
  subst hV2
  rcases hh2 with⟨_,h0,_⟩|⟨A2,rfl,hcell⟩
  ·exfalso;rw[h0]at hnsl;simp at hnsl;exact hns0 (by simp[hnsl])
  have hld:=run_firstCells_some (P:=P) w te.2.size r.2.2.1 A2 r.2.2.1 cap2 ns hnsl hcell
  have hru:=hd.run_und w
  rw[hde]at hru
  refine⟨_,_,ρ',?_,hle,R',.int _ _⟩
  have hmin:Nat.min r.2.2.1 s.2.2.1=r.2.2.1:=by rw[hlen];exact Nat.min_self _
  simp[Builtin.copy_,hru,Builtin.lenOf,hE.run_size w,hmin,hld,hst,goInt]
theorem UQ (hG:dK P tb) {T T' ty:TypeId} (R:dR w0 ρ H w) (hv:Rl ρ v V) (hu:Rl ρ u U) (h:OV tb T T' v u H=some (g,H')):Hx P w0 ρ (Builtin.append_ #[T,T'] ty #[V,U]) w g H':=by
 unfold OV at h
 cases hTT:Nat.beq T T' with
 |false=>rw[hTT]at h;exact Sg hG R hv hu h
 |true=>
 rw[hTT]at h
 have hTT:T=T':=Nat.eq_of_beq_eq_true hTT
 subst hTT
 rw[cond_true]at h
 obtain⟨te,hte,h⟩:=aA.1 h
 obtain⟨h0,h⟩:=iK.1 h
 obtain⟨zc,hz,h⟩:=aA.1 h
 obtain⟨hzl,h⟩:=a_.1 h
 obtain⟨p,hp,h⟩:=aA.1 h
 obtain⟨q,hq,h⟩:=aA.1 h
 obtain⟨⟨d,hd,hde⟩,hE,htab⟩:=tB hG hte
 obtain⟨dz,hdz,_,hC⟩:=rS (ρ:=ρ) hG hz
 rw[htab]at hdz;cases hdz
 have hzl:zc.length=te.2.size:=Nat.eq_of_beq_eq_true hzl
 have hzs:te.2.zero.cells.size=te.2.size:=by have:=hC.r.len;simp at this;omega
 have h0:te.2.size≠0:=fun e=>by rw[e]at h0;cases h0
 obtain⟨ns1,c1⟩:=yM R hv hp
 obtain⟨ns2,c2⟩:=yM R hu hq
 have hund:=hd.und
 rw[hde]at hund
 have src:=c2.src (P:=P) (T:=T) hund
 obtain⟨base,cap,hV,hcap,hbase⟩:=c1.val
 cases hq1:q.1 with
 |zero=>
  rw[hq1]at h
  cases h
  rw[hq1]at src
  have hns:ns2=[]:=List.eq_nil_of_length_eq_zero (by have:=c2.len;rw[hq1]at this;simpa using this)
  subst hns
  refine⟨V,w,ρ,?_,cK.le_refl _,R,hv⟩
  have hru:=hd.run_und w
  rw[hde]at hru
  have hlen:=src.len w
  have hcl:=src.cells
  subst hV
  cases base with
  |none=>simp[Builtin.append_,hru,hE.run_size w,hlen,hcl,hcap]
  |some A=>simp[Builtin.append_,hru,hE.run_size w,hlen,hcl,hcap,storeCells]
 | succ m =>
  rw[hq1]at h
  simp only[rP]at h
  obtain⟨hbig,h⟩:=a_.1 h
  rw[WC,Qv,fU]at h
  cases h
  have hbig:(p.1+q.1)*(te.2.bytes+1)<16777216:=by rw[hq1];simpa [Nat.blt_eq]using hbig
  have hb1:(p.1+q.1)*te.2.bytes+(p.1+q.1)<16777216:=by rw[Nat.mul_add,Nat.mul_one]at hbig;exact hbig
  have hq1':Nat.add p.1 (m+1)=p.1+q.1:=by rw[hq1];rfl
  have hrell:lR ρ (p.2++q.2) (ns1++ns2):=c1.rel.append c2.rel
  have hlen12:(p.2++q.2).length=(p.1+q.1)*te.2.size:=by
   rw[hrell.len,List.length_append,c1.len,c2.len,<-Nat.add_mul]
  have hone12:∀x∈ns1++ns2,one x=true:=fun x hx=>by
   rcases List.mem_append.1 hx with hx|hx
   ·exact c1.one x hx
   ·exact c2.one x hx
  by_cases hroom:p.1+q.1<=cap
  ·
   have hvs:∃s,v.asS=some s:=by
    cases hzz:v.isSnil with
    |true=>
     rw[rM hzz]at hv
     have:=hv.snil_inv
     rw[hV]at this
     injection this with _ _ e3
     omega
    |false=>
     unfold o_ at hp
     rw[hzz]at hp
     obtain⟨s,hs,_⟩:=aA.1 (show ob v.asS _=some p from hp)
     exact⟨s,hs⟩
   obtain⟨s,hs⟩:=hvs
   obtain⟨hsz,cs,hcs,hbb,hp1⟩:=Lj hp hs
   rw[xA hs]at hv
   obtain⟨l,cap',A,hl,hV',hc,ha⟩:=hv.sl_inv
   rw[hV]at hV'
   injection hV' with e1 e2 e3
   subst e1 e3
   rcases ha with ha|⟨rfl,hbound⟩
   ·omega
   rw[hsz]at hbound
   have c1':=c1
   rw[hV]at c1'
   obtain⟨cur,T',hh,hcs2,hle,R'⟩:=NV R hcs hl c1' c2.rel c2.len c2.one hroom hbound
   have hr:=Kd (P:=P) (ty:=ty) hd hde hE hh src hroom hcs2
   have hdel:Ll H v=H.del s.1:=by unfold Ll;rw[hs]
   rw[hdel,hV]
   refine⟨_,_,_,hr,hle,R',?_⟩
   rw[hq1']
   exact .sl (l:=⟨l.b,l.off+s.2.1,l.size,_,_⟩) (by show(if H.n=H.n then _ else _)=_;exact if_pos rfl) hroom (.inr ⟨rfl,by show l.off+s.2.1+0+cap*te.2.size<=l.size;omega⟩)
  ·
   have hR':dR w0 ρ (Ll H v) w.drew:=by
    have:dR w0 ρ (Ll H v) w:=by
     unfold Ll
     cases v.asS with
     |none=>exact R
     |some s=>exact R.del s.1
    exact this.ext' ((Below.refl _ _).drew)
   have hr:=Kb (P:=P) (ty:=ty) hd hde hE (base:=base) (by rw[<-hV];exact c1.old) src (by omega) (by omega) (by omega)
   have hge:=grownCap_ge w (p.1+q.1) cap te.1
   have hn1:(ns1++ns2).length=(p.1+q.1)*te.2.size:=by rw[<-hrell.len];exact hlen12
   obtain⟨ρ',hle,rfl,R'⟩:=hR'.alloc' (cs:=p.2++q.2) (a:=(ns1++ns2).toArray++Builtin.zeroCells te.2.zero.cells (grownCap w (p.1+q.1) cap te.1 - (p.1+q.1))) te.1 (by simp only[Array.size_append,List.size_toArray];omega) (fun i x hx=>by
    obtain⟨y,hy,hr⟩:=hrell.get hx
    exact⟨y,by rw[Array.getElem?_append_left (by simpa using aU hy)];simpa using hy,hr,hone12 y (List.mem_of_getElem? hy)⟩)
   rw[hV]
   refine⟨_,_,_,hr,hle,R',?_⟩
   rw[hq1']
   refine .sl (l:=⟨w.heap.size,0,((ns1++ns2).toArray++Builtin.zeroCells te.2.zero.cells (grownCap w (p.1+q.1) cap te.1 - (p.1+q.1))).size,.cells ((ns1++ns2).toArray++Builtin.zeroCells te.2.zero.cells (grownCap w (p.1+q.1) cap te.1 - (p.1+q.1))) te.1,.cells (p.2++q.2)⟩) (by simp[cK.upd]) hge (.inr ⟨rfl,?_⟩)
   simp only[Array.size_append,List.size_toArray,size_zeroCells,hzs,hn1]
   have:grownCap w (p.1+q.1) cap te.1*te.2.size=(p.1+q.1)*te.2.size+(grownCap w (p.1+q.1) cap te.1 - (p.1+q.1))*te.2.size:=by
    rw[<-Nat.add_mul];congr 1;omega
   omega
end
end
section
section
variable {P:Program} {tb:TB} {ρ:cK} {V U W X:Value} {v u t g:GV} {gs:tX} {w0:cV gs} {w:World} {H H':GH}
theorem Kw {T:TypeId} (R:dR w0 ρ H w) (h:yA H=some (g,H')):Hx P w0 ρ (Instr.makeMap T none) w g H':=by
 unfold yA at h
 rw[fU]at h;cases h
 have e:Hy w (w.alloc (.map #[] 0)):=(Below.refl _ _).alloc (Nat.le_refl _) _
 have hn:=R.new (o:= .mp []) (l:=⟨w.heap.size,0,0,.map #[] 0,.mp []⟩) (R.ext.trans e) (fun h o' l' hg hl=>by
  obtain⟨l,hl',_,ho⟩:=R.live h o' hg
  rw[hl]at hl';cases hl'
  exact⟨e.block _ ho.lt,Nat.ne_of_lt ho.lt⟩) (.inl R.ext.size) ⟨#[],0,heap_alloc_new w _,rfl,fun i x hx=>by simp at hx⟩ (heap_alloc_new w _)
 refine⟨_,_,_,?_,hn.1,hn.2,.map (l:=⟨w.heap.size,0,0,.map #[] 0,.mp []⟩) (by simp[cK.upd])⟩
 simp[Instr.makeMap]
theorem Qz (s r:ByteArray):KI (jB (aX s),(aX s).length) (jB (aX r),(aX r).length)=(s.toList==r.toList):=by
 rw[Lib.toList_data,Lib.toList_data]
 unfold KI
 by_cases hl:(aX s).length=(aX r).length
 ·have hb:Nat.beq (aX r).length (aX r).length=true:=by simp
  rw[hl,hb,cond_true]
  by_cases he:jB (aX s)=jB (aX r)
  ·have:=Cm hl he
   unfold aX at this
   rw[he,this];simp
  ·rw[jZ he]
   symm
   rw[beq_eq_false_iff_ne]
   intro hh;exact he (by unfold aX;rw[hh])
 ·rw[jZ hl,cond_false]
  symm
  rw[beq_eq_false_iff_ne]
  intro hh;exact hl (by unfold aX;rw[hh])
theorem LU {t:Ty} {a b:GV} {A B:Value} {c:Bool} (hk:FB t a=true) (ha:Rl ρ a A) (hb:Rl ρ b B) (h:MX a b=some c):Instr.sameNow t.desc A B=some c:=by
 unfold MX at h
 unfold FB at hk
 cases hi:a.asI with
 | some x =>
  rw[hi]at h hk
  obtain⟨y,hy,h⟩:=aA.1 (show ob b.asI _=some c from h)
  obtain⟨he,h⟩:=a_.1 h
  cases h
  rw[kY hi]at ha
  rw[kY hy]at hb
  rw[ha.int_inv,hb.int_inv]
  cases hd:SI t.desc with
  |none=>simp only[hd]at hk;cases hk
  |some k=>
   rw[BS hd]
   have:=Dh he
   simp only[Instr.sameNow,this,if_true,Fo]
   congr 1
 |none=>
  rw[hi]at h hk
  obtain⟨x,hx,h⟩:=aA.1 (show ob a.asStr _=some c from h)
  obtain⟨y,hy,h⟩:=aA.1 h
  cases h
  rw[hx]at hk
  rw[mG hx]at ha
  rw[mG hy]at hb
  obtain⟨s,rfl,e1,e2⟩:=ha.str_inv
  obtain⟨r,rfl,e3,e4⟩:=hb.str_inv
  rw[wF hk]
  show some (s==r)=_
  rw[beq_toListBytes,<-Qz]
  cases x;cases y;simp only at e1 e2 e3 e4;rw[e1,e2,e3,e4]
theorem FH {t:Ty} {k:GV} {K:Value} (hk:FB t k=true) (hK:Rl ρ k K):∀{es:List (GV×GV)} {en:List MapEntry} {r:Option GV} (i:Nat),en.length=es.length->(∀(i:Nat) e,es[i]? = some e->∃m,en[i]? = some m∧Rl ρ e.1 m.key∧Rl ρ e.2 m.val)->JI k es=some r->
  (r=none∧Instr.findNow t.desc K en i=some none)∨∃g j x,r=some g∧Rl ρ g x∧Instr.findNow t.desc K en i=some (some (j,x))
 | [],en,r,i,hl,_,h=>by
  cases h
  have:en=[]:=List.eq_nil_of_length_eq_zero (by simpa using hl)
  subst this;exact .inl ⟨rfl,rfl⟩
 | e :: es, en, r, i, hl, hr, h => by
  obtain⟨b,hb,h⟩:=aA.1 (show ob (MX k e.1) (fun b=>bif b then some (some e.2)else JI k es)=some r from h)
  cases en with
  |nil=>simp at hl
  | cons m en =>
   obtain⟨m',hm,h1,h2⟩:=hr 0 e rfl
   simp at hm;subst hm
   have hs:=LU hk hK h1 hb
   cases b with
   |true=>
    cases h
    exact .inr ⟨e.2,i,m.val,rfl,h2,by simp[Instr.findNow,hs]⟩
   |false=>
    have:=FH (r:=r) hk hK (i+1) (by simpa using hl) (fun i e' he=>by have:=hr (i+1) e' (by simpa using he);simpa using this) (show JI k es=some r from h)
    simpa [Instr.findNow,hs]using this
theorem JD (hG:dK P tb) {T:TypeId} {t:Ty×Ty} (h:Rh tb T=some t):∃d k e,oI P T d∧d.desc = .map k e∧oI P k t.1∧oI P e t.2:=by
 obtain⟨d,hd,h⟩:=aA.1 (show ob (tb T) _=some t from h)
 obtain⟨kv,hkv,h⟩:=aA.1 h
 obtain⟨tk,htk,h⟩:=aA.1 h
 obtain⟨tv,htv,h⟩:=aA.1 h
 cases h
 exact⟨d,kv.1,kv.2,hG.tab hd,Xa hkv,hG.tab htk,hG.tab htv⟩
theorem CG {K:TypeId} {t:Ty} {b:Bool} (hT:oI P K t) (hk:FB t u=true) (hu:Rl ρ u U) (w:World):(Instr.checkKey b 10000 K U).run P w = .ok () w:=by
 have hund:=hT.run_und w
 unfold FB at hk
 have key:∀n:Nat,(Instr.checkKey b (n+1) K U).run P w = .ok () w:=fun n=>by
  unfold Instr.checkKey
  cases hi:u.asI with
  |some x=>
   rw[hi]at hk
   rw[kY hi]at hu
   rw[hu.int_inv]
   cases hd:SI t.desc with
   |none=>simp only[hd]at hk;cases hk
   |some k=>rw[BS hd]at hund;simp[hund]
  | none =>
   rw[hi]at hk
   cases hs:u.asStr with
   |none=>simp only[hs]at hk;cases hk
   |some x=>
    simp only[hs]at hk
    rw[mG hs]at hu
    obtain⟨s,rfl,_,_⟩:=hu.str_inv
    rw[wF hk]at hund
    simp[hund]
 exact key 9999
theorem dR.map (R:dR w0 ρ H w) {h:Nat} {es:List (GV×GV)} (hc:H.get h=some (.mp es)) {l:GE} (hl:ρ h=some l):sR ρ w l (.mp es)∧w0.mine l.b:=by
 obtain⟨l',hl',hb,ho⟩:=R.live h _ hc
 rw[hl]at hl';cases hl';exact⟨ho,hb⟩
theorem Sq (hG:dK P tb) {T:TypeId} {ok:Bool} (R:dR w0 ρ H w) (hv:Rl ρ v V) (hu:Rl ρ u U) (h:NB tb T ok v u H=some g):∃x,Rl ρ g x∧(Instr.lookup T V U ok).run P w = .ok x w:=by
 obtain⟨m,hm,h⟩:=aA.1 (show ob v.asM _=some g from h)
 obtain⟨o,ho,h⟩:=aA.1 h
 obtain⟨es,hes,h⟩:=aA.1 h
 obtain⟨t,ht,h⟩:=aA.1 h
 obtain⟨hk,h⟩:=a_.1 h
 obtain⟨r,hr,h⟩:=aA.1 h
 obtain⟨z,hz,h⟩:=aA.1 h
 rw[asM_eq hm]at hv
 obtain⟨l,hl,rfl⟩:=hv.map_inv
 rw[GO.asM_eq hes]at ho
 obtain⟨⟨en,cl,hb,hlen,hent⟩,_⟩:=R.map ho hl
 obtain⟨d,k,e,hd,hde,hK,hE⟩:=JD hG ht
 have hund:=hd.run_und w
 rw[hde]at hund
 have hck:=CG (P:=P) (b:=en.isEmpty) hK hk hu w
 have hget:(getObj l.b).run P w = .ok (.map en cl) w:=by simp[getObj,Sem.run,hb]
 have hkund:=hK.run_und w
 have hf:=FH hk hu (en:=en.toList) (r:=r) 0 (by simpa using hlen) (fun i e' he=>by
  obtain⟨m',h1,h2⟩:=hent i e' he
  exact⟨m',by rw[Array.getElem?_toList];exact h1,h2⟩) hr
 have hz':=LM (ρ:=ρ) hz
 rcases hf with⟨rfl,hf⟩|⟨g',j,x,rfl,hx,hf⟩
 ·cases ok with
  |false=>cases h;exact⟨_,hz',by simp[Instr.lookup,hund,hget,hck,Instr.findKey,hkund,hf,hE.run_zero w]⟩
  |true=>cases h;exact⟨.tuple #[t.2.zero,.bool false],Eo (.cons hz' (.cons (.bool _) .nil)),by simp[Instr.lookup,hund,hget,hck,Instr.findKey,hkund,hf,hE.run_zero w]⟩
 ·cases ok with
  |false=>cases h;exact⟨x,hx,by simp[Instr.lookup,hund,hget,hck,Instr.findKey,hkund,hf]⟩
  |true=>cases h;exact⟨.tuple #[x,.bool true],Eo (.cons hx (.cons (.bool _) .nil)),by simp[Instr.lookup,hund,hget,hck,Instr.findKey,hkund,hf]⟩
theorem OW (hG:dK P tb) {T:TypeId} (R:dR w0 ρ H w) (hv:Rl ρ v V) (hu:Rl ρ u U) (hx:Rl ρ t X) (h:IC tb T v u t H=some (g,H')):g = .un∧∃w' ρ',(Instr.mapUpdate T V U X).run P w = .ok () w'∧ρ.le ρ'∧dR w0 ρ' H' w':=by
 obtain⟨m,hm,h⟩:=aA.1 (show ob v.asM _=some (g,H')from h)
 obtain⟨o,ho,h⟩:=aA.1 h
 obtain⟨es,hes,h⟩:=aA.1 h
 obtain⟨ty,ht,h⟩:=aA.1 h
 obtain⟨hk,h⟩:=a_.1 h
 obtain⟨r,hr,h⟩:=aA.1 h
 rw[asM_eq hm]at hv
 obtain⟨l,hl,rfl⟩:=hv.map_inv
 rw[GO.asM_eq hes]at ho
 obtain⟨⟨en,cl,hb,hlen,hent⟩,hbase⟩:=R.map ho hl
 obtain⟨d,k,e,hd,hde,hK,hE⟩:=JD hG ht
 have hund:=hd.run_und w
 rw[hde]at hund
 have hck:=CG (P:=P) (b:=false) hK hk hu w
 have hget:(getObj l.b).run P w = .ok (.map en cl) w:=by simp[getObj,Sem.run,hb]
 have hkund:=hK.run_und w
 have hf:=FH hk hu (en:=en.toList) (r:=r) 0 (by simpa using hlen) (fun i e' he=>by
  obtain⟨m',h1,h2⟩:=hent i e' he
  exact⟨m',by rw[Array.getElem?_toList];exact h1,h2⟩) hr
 rcases hf with⟨rfl,hf⟩|⟨g',j,x,rfl,hx',hf⟩
 ·simp only[sV]at h
  cases h
  refine⟨rfl,{w with heap:=w.heap.setIfInBounds l.b (.map (en.push {key:=U,val:=X,born:=cl}) (cl+1))},_,?_,R.set (X:= .map (en.push {key:=U,val:=X,born:=cl}) (cl+1)) ho hl ?_ ?_ ?_ ?_⟩
  ·simp[Instr.mapUpdate,hund,hget,hck,Instr.findKey,hkund,hf,setObj,Sem.run,hb]
  ·exact⟨R.ext.os,R.ext.tape,R.ext.output,by simpa using R.ext.size,fun i hi hO=>by
    show(w.heap.setIfInBounds l.b _)[i]? = _
    rw[Array.getElem?_setIfInBounds_ne (fun e=>by subst e;rcases hbase with hbase|hbase;exact absurd hbase (by omega);exact hO hbase)];exact R.ext.block i hi hO⟩
  ·intro i hi
   show(w.heap.setIfInBounds l.b _)[i]? = _
   rw[Array.getElem?_setIfInBounds_ne (Ne.symm hi)]
  ·have hlt:l.b<w.heap.size:=(Array.getElem?_eq_some_iff.1 hb).1
   refine⟨en.push {key:=U,val:=X,born:=cl},cl+1,by show(w.heap.setIfInBounds l.b _)[l.b]? = _;rw[Array.getElem?_setIfInBounds_self_of_lt hlt],by simp[hlen],fun i e' he=> ?_⟩
   by_cases hi:i<es.length
   ·rw[List.getElem?_append_left hi]at he
    obtain⟨m',h1,h2⟩:=hent i e' he
    exact⟨m',by rw[Array.getElem?_push,if_neg (by omega)];exact h1,h2⟩
   ·rw[List.getElem?_append_right (by omega)]at he
    have:i=es.length:=by
     have:=aU he
     simp at this;omega
    subst this
    simp at he;subst he
    exact⟨⟨U,X,cl⟩,by rw[Array.getElem?_push,if_pos (by omega)],hu,hx⟩
  ·have hlt:l.b<w.heap.size:=(Array.getElem?_eq_some_iff.1 hb).1
   show(w.heap.setIfInBounds l.b _)[l.b]? = _
   rw[Array.getElem?_setIfInBounds_self_of_lt hlt]
 ·cases h
end
end
section
section
variable {P:Program} {tb:TB} {ρ:cK} {gs:tX} {w0:cV gs} {w:World} {H H':GH} {n:Nat} {σ:GF} {a:Act} {R:Type}
def iP (P:Program) {gs:tX} (w0:cV gs) (ρ:cK) (f:Nat) (vs:List Value) (w:World) (g:GV) (H':GH):Prop:=
 (∃v w' ρ',(callFunc f vs.toArray).run P w = .ok (.value v) w'∧ρ.le ρ'∧dR w0 ρ' H' w'∧Rl ρ' g v)∨
 ((callFunc f vs.toArray).run P w = .ok (.enter f vs.toArray) w∧Calls P f vs.toArray w fun e w'=>∃v ρ',e = .returned v∧ρ.le ρ'∧dR w0 ρ' H' w'∧Rl ρ' g v)
def oB (P:Program) {gs:tX} (w0:cV gs) (ih:CH):Prop:=∀f us H g H',ih f us H=some (g,H')->∀ρ w vs,dR w0 ρ H w->lR ρ us vs->iP P w0 ρ f vs w g H'
def xM (P:Program) {gs:tX} (w0:cV gs) (ρ:cK) (σ:GF) (a:Act) (w:World) (o:Oper) (g:GV) (H H':GH):Prop:=
 (cU o.op=false∧jP o.op=false∧HZ o.op=false∧H'=H∧∃v,Rl ρ g v∧∀w,(execOp a.eval o).run P w = .ok (.value v) w)∨
 (cU o.op=false∧jP o.op=true∧H'=H∧∃v h l,Us σ o.op=some h∧ρ h=some l∧(∃x,H.get h=some x)∧Rl ρ g v∧∀w',w'.heap[l.b]? = w.heap[l.b]? -> (execOp a.eval o).run P w' = .ok (.value v) w')∨
 (cU o.op=false∧HZ o.op=true∧H'=H∧∃v,Rl ρ g v∧(execOp a.eval o).run P w = .ok (.value v) w)∨
 (cU o.op=true∧∀K:Act->World->Prop,(∀ρ' w' v,ρ.le ρ'->dR w0 ρ' H' w'->Rl ρ' g v->K (a.put o.dst v) w')->o.wp P a w K KV)
theorem xM.comp {o:Oper} {g:GV} {s:Sem Value} (hl:cU o.op=false) (h:yC P ρ s g) (he:∀w v,s.run P w = .ok v w->(execOp a.eval o).run P w = .ok (.value v) w) (h1:jP o.op=false:=by rfl) (h2:HZ o.op=false:=by rfl):xM P w0 ρ σ a w o g H H:=
 let ⟨v,hv,hr⟩:=h;.inl ⟨hl,h1,h2,rfl,v,hv,fun w=>he w v (hr w)⟩
theorem xM.read {o:Oper} {g:GV} {s:Sem Value} (hl:cU o.op=false) (hr:HZ o.op=true) (h:∃x,Rl ρ g x∧s.run P w = .ok x w) (he:∀v,s.run P w = .ok v w->(execOp a.eval o).run P w = .ok (.value v) w):xM P w0 ρ σ a w o g H H:=
 let ⟨v,hv,hr'⟩:=h;.inr (.inr (.inl ⟨hl,hr,rfl,v,hv,he v hr'⟩))
theorem xM.does {o:Oper} {g:GV} {s:Sem Value} (hl:cU o.op=true) (h:Hx P w0 ρ s w g H') (he:∀v w',s.run P w = .ok v w'->(execOp a.eval o).run P w = .ok (.value v) w'):xM P w0 ρ σ a w o g H H':=by
 obtain⟨v,w',ρ',hr,hle,R',hv⟩:=h
 refine .inr (.inr (.inr ⟨hl,fun K hK=> ?_⟩))
 simp only[Oper.wp,he v w' hr,Oper.upon]
 exact hK ρ' w' v hle R' hv
theorem xM.act {o:Oper} {g:GV} {s:Sem Unit} (hl:cU o.op=true) (h:g = .un∧∃w' ρ',s.run P w = .ok () w'∧ρ.le ρ'∧dR w0 ρ' H' w') (he:∀w',s.run P w = .ok () w'->(execOp a.eval o).run P w = .ok .skip w'):xM P w0 ρ σ a w o g H H':=by
 obtain⟨rfl,w',ρ',hr,hle,R'⟩:=h
 refine .inr (.inr (.inr ⟨hl,fun K hK=> ?_⟩))
 simp only[Oper.wp,he w' hr,Oper.upon]
 exact hK ρ' w' undef hle R' .un
theorem Ez (F:iQ ρ n σ a) {o:Option Operand} {g:Option GV} (h:Di σ o=some g):XL ρ g (o.map a.eval):=by
 cases o with
 |none=>cases h;exact .inl ⟨rfl,rfl⟩
 |some x=>
  obtain⟨v,hv,h⟩:=aA.1 (show ob (gW σ x) _=some g from h)
  cases h;exact .inr ⟨v,_,rfl,rfl,bM F hv⟩
theorem AV {α:Type} {xs:Array α} {x y:α} (h:xs.toList=[x,y]):xs = #[x,y]:=by
 cases xs;simp at h;rw[h]
theorem EH {α:Type} {xs:Array α} {x:α} (h:xs.toList=[x]):xs = #[x]:=by
 cases xs;simp at h;rw[h]
theorem yS {f:Operand->KT R} {k:GV->GH->Option R} {r:R}:∀{xs:List Operand},FA xs f σ H k=some r->∃x,xs=[x]∧f x σ H k=some r
 | [],h=>by cases h
 | [x],h=>⟨x,rfl,h⟩
 |_::_::_,h=>by cases h
theorem tE {f:Operand->Operand->KT R} {k:GV->GH->Option R} {r:R}:∀{xs:List Operand},Ak xs f σ H k=some r->∃x y,xs=[x,y]∧f x y σ H k=some r
 | [],h=>by cases h
 | [_],h=>by cases h
 | [x,y],h=>⟨x,y,rfl,h⟩
 |_::_::_::_,h=>by cases h
theorem kC {o:OR} {k:GV->GH->Option R} {r:R} (h:fQ o k=some r):∃g H',o=some (g,H')∧k g H'=some r:=by
 obtain⟨⟨g,H'⟩,h1,h2⟩:=aA.1 (show ob o _=some r from h)
 exact⟨g,H',h1,h2⟩
theorem Uq (hG:dK P tb) (F:iQ ρ n σ a) (Rr:dR w0 ρ H w) {b:Builtin} {xs:Array Operand} {ts:Array TypeId} {k:GV->GH->Option R} {r:R} {d:Option Tmp} {ty:TypeId} {pos:String} {aft:Array Edge} {gd:Option (Nat×Bool)} (hlen:ts.size=xs.size)
  (h:LB tb xs ts b σ H k=some r):∃g H',k g H'=some r∧xM P w0 ρ σ a w ⟨d,.call ⟨.builtin b,xs,ts⟩,ty,pos,aft,gd⟩ g H H':=by
 cases b with
 | len =>
  obtain⟨x,hx,h⟩:=yS (show FA xs.toList (Oy tb ts.toList) σ H k=some r from h)
  obtain⟨T,hT,h⟩:=aA.1 (show ob (CV ts.toList 0) _=some r from h)
  obtain⟨v,hv,h⟩:=aA.1 h
  obtain⟨g,hg,hk⟩:=aA.1 h
  have ex:=EH hx
  subst ex
  have et:ts = #[T]:=by
   rw[pT]at hT
   obtain⟨l⟩:=ts
   match l,hlen with
   | [t],_=>simp at hT;subst hT;rfl
  subst et
  exact⟨g,H,hk,.comp rfl (NA hG (ty:=ty) (bM F hv) hg) (fun w v hr=>by simp[execOp,resolve,invoke,builtin,hr])⟩
 | max =>
  obtain⟨x,y,hx,h⟩:=tE (show Ak xs.toList (fun x y=>k2 x y Ss) σ H k=some r from h)
  obtain⟨v,hv,h⟩:=aA.1 (show ob (gW σ x) _=some r from h)
  obtain⟨u,hu,h⟩:=aA.1 h
  obtain⟨g,hg,hk⟩:=aA.1 h
  have ex:=AV hx
  subst ex
  obtain⟨t1,t2,et⟩:∃t1 t2,ts = #[t1,t2]:=by
   obtain⟨l⟩:=ts
   match l,hlen with
   | [t,t'],_=>exact⟨t,t',rfl⟩
  subst et
  exact⟨g,H,hk,.comp rfl (ND (t1:=t1) (t2:=t2) (ty:=ty) (bM F hv) (bM F hu) hg) (fun w v hr=>by simp[execOp,resolve,invoke,builtin,hr])⟩
 | min =>
  obtain⟨x,y,hx,h⟩:=tE (show Ak xs.toList (fun x y=>k2 x y Su) σ H k=some r from h)
  obtain⟨v,hv,h⟩:=aA.1 (show ob (gW σ x) _=some r from h)
  obtain⟨u,hu,h⟩:=aA.1 h
  obtain⟨g,hg,hk⟩:=aA.1 h
  have ex:=AV hx
  subst ex
  obtain⟨t1,t2,et⟩:∃t1 t2,ts = #[t1,t2]:=by
   obtain⟨l⟩:=ts
   match l,hlen with
   | [t,t'],_=>exact⟨t,t',rfl⟩
  subst et
  exact⟨g,H,hk,.comp rfl (NE (t1:=t1) (t2:=t2) (ty:=ty) (bM F hv) (bM F hu) hg) (fun w v hr=>by simp[execOp,resolve,invoke,builtin,hr])⟩
 | append =>
  obtain⟨x,y,hx,h⟩:=tE (show Ak xs.toList (QY tb ts.toList) σ H k=some r from h)
  obtain⟨T,hT,h⟩:=aA.1 (show ob (CV ts.toList 0) _=some r from h)
  obtain⟨T',hT',h⟩:=aA.1 h
  obtain⟨v,hv,h⟩:=aA.1 h
  obtain⟨u,hu,h⟩:=aA.1 h
  obtain⟨g,H',hg,hk⟩:=kC h
  have ex:=AV hx
  subst ex
  have et:ts = #[T,T']:=by
   rw[pT]at hT hT'
   obtain⟨l⟩:=ts
   match l,hlen with
   | [t,t'],_=>simp at hT hT';subst hT hT';rfl
  subst et
  exact⟨g,H',hk,.does rfl (UQ hG (ty:=ty) Rr (bM F hv) (bM F hu) hg) (fun v w' hr=>by simp[execOp,resolve,invoke,builtin,hr])⟩
 | copy =>
  obtain⟨x,y,hx,h⟩:=tE (show Ak xs.toList (JA tb ts.toList) σ H k=some r from h)
  obtain⟨T,hT,h⟩:=aA.1 (show ob (CV ts.toList 0) _=some r from h)
  obtain⟨v,hv,h⟩:=aA.1 h
  obtain⟨u,hu,h⟩:=aA.1 h
  obtain⟨g,H',hg,hk⟩:=kC h
  have ex:=AV hx
  subst ex
  obtain⟨T',et⟩:∃T',ts = #[T,T']:=by
   rw[pT]at hT
   obtain⟨l⟩:=ts
   match l,hlen with
   | [t,t'],_=>simp at hT;subst hT;exact⟨t',rfl⟩
  subst et
  exact⟨g,H',hk,.does rfl (So hG (T':=T') (ty:=ty) Rr (bM F hv) (bM F hu) hg) (fun v w' hr=>by simp[execOp,resolve,invoke,builtin,hr])⟩
 | cap =>
  obtain⟨x,hx,h⟩:=yS (show FA xs.toList (Ox tb ts.toList) σ H k=some r from h)
  obtain⟨T,hT,h⟩:=aA.1 (show ob (CV ts.toList 0) _=some r from h)
  obtain⟨v,hv,h⟩:=aA.1 h
  obtain⟨g,hg,hk⟩:=aA.1 h
  have ex:=EH hx
  subst ex
  have et:ts = #[T]:=by
   rw[pT]at hT
   obtain⟨l⟩:=ts
   match l,hlen with
   | [t],_=>simp at hT;subst hT;rfl
  subst et
  exact⟨g,H,hk,.comp rfl (Ny hG (ty:=ty) (bM F hv) hg) (fun w v hr=>by simp[execOp,resolve,invoke,builtin,hr])⟩
 |_=>cases h
theorem Ow {ih:CH} (hih:oB P w0 ih) (F:iQ ρ n σ a) (Rr:dR w0 ρ H w) {f:Operand} {xs:Array Operand} {ts:Array TypeId} {k:GV->GH->Option R} {r:R} {d:Option Tmp} {ty:TypeId} {pos:String} {aft:Array Edge} {gd:Option (Nat×Bool)}
  (h:QZ ih xs f σ H k=some r):∃g H',k g H'=some r∧xM P w0 ρ σ a w ⟨d,.call ⟨.value f,xs,ts⟩,ty,pos,aft,gd⟩ g H H':=by
 obtain⟨v,hv,h⟩:=aA.1 (show ob (gW σ f) _=some r from h)
 obtain⟨p,hp,h⟩:=aA.1 h
 obtain⟨us,hus,h⟩:=aA.1 h
 obtain⟨g,H',hc,h⟩:=kC h
 refine⟨g,H',h,.inr (.inr (.inr ⟨rfl,fun K hK=> ?_⟩))⟩
 have hf:=bM F hv
 rw[PW hp]at hf
 obtain⟨fs,cs,ef,hfs,hcs⟩:=hf.fn_inv
 have harg:=AN F hus
 have hall:=(hfs.append harg).append hcs
 have hrun:∀nx w',(callFunc p.1 (fs++xs.toList.map a.eval++cs).toArray).run P w = .ok nx w'->(execOp a.eval ⟨d,.call ⟨.value f,xs,ts⟩,ty,pos,aft,gd⟩).run P w = .ok nx w':=fun nx w' hr=>by
  have e1:(fs++xs.toList.map a.eval++cs).toArray=fs.toArray++(xs.map a.eval++cs.toArray):=by
   apply Array.toList_inj.1;simp
  rw[e1]at hr
  simp[execOp,resolve,ef,Deferred.ofValue,invoke,hr]
 rcases hih _ _ _ _ _ hc ρ w _ Rr hall with⟨v',w',ρ',hr,hle,R',hv'⟩|⟨hr,hcalls⟩
 ·simp only[Oper.wp,hrun _ _ hr,Oper.upon]
  exact hK ρ' w' v' hle R' hv'
 ·simp only[Oper.wp,hrun _ _ hr,Oper.upon]
  refine hcalls.mono ?_
  rintro e w' ⟨v',ρ',rfl,hle,R',hv'⟩
  exact hK ρ' w' v' hle R' hv'
def FN:Op->Bool
 | .call c=>Nat.beq c.argTypes.size c.args.size
 |_=>true
theorem Lu (hG:dK P tb) {ih:CH} (hih:oB P w0 ih) (F:iQ ρ n σ a) (Rr:dR w0 ρ H w) {o:Oper} {k:GV->GH->Option R} {r:R} (hoa:FN o.op=true∨∃c f,o.op = .call c∧c.callee = .value f) (h:IE tb ih o.op σ H k=some r):
  ∃g H',k g H'=some r∧xM P w0 ρ σ a w o g H H':=by
 obtain⟨d,op,ty,pos,aft,gd⟩:=o
 cases op with
 |move x=>
  obtain⟨v,hv,h⟩:=aA.1 (show ob (gW σ x) _=some r from h)
  exact⟨v,H,h,.inl ⟨rfl,rfl,rfl,rfl,_,bM F hv,fun w=>by simp[execOp]⟩⟩
 |assign x=>
  obtain⟨v,hv,h⟩:=aA.1 (show ob (gW σ x) _=some r from h)
  exact⟨v,H,h,.inl ⟨rfl,rfl,rfl,rfl,_,bM F hv,fun w=>by simp[execOp]⟩⟩
 |pick c x y=>
  obtain⟨v,hv,h⟩:=aA.1 (show ob (gW σ c) _=some r from h)
  obtain⟨u,hu,h⟩:=aA.1 h
  obtain⟨t,ht,h⟩:=aA.1 h
  obtain⟨g,hg,h⟩:=aA.1 h
  obtain⟨b,hb,hg⟩:=aA.1 (show ob v.asB _=some g from hg)
  have hc:=bM F hv
  rw[w_ hb]at hc
  cases b with
  |true=>cases hg;exact⟨_,H,h,.inl ⟨rfl,rfl,rfl,rfl,_,bM F hu,fun w=>by simp[execOp,hc.bool_inv,asBool]⟩⟩
  |false=>cases hg;exact⟨_,H,h,.inl ⟨rfl,rfl,rfl,rfl,_,bM F ht,fun w=>by simp[execOp,hc.bool_inv,asBool]⟩⟩
 |alloc T=>
  obtain⟨g,H',hg,h⟩:=kC (show fQ (rH tb T H) k=some r from h)
  exact⟨g,H',h,.does rfl (Dy hG Rr hg) (fun v w' hr=>by simp[execOp,hr])⟩
 |box T x=>
  obtain⟨v,hv,h⟩:=aA.1 (show ob (gW σ x) _=some r from h)
  obtain⟨g,H',hg,h⟩:=kC h
  exact⟨g,H',h,.does rfl (UR (T:=T) Rr (bM F hv) hg) (fun v w' hr=>by simp[execOp,hr])⟩
 | build T ps =>
  obtain⟨vs,hvs,h⟩:=aA.1 (show ob (pS σ ps.toList) _=some r from h)
  obtain⟨g,hg,h⟩:=aA.1 h
  exact⟨g,H,h,.comp rfl (Hm hG (xS F hvs) hg) (fun w v hr=>by
   have e:(ps.toList.map fun p=>(p.1,a.eval p.2)).toArray=ps.map fun p=>(p.1,a.eval p.2):=by apply Array.toList_inj.1;simp
   rw[e]at hr
   simp[execOp,hr])⟩
 | buildSlice T m ps =>
  obtain⟨vs,hvs,h⟩:=aA.1 (show ob (pS σ ps.toList) _=some r from h)
  obtain⟨g,H',hg,h⟩:=kC h
  exact⟨g,H',h,.does rfl (Ma hG Rr (xS F hvs) hg) (fun v w' hr=>by
   have e:(ps.toList.map fun p=>(p.1,a.eval p.2)).toArray=ps.map fun p=>(p.1,a.eval p.2):=by apply Array.toList_inj.1;simp
   rw[e]at hr
   simp[execOp,hr])⟩
 |load T x=>
  obtain⟨v,hv,h⟩:=aA.1 (show ob (gW σ x) _=some r from h)
  obtain⟨g,hg,h⟩:=aA.1 h
  obtain⟨x',p,l,he,hl,hgt,hx',hr⟩:=Gh (P:=P) hG Rr (bM F hv) hg
  exact⟨g,H,h,.inr (.inl ⟨rfl,rfl,rfl,x',p.1,l,by show ob (gW σ x) _=_;rw[hv,he];rfl,hl,hgt,hx',fun w' hw'=>by have:=hr w' hw';simp[execOp,this]⟩)⟩
 |store T x y=>
  obtain⟨v,hv,h⟩:=aA.1 (show ob (gW σ x) _=some r from h)
  obtain⟨u,hu,h⟩:=aA.1 h
  obtain⟨g,H',hg,h⟩:=kC h
  exact⟨g,H',h,.act rfl (DC hG Rr (bM F hv) (bM F hu) hg) (fun w' hr=>by simp[execOp,hr])⟩
 |nilCheck x=>
  obtain⟨v,hv,h⟩:=aA.1 (show ob (gW σ x) _=some r from h)
  obtain⟨g,hg,hk⟩:=aA.1 h
  obtain⟨rfl,hr⟩:=JK (P:=P) (bM F hv) hg
  exact⟨_,H,hk,.inl ⟨rfl,rfl,rfl,rfl,_,bM F hv,fun w=>hr _ x a.eval rfl rfl w⟩⟩
 | binOp op T x y T' =>
  obtain⟨v,hv,h⟩:=aA.1 (show ob (gW σ x) _=some r from h)
  obtain⟨u,hu,h⟩:=aA.1 h
  obtain⟨g,hg,h⟩:=aA.1 h
  exact⟨g,H,h,.comp rfl (Nx hG x y (bM F hv) (bM F hu) hg) (fun w v hr=>by
   simp only[execOp]
   simp at hr ⊢
   cases hq:Sem.run P (eqGuard op T x y (a.eval x) (a.eval y)) w with
   |ok u w1=>rw[hq]at hr;simp at hr;simp[hr]
   |halt h1 w1=>rw[hq]at hr;cases hr)⟩
 |unOp op T x=>
  obtain⟨v,hv,h⟩:=aA.1 (show ob (gW σ x) _=some r from h)
  obtain⟨g,hg,h⟩:=aA.1 h
  exact⟨g,H,h,.comp rfl (Sv (bM F hv) hg) (fun w v hr=>by simp[execOp,hr])⟩
 |convert S D x=>
  obtain⟨v,hv,h⟩:=aA.1 (show ob (gW σ x) _=some r from h)
  obtain⟨g,hg,h⟩:=aA.1 h
  exact⟨g,H,h,.comp rfl (Ku hG (bM F hv) hg) (fun w v hr=>by simp[execOp,hr])⟩
 | makeFunc fn first caps =>
  cases fn with
  |func f=>
   obtain⟨us,hus,h⟩:=aA.1 (show ob (BI σ first.toList) _=some r from h)
   obtain⟨vs,hvs,h⟩:=aA.1 h
   refine⟨_,H,h,.inl ⟨rfl,rfl,rfl,rfl,_,Rl.fn' (AN F hus) (AN F hvs),fun w=> ?_⟩⟩
   have e1:(first.toList.map a.eval).toArray=first.map a.eval:=by apply Array.toList_inj.1;simp
   have e2:(caps.toList.map a.eval).toArray=caps.map a.eval:=by apply Array.toList_inj.1;simp
   rw[e1,e2]
   simp[execOp,Instr.makeFunc]
  |_=>cases h
 | makeMap T q =>
  cases q with
  |none=>
   obtain⟨g,H',hg,h⟩:=kC (show fQ (yA H) k=some r from h)
   exact⟨g,H',h,.does rfl (Kw (T:=T) Rr hg) (fun v w' hr=>by simp[execOp,hr])⟩
  |some x=>cases h
 |makeSlice T x y=>
  obtain⟨v,hv,h⟩:=aA.1 (show ob (gW σ x) _=some r from h)
  obtain⟨u,hu,h⟩:=aA.1 h
  obtain⟨g,H',hg,h⟩:=kC h
  exact⟨g,H',h,.does rfl (Sr hG Rr (bM F hv) (bM F hu) hg) (fun v w' hr=>by simp[execOp,hr])⟩
 | slice T x lo hi mx =>
  cases mx with
  |none=>
   obtain⟨v,hv,h⟩:=aA.1 (show ob (gW σ x) _=some r from h)
   obtain⟨l,hl,h⟩:=aA.1 h
   obtain⟨e,he,h⟩:=aA.1 h
   obtain⟨g,hg,h⟩:=aA.1 h
   exact⟨g,H,h,.comp rfl (Hp hG (.inl ⟨_,_,Rr⟩) (bM F hv) (Ez F hl) (Ez F he) hg) (fun w v hr=>by simp[execOp,hr])⟩
  |some y=>cases h
 |fieldAddr T x f=>
  obtain⟨v,hv,h⟩:=aA.1 (show ob (gW σ x) _=some r from h)
  obtain⟨g,hg,h⟩:=aA.1 h
  exact⟨g,H,h,.comp rfl (Hn hG (bM F hv) hg) (fun w v hr=>by simp[execOp,hr])⟩
 |field T x f=>
  obtain⟨v,hv,h⟩:=aA.1 (show ob (gW σ x) _=some r from h)
  obtain⟨g,hg,h⟩:=aA.1 h
  exact⟨g,H,h,.comp rfl (Kx hG (bM F hv) hg) (fun w v hr=>by simp[execOp,hr])⟩
 |indexAddr T x y=>
  obtain⟨v,hv,h⟩:=aA.1 (show ob (gW σ x) _=some r from h)
  obtain⟨u,hu,h⟩:=aA.1 h
  obtain⟨g,hg,h⟩:=aA.1 h
  exact⟨g,H,h,.comp rfl (Ho hG (bM F hv) (bM F hu) hg) (fun w v hr=>by simp[execOp,hr])⟩
 |index T x y=>
  obtain⟨v,hv,h⟩:=aA.1 (show ob (gW σ x) _=some r from h)
  obtain⟨u,hu,h⟩:=aA.1 h
  obtain⟨g,hg,h⟩:=aA.1 h
  exact⟨g,H,h,.comp rfl (Si hG (bM F hv) (bM F hu) hg) (fun w v hr=>by simp[execOp,hr])⟩
 |lookup T x y ok=>
  obtain⟨v,hv,h⟩:=aA.1 (show ob (gW σ x) _=some r from h)
  obtain⟨u,hu,h⟩:=aA.1 h
  obtain⟨g,hg,h⟩:=aA.1 h
  exact⟨g,H,h,.read rfl rfl (Sq hG Rr (bM F hv) (bM F hu) hg) (fun v hr=>by simp[execOp,hr])⟩
 |mapUpdate T x y z=>
  obtain⟨v,hv,h⟩:=aA.1 (show ob (gW σ x) _=some r from h)
  obtain⟨u,hu,h⟩:=aA.1 h
  obtain⟨t,ht,h⟩:=aA.1 h
  obtain⟨g,H',hg,h⟩:=kC h
  exact⟨g,H',h,.act rfl (OW hG Rr (bM F hv) (bM F hu) (bM F ht) hg) (fun w' hr=>by simp[execOp,hr])⟩
 |extract x i=>
  obtain⟨v,hv,h⟩:=aA.1 (show ob (gW σ x) _=some r from h)
  obtain⟨g,hg,h⟩:=aA.1 h
  exact⟨g,H,h,.comp rfl (Nz (bM F hv) hg) (fun w v hr=>by simp[execOp,hr])⟩
 | call c =>
  obtain⟨cal,xs,ts⟩:=c
  cases cal with
  |value f=>exact Ow hih F Rr h
  |invoke x m=>cases h
  |builtin b=>
   refine Uq hG F Rr ?_ h
   rcases hoa with hoa|⟨c,f,e1,e2⟩
   ·exact Nat.eq_of_beq_eq_true hoa
   ·cases e1;cases e2
 |_=>cases h
end
end
section

theorem zC {R:Type}:∀(ks:iO) (vs:List GV) (f:GF->Option R),gQ ks vs f=ob (gQ ks vs some) f
 | [],[],f=>rfl
 | [],_::_,f=>rfl
 |key::ks,[],f=>rfl
 |key::ks,v::vs,f=>by
  show gQ ks vs (fun σ=>f ((key,v)::σ))=ob (gQ ks vs fun σ=>some ((key,v)::σ)) f
  rw[zC ks vs (fun σ=>f ((key,v)::σ)),zC ks vs (fun σ=>some ((key,v)::σ))]
  cases gQ ks vs some<;>rfl
theorem nC {R:Type} {ks:iO} {vs:List GV} {f:GF->Option R} {r:R} (h:gQ ks vs f=some r):∃σ,gQ ks vs some=some σ∧f σ=some r:=by
 rw[zC]at h;exact aA.1 h
theorem ED {ρ:cK} {n:Nat} {σ:GF} {a:Act} (F:iQ ρ n σ a):∀{ks:iO} {σ':GF},gQ ks (xX σ ks) some=some σ'->iQ ρ n σ' a
 | [],σ',h=>by cases h;exact⟨F.defers,F.size,fun t g hg=>by cases hg⟩
 | key :: ks, σ', h => by
  have h':gQ ks (xX σ ks) (fun σ'=>some ((key,Option.casesOn (motive:=fun _=>GV) (AZ σ key) .bad (fun v=>v))::σ'))=some σ':=h
  obtain⟨s,h1,h2⟩:=nC h'
  cases h2
  have ih:=ED F h1
  refine⟨F.defers,F.size,fun t g hg=> ?_⟩
  rw[vR]at hg
  by_cases e:t=key
  ·subst e
   rw[if_pos rfl]at hg
   cases hk:AZ σ t with
   |none=>rw[hk]at hg;cases hg;exact .bad _
   |some v=>rw[hk]at hg;cases hg;exact F.slot t v hk
  ·rw[if_neg e]at hg;exact ih.slot t g hg
theorem Ik (σ:GF):∀ks:iO,∃σ',gQ ks (xX σ ks) some=some σ'
 | []=>⟨[],rfl⟩
 |key::ks=>by
  obtain⟨σ',h⟩:=Ik σ ks
  refine⟨(key,Option.casesOn (motive:=fun _=>GV) (AZ σ key) .bad (fun v=>v))::σ',?_⟩
  show gQ ks (xX σ ks) (fun σ'=>some ((key,Option.casesOn (motive:=fun _=>GV) (AZ σ key) .bad (fun v=>v))::σ'))=_
  rw[zC,h];rfl
theorem EW:∀{m i:Nat} {us:List GV} {σ:GF},gQ (List.range' i m) us some=some σ->us.length=m
 |0,i,[],σ,h=>rfl
 |0,i,_::_,σ,h=>by cases h
 |m+1,i,[],σ,h=>by cases h
 |m+1,i,u::us,σ,h=>by
  obtain⟨s,h3,_⟩:=nC (show gQ (List.range' (i+1) m) us (fun σ=>some ((i,u)::σ))=some σ from h)
  simp[EW h3]
theorem HJ {ρ:cK} {n:Nat} {a:Act} (hd:a.defers=[]) (hs:a.tmps.size=n):∀{m i:Nat} {us:List GV} {vs:fP} {σ:GF},lR ρ us vs->(∀j v,vs[j]? = some v->a.tmps[i+j]? = some v)->gQ (List.range' i m) us some=some σ->iQ ρ n σ a
 |0,i,[],vs,σ,_,_,h=>by cases h;exact⟨hd,hs,fun t g hg=>by cases hg⟩
 |0,i,_::_,vs,σ,_,_,h=>by cases h
 |m+1,i,[],vs,σ,_,_,h=>by cases h
 | m + 1, i, u :: us, vs, σ, hr, ha, h => by
  obtain⟨v,vs,rfl,h1,h2⟩:=hr.of_cons
  have h':gQ (List.range' (i+1) m) us (fun σ=>some ((i,u)::σ))=some σ:=h
  obtain⟨s,h3,h4⟩:=nC h'
  cases h4
  have ih:=HJ hd hs h2 (fun j v hv=>by have:=ha (j+1) v (by simpa using hv);rwa[show i+(j+1)=i+1+j by omega]at this) h3
  refine⟨hd,hs,fun t g hg=> ?_⟩
  rw[vR]at hg
  by_cases e:t=i
  ·subst e;rw[if_pos rfl]at hg;cases hg
   have:=ha 0 v rfl
   simp[Act.eval,show a.tmps[t]? = some v by simpa using this,h1]
  ·rw[if_neg e]at hg;exact ih.slot t g hg

def Dp (n:Nat) (o:Oper):Bool:=gK o&&(match o.dst with|none=>true|some d=>Nat.blt d n)&&(FN o.op||(match o.op with|.call c=>(match c.callee with|.value _=>true|_=>false)|_=>false))
section
variable {P:Program} {tb:TB} {gs:tX} {w0:cV gs}
theorem pH {n:Nat} {o:Oper} (h:Dp n o=true):gK o=true∧(∀d,o.dst=some d->d<n)∧(FN o.op=true∨∃c f,o.op = .call c∧c.callee = .value f):=by
 unfold Dp at h
 simp only[Bool.and_eq_true,Bool.or_eq_true]at h
 obtain⟨⟨h1,h2⟩,h3⟩:=h
 refine⟨h1,fun d hd=> ?_,?_⟩
 ·rw[hd]at h2;simpa [Nat.blt_eq]using h2
 ·rcases h3 with h3|h3
  ·exact .inl h3
  ·right
   cases ho:o.op with
   |call c=>
    rw[ho]at h3
    cases hc:c.callee with
    |value f=>exact⟨c,f,rfl,hc⟩
    |invoke x m=>simp only[hc]at h3;cases h3
    |builtin b=>simp only[hc]at h3;cases h3
   |_=>rw[ho]at h3;cases h3
theorem iQ.putD {ρ:cK} {n:Nat} {σ:GF} {a:Act} (F:iQ ρ n σ a) {d:Option Nat} (hd:∀x,d=some x->x<n) {g:GV} {v:Value} (hv:Rl ρ g v):iQ ρ n (putD d g σ) (a.put d v):=by
 cases d with
 |none=>exact⟨F.defers,F.size,F.slot⟩
 |some d=>exact F.put (hd d rfl) hv
theorem Ue {ih:CH} (hG:dK P tb) (hih:oB P w0 ih) {all:List Oper} {n:Nat} {o:Oper} {k:GS->RS} {s:GS} {out:IU} {ρ:cK} {a:Act} {w:World} (ho:Dp n o=true) (F:iQ ρ n s.σ a) (R:dR w0 ρ s.H w) (h:Fp tb ih all o k s=some out):
  (Region.wanted o (yielded all.toArray a.tmps)=true∧∃g H',k ⟨putD o.dst g s.σ,H'⟩=some out∧xM P w0 ρ s.σ a w o g s.H H')∨
  (Region.wanted o (yielded all.toArray a.tmps)=false∧k ⟨putD o.dst .un s.σ,s.H⟩=some out):=by
 obtain⟨h1,h2,h3⟩:=pH ho
 unfold Fp at h
 cases hg:o.guard with
 |none=>
  rw[hg]at h
  obtain⟨g,H',hk,hs⟩:=Lu hG hih F R h3 (show IE tb ih o.op s.σ s.H (YM o.dst s k)=some out from h)
  exact .inl ⟨by simp[Region.wanted,hg],g,H',hk,hs⟩
 | some gd =>
  rw[hg]at h
  obtain⟨oj,hoj,h⟩:=aA.1 (show ob (CV all gd.1) _=some out from h)
  obtain⟨dj,hdj,h⟩:=aA.1 h
  obtain⟨v,hv,h⟩:=aA.1 h
  obtain⟨g,H',hgv,hkk⟩:=kC h
  have hslot:=F.slot dj v hv
  rw[pT]at hoj
  have hy:yielded all.toArray a.tmps gd.1=(match a.tmps[dj]? with|some (.bool b)=>some b|_=>none):=by
   unfold yielded
   have:(all.toArray[gd.1]?).bind (·.dst)=some dj:=by simp[hoj,hdj]
   rw[this];rfl
  cases v with
  | bool q =>
   have he:=hslot.bool_inv
   have hq:a.tmps[dj]? = some (.bool q):=by
    simp only[Act.eval,Array.getD_eq_getD_getElem?]at he
    cases hx:a.tmps[dj]? with
    |none=>rw[hx]at he;cases he
    |some z=>rw[hx]at he;simp at he;rw[he]
   rw[hq]at hy
   have hgv':Bool.casesOn (motive:=fun _=>OR) (MM q gd.2) (some (.un,s.H)) (IE tb ih o.op s.σ s.H DW)=some (g,H'):=hgv
   rw[BF]at hgv'
   have hw:Region.wanted o (yielded all.toArray a.tmps)=(q==gd.2):=by
    simp only[Region.wanted,hg]
    rw[hy]
    cases q<;>cases gd.2<;>rfl
   cases hqb:(q==gd.2)with
   |true=>
    rw[hqb]at hgv'
    obtain⟨g',H'',hk,hs⟩:=Lu hG hih F R h3 (show IE tb ih o.op s.σ s.H DW=some (g,H')from hgv')
    cases hk
    exact .inl ⟨by rw[hw,hqb],g,H',hkk,hs⟩
   |false=>
    rw[hqb]at hgv'
    cases hgv'
    exact .inr ⟨by rw[hw,hqb],hkk⟩
  | un =>
   have he:=hslot.un_inv
   cases hgv
   refine .inr ⟨?_,hkk⟩
   simp only[Region.wanted,hg]
   rw[hy]
   have:(match a.tmps[dj]? with|some (.bool b)=>some b|_=>none)=(none:Option Bool):=by
    simp only[Act.eval,Array.getD_eq_getD_getElem?]at he
    cases hx:a.tmps[dj]? with
    |none=>rfl
    |some z=>rw[hx]at he;simp at he;rw[he];rfl
   rw[this];rfl
  |_=>cases hgv
theorem Cn {ih:CH} (hG:dK P tb) (hih:oB P w0 ih) {all:List Oper} {n:Nat} {k:GS->RS} {out:IU} {Q:Exit->Act->World->Prop}:∀(l:List Oper) (s:GS) (ρ:cK) (a:Act) (w:World),l.all (Dp n)=true->iQ ρ n s.σ a->dR w0 ρ s.H w->Bh tb ih all k l s=some out->
  (∀s' ρ' a' w',k s'=some out->ρ.le ρ'->iQ ρ' n s'.σ a'->dR w0 ρ' s'.H w'->Q .normal a' w')->Sx.wpList P all.toArray Q l a w
 | [],s,ρ,a,w,_,F,R,h,hk=>hk s ρ a w h (cK.le_refl _) F R
 | o :: l, s, ρ, a, w, hl, F, R, h, hk => by
  simp only[List.all_cons,Bool.and_eq_true]at hl
  obtain⟨_,hdst,_⟩:=pH hl.1
  rcases Ue hG hih hl.1 F R (show Fp tb ih all o (Bh tb ih all k l) s=some out from h)with⟨hw,g,H',hk',hs⟩|⟨hw,hk'⟩
  ·refine jR hw ?_
   have fin:∀ρ' w' v,ρ.le ρ'->dR w0 ρ' H' w'->Rl ρ' g v->Sx.wpList P all.toArray Q l (a.put o.dst v) w':=fun ρ' w' v hle R' hv=>
    Cn hG hih l ⟨putD o.dst g s.σ,H'⟩ ρ' _ w' hl.2 ((F.le hle).putD hdst hv) R' hk' (fun s' ρ'' a' w'' h1 h2 h3 h4=>hk s' ρ'' a' w'' h1 (cK.le_trans hle h2) h3 h4)
   rcases hs with⟨_,_,_,rfl,v,hv,hr⟩|⟨_,_,rfl,v,_,_,_,_,_,hv,hr⟩|⟨_,_,rfl,v,hv,hr⟩|⟨_,hr⟩
   ·simp only[Oper.wp,hr w,Oper.upon];exact fin ρ w v (cK.le_refl _) R hv
   ·simp only[Oper.wp,hr w rfl,Oper.upon];exact fin ρ w v (cK.le_refl _) R hv
   ·simp only[Oper.wp,hr,Oper.upon];exact fin ρ w v (cK.le_refl _) R hv
   ·exact FL (hr _ fin)
  ·unfold Sx.wpList
   rw[if_neg (by rw[hw];simp)]
   exact Cn hG hih l ⟨putD o.dst .un s.σ,s.H⟩ ρ _ w hl.2 (F.putD hdst .un) R hk' hk
theorem Cw {l:List Oper} {p:Op->Bool} (h:AQ l p=true) {i j:Nat} {oi oj:Oper} (hi:l[i]? = some oi) (hj:l[j]? = some oj) (hr:p oi.op=true) (hl:cU oj.op=true):before (lQ l) i j=true∨before (lQ l) j i=true:=by
 unfold AQ at h
 have h1:=List.all_eq_true.1 h i (List.mem_range.2 (aU hi))
 simp only[hi,hr,Bool.not_true,Bool.false_or]at h1
 have h2:=List.all_eq_true.1 h1 j (List.mem_range.2 (aU hj))
 simp only[hj,hl,Bool.not_true,Bool.false_or,Bool.or_eq_true]at h2
 exact h2
theorem Kz {α:Type} {H:GH} {h v:Nat} {k:Option α} {out:α} (x:YD H h v k=some out):H.ver h=some v∧k=some out:=by
 obtain⟨u,hu,x⟩:=aA.1 (show ob (H.ver h) _=some out from x)
 cases hb:Nat.beq u v with
 |false=>rw[hb]at x;cases x
 |true=>rw[hb]at x;rw[hu,Nat.eq_of_beq_eq_true hb];exact⟨rfl,x⟩
theorem Ac {m:List Nat} {i:Nat} {H:GH} {u:Unit}:∀{pr:List (Nat×Option (Nat×Nat))},Fg m i H pr=some u->∀p∈pr,before m i p.1=false->∀hv,p.2=some hv->H.ver hv.1=some hv.2
 | [],h=>fun p hp=>by simp at hp
 | p :: pr, h => by
  have h':Bool.casesOn (motive:=fun _=>Option Unit) (before m i p.1) (pck H p.2 (Fg m i H pr)) (Fg m i H pr)=some u:=h
  intro q hq hbq hv he
  cases hb:before m i p.1 with
  | false =>
   rw[hb]at h'
   have h2:(∀hv,p.2=some hv->H.ver hv.1=some hv.2)∧Fg m i H pr=some u:=by
    cases hp2:p.2 with
    |none=>rw[hp2]at h';exact⟨fun _ h=>(by cases h),h'⟩
    |some x=>rw[hp2]at h';obtain⟨h1,h3⟩:=Kz (show YD H x.1 x.2 _=some u from h');exact⟨fun y hy=>by cases hy;exact h1,h3⟩
   rcases List.mem_cons.1 hq with rfl|hq
   ·exact h2.1 hv he
   ·exact Ac h2.2 q hq hbq hv he
  |true=>
   rw[hb]at h'
   rcases List.mem_cons.1 hq with rfl|hq
   ·rw[hb]at hbq;cases hbq
   ·exact Ac h' q hq hbq hv he
theorem Ad {m:List Nat} {i h v:Nat} {e:Option (Nat×Nat)}:∀{hs:List (Nat×GH)},Fh m i h v hs=some e->e=some (h,v)∧∀q∈hs,before m i q.1=false->q.2.ver h=some v
 | [],x=>by cases x;exact⟨rfl,fun p hp=>by simp at hp⟩
 | q :: hs, x => by
  have x':Bool.casesOn (motive:=fun _=>Option (Option (Nat×Nat))) (before m i q.1) (YD q.2 h v (Fh m i h v hs)) (Fh m i h v hs)=some e:=x
  cases hb:before m i q.1 with
  |false=>
   rw[hb]at x'
   obtain⟨h1,h2⟩:=Kz x'
   obtain⟨h3,h4⟩:=Ad h2
   refine⟨h3,fun p hp hbp=> ?_⟩
   rcases List.mem_cons.1 hp with rfl|hp
   ·exact h1
   ·exact h4 p hp hbp
  |true=>
   rw[hb]at x'
   obtain⟨h3,h4⟩:=Ad x'
   refine⟨h3,fun p hp hbp=> ?_⟩
   rcases List.mem_cons.1 hp with rfl|hp
   ·rw[hb]at hbp;cases hbp
   ·exact h4 p hp hbp
end
end
end Go.Gx
end
