/- Models and proofs. Conditions: none. -/
import Derived.Test.YthnplbmmlbnelaaGreatZCJn1
import Derived.Test.YthnplbmmlbnelaaGreatZCJn2
import Derived.Lib.Strings
import Derived.Lib.AppendZeros
import Derived.Laws.CopyRow
import Derived.Laws.StructEq
set_option linter.unusedVariables false
set_option linter.unusedSimpArgs false
set_option maxHeartbeats 4000000
set_option maxRecDepth 20000
section
namespace Go.Gx
open Go Go.Sx
section
noncomputable section
inductive GV where
 |int (k:IntKind) (n:Int)
 |bool (b:Bool)
 |str (n len:Nat)
 |ptr (h off:Nat)
 |pnil
 |sl (h off len sz:Nat)
 |snil
 |map (h:Nat)
 |fn (f:FuncId) (first caps:List GV)
 |fnil
 |inil
 |agg (cs:List GV)
 |tup (vs:List GV)
 |un
 |bad
 |opn (h:Nat)
inductive GO where
 |cells (cs:List GV)
 |mp (es:List (GV×GV))
inductive Tr (α:Type) where
 |lf
 |nd (a:Option α) (l r:Tr α)
def ob {α β:Type} (o:Option α) (f:α->Option β):Option β:=Option.casesOn (motive:=fun _=>Option β) o none f
def Tr.get {α:Type} (t:Tr α):Nat->Option α:=Tr.rec (motive:=fun _=>Nat->Option α) (fun _=>none) (fun a _ _ gl gr n=>Bool.casesOn (motive:=fun _=>Option α) (Nat.beq n 0) (Bool.casesOn (motive:=fun _=>Option α) (Nat.beq (Nat.mod n 2) 1) (gr (Nat.sub (Nat.div n 2) 1)) (gl (Nat.div n 2))) a) t
def Cr {α:Type} (x:Option α) (f:Nat):Nat->Tr α:=Nat.rec (motive:=fun _=>Nat->Tr α) (fun _=> .lf) (fun _ ih n=>bif Nat.beq n 0 then .nd x .lf .lf else bif Nat.beq (Nat.mod n 2) 1 then .nd none (ih (Nat.div n 2)) .lf else .nd none .lf (ih (Nat.sub (Nat.div n 2) 1))) f
def Tr.set {α:Type} (x:Option α) (t:Tr α):Nat->Tr α:=Tr.rec (motive:=fun _=>Nat->Tr α) (fun n=>Cr x (Nat.succ n) n) (fun a l r sl sr n=>Bool.casesOn (motive:=fun _=>Tr α) (Nat.beq n 0) (Bool.casesOn (motive:=fun _=>Tr α) (Nat.beq (Nat.mod n 2) 1) (.nd a l (sr (Nat.sub (Nat.div n 2) 1))) (.nd a (sl (Nat.div n 2)) r)) (.nd x l r)) t
def Fh {α R:Type} (x:Option α) (f:Nat):Nat->(Tr α->R)->R:=Nat.rec (motive:=fun _=>Nat->(Tr α->R)->R) (fun _ k=>k .lf) (fun _ ih n k=>Bool.casesOn (motive:=fun _=>R) (Nat.beq n 0) (Bool.casesOn (motive:=fun _=>R) (Nat.beq (Nat.mod n 2) 1) (ih (Nat.sub (Nat.div n 2) 1) fun t=>k (.nd none .lf t)) (ih (Nat.div n 2) fun t=>k (.nd none t .lf))) (k (.nd x .lf .lf))) f
def Tr.setK {α R:Type} (x:Option α) (t:Tr α):Nat->(Tr α->R)->R:=Tr.rec (motive:=fun _=>Nat->(Tr α->R)->R) (fun n k=>Fh x (Nat.succ n) n k) (fun a l r sl sr n k=>Bool.casesOn (motive:=fun _=>R) (Nat.beq n 0) (Bool.casesOn (motive:=fun _=>R) (Nat.beq (Nat.mod n 2) 1) (sr (Nat.sub (Nat.div n 2) 1) fun t=>k (.nd a l t)) (sl (Nat.div n 2) fun t=>k (.nd a t r))) (k (.nd x l r))) t
def sn {α:Type} (n:Nat) (f:Nat->α):α:=Nat.rec (motive:=fun _=>α) (f 0) (fun m _=>f (Nat.succ m)) n
def fi {α:Type} (z:Int) (f:Int->α):α:=Int.casesOn (motive:=fun _=>α) z (fun a=>sn a fun a=>f (.ofNat a)) (fun a=>sn a fun a=>f (.negSucc a))
def fb (b:Bool):Option GV:=Bool.casesOn (motive:=fun _=>Option GV) b (some (.bool false)) (some (.bool true))
structure GH where
 n:Nat
 t:Tr (Nat×GO)
def GH.get (H:GH) (h:Nat):Option GO:=ob (H.t.get h) fun p=>some p.2
def GH.ver (H:GH) (h:Nat):Option Nat:=ob (H.t.get h) fun p=>some p.1
def GH.set (H:GH) (h:Nat) (o:GO):GH:=⟨Nat.succ H.n,H.t.set (some (H.n,o)) h⟩
def GH.del (H:GH) (h:Nat):GH:=⟨H.n,H.t.set none h⟩
def GH.newK {α:Type} (H:GH) (o:GO) (f:Nat->GH->α):α:=sn H.n fun n=>H.t.setK (some (n,o)) n fun t=>sn (Nat.succ n) fun m=>f n ⟨m,t⟩
def GH.setK {α:Type} (H:GH) (h:Nat) (o:GO) (f:GH->α):α:=sn H.n fun n=>H.t.setK (some (n,o)) h fun t=>sn (Nat.succ n) fun m=>f ⟨m,t⟩
def GH.delK {α:Type} (H:GH) (h:Nat) (f:GH->α):α:=H.t.setK none h fun t=>f ⟨H.n,t⟩
def Ut (o:GO):Option (List GV):=GO.casesOn (motive:=fun _=>Option (List GV)) o (fun cs=>some cs) (fun _=>none)
def GO.asM (o:GO):Option (List (GV×GV)):=GO.casesOn (motive:=fun _=>Option (List (GV×GV))) o (fun _=>none) (fun es=>some es)
def GH.cells (H:GH) (h:Nat):Option (List GV):=ob (H.get h) Ut
abbrev GF:=List (Nat×GV)
def Eo (σ:GF) (t:Nat):Option GV:=List.rec (motive:=fun _=>Option GV) none (fun p _ ih=>Bool.casesOn (motive:=fun _=>Option GV) (Nat.beq t p.1) ih (some p.2)) σ
def VB (a b:Int):Bool:=Int.casesOn (motive:=fun _=>Bool) a (fun a=>Int.casesOn (motive:=fun _=>Bool) b (fun b=>Nat.blt a b) (fun _=>false)) (fun a=>Int.casesOn (motive:=fun _=>Bool) b (fun _=>true) (fun b=>Nat.blt b a))
def Wk (a b:Int):Bool:=Int.casesOn (motive:=fun _=>Bool) a (fun a=>Int.casesOn (motive:=fun _=>Bool) b (fun b=>Nat.beq a b) (fun _=>false)) (fun a=>Int.casesOn (motive:=fun _=>Bool) b (fun _=>false) (fun b=>Nat.beq a b))
def UB (a:Int):Option Nat:=Int.casesOn (motive:=fun _=>Option Nat) a (fun a=>some a) (fun _=>none)
def Sw (a b:Nat×Nat):Bool:=bif Nat.beq a.2 b.2 then Nat.beq a.1 b.1 else false
def NV (a b:Bool):Bool:=Bool.casesOn (motive:=fun _=>Bool) a (Bool.casesOn (motive:=fun _=>Bool) b true false) b
def Ga {α:Type} (l:List α):Nat->Option α:=List.rec (motive:=fun _=>Nat->Option α) (fun _=>none) (fun x _ ih n=>Nat.casesOn (motive:=fun _=>Option α) n (some x) ih) l
def TC {α:Type} (v:α) (l:List α):Nat->Option (List α):=List.rec (motive:=fun _=>Nat->Option (List α)) (fun _=>none) (fun x r ih n=>Nat.casesOn (motive:=fun _=>Option (List α)) n (some (v::r)) (fun n=>ob (ih n) fun r'=>some (x::r'))) l
def Fy (vs:List GV):Nat->List GV->Option (List GV):=List.rec (motive:=fun _=>Nat->List GV->Option (List GV)) (fun _ cs=>some cs) (fun v _ ih o cs=>ob (TC v cs o) fun cs'=>sn (Nat.succ o) fun o'=>ih o' cs') vs
def tk {α:Type} (l:List α):Nat->Option (List α):=List.rec (motive:=fun _=>Nat->Option (List α)) (fun n=>Nat.casesOn (motive:=fun _=>Option (List α)) n (some []) (fun _=>none)) (fun x _ ih n=>Nat.casesOn (motive:=fun _=>Option (List α)) n (some []) (fun n=>ob (ih n) fun r=>some (x::r))) l
def dp {α:Type} (l:List α):Nat->Option (List α):=List.rec (motive:=fun _=>Nat->Option (List α)) (fun n=>Nat.casesOn (motive:=fun _=>Option (List α)) n (some []) (fun _=>none)) (fun x r ih n=>Nat.casesOn (motive:=fun _=>Option (List α)) n (some (x::r)) ih) l
def Wq {α:Type} (l:List α) (o n:Nat):Option (List α):=ob (dp l o) fun r=>tk r n
def mQ (l:List UInt8):Nat:=List.rec (motive:=fun _=>Nat) 0 (fun b _ ih=>Nat.add b.toNat (Nat.mul 256 ih)) l
def cM (s:ByteArray):List UInt8:=s.data.toList
def GV.asI (v:GV):Option (IntKind×Int):=GV.casesOn (motive_1:=fun _=>Option (IntKind×Int)) v (fun a0 a1=>some (a0,a1)) (fun _=>none) (fun _ _=>none) (fun _ _=>none) none (fun _ _ _ _=>none) none (fun _=>none) (fun _ _ _=>none) none none (fun _=>none) (fun _=>none) none none (fun _=>none)
def GV.asB (v:GV):Option (Bool):=GV.casesOn (motive_1:=fun _=>Option (Bool)) v (fun _ _=>none) (fun a0=>some a0) (fun _ _=>none) (fun _ _=>none) none (fun _ _ _ _=>none) none (fun _=>none) (fun _ _ _=>none) none none (fun _=>none) (fun _=>none) none none (fun _=>none)
def GV.asP (v:GV):Option (Nat×Nat):=GV.casesOn (motive_1:=fun _=>Option (Nat×Nat)) v (fun _ _=>none) (fun _=>none) (fun _ _=>none) (fun a0 a1=>some (a0,a1)) none (fun _ _ _ _=>none) none (fun _=>none) (fun _ _ _=>none) none none (fun _=>none) (fun _=>none) none none (fun _=>none)
def GV.asS (v:GV):Option (Nat×Nat×Nat×Nat):=GV.casesOn (motive_1:=fun _=>Option (Nat×Nat×Nat×Nat)) v (fun _ _=>none) (fun _=>none) (fun _ _=>none) (fun _ _=>none) none (fun a0 a1 a2 a3=>some (a0,a1,a2,a3)) none (fun _=>none) (fun _ _ _=>none) none none (fun _=>none) (fun _=>none) none none (fun _=>none)
def GV.asF (v:GV):Option (Nat×List GV×List GV):=GV.casesOn (motive_1:=fun _=>Option (Nat×List GV×List GV)) v (fun _ _=>none) (fun _=>none) (fun _ _=>none) (fun _ _=>none) none (fun _ _ _ _=>none) none (fun _=>none) (fun a0 a1 a2=>some (a0,a1,a2)) none none (fun _=>none) (fun _=>none) none none (fun _=>none)
def GV.asT (v:GV):Option (List GV):=GV.casesOn (motive_1:=fun _=>Option (List GV)) v (fun _ _=>none) (fun _=>none) (fun _ _=>none) (fun _ _=>none) none (fun _ _ _ _=>none) none (fun _=>none) (fun _ _ _=>none) none none (fun _=>none) (fun a0=>some a0) none none (fun _=>none)
def GV.asStr (v:GV):Option (Nat×Nat):=GV.casesOn (motive_1:=fun _=>Option (Nat×Nat)) v (fun _ _=>none) (fun _=>none) (fun a0 a1=>some (a0,a1)) (fun _ _=>none) none (fun _ _ _ _=>none) none (fun _=>none) (fun _ _ _=>none) none none (fun _=>none) (fun _=>none) none none (fun _=>none)
def GV.asM (v:GV):Option (Nat):=GV.casesOn (motive_1:=fun _=>Option (Nat)) v (fun _ _=>none) (fun _=>none) (fun _ _=>none) (fun _ _=>none) none (fun _ _ _ _=>none) none (fun a0=>some a0) (fun _ _ _=>none) none none (fun _=>none) (fun _=>none) none none (fun _=>none)
def GV.asA (v:GV):Option (List GV):=GV.casesOn (motive_1:=fun _=>Option (List GV)) v (fun _ _=>none) (fun _=>none) (fun _ _=>none) (fun _ _=>none) none (fun _ _ _ _=>none) none (fun _=>none) (fun _ _ _=>none) none none (fun a0=>some a0) (fun _=>none) none none (fun _=>none)
def GV.cells (v:GV):Option (List GV):=GV.casesOn (motive_1:=fun _=>Option (List GV)) v (fun a0 a1=>some [GV.int a0 a1]) (fun a0=>some [GV.bool a0]) (fun a0 a1=>some [GV.str a0 a1]) (fun a0 a1=>some [GV.ptr a0 a1]) (some [GV.pnil]) (fun a0 a1 a2 a3=>some [GV.sl a0 a1 a2 a3]) (some [GV.snil]) (fun a0=>some [GV.map a0]) (fun a0 a1 a2=>some [GV.fn a0 a1 a2]) (some [GV.fnil]) (some [GV.inil]) (fun a0=>some a0) (fun a0=>none) (none) (none) (fun a0=>none)
def GV.isSnil (v:GV):Bool:=GV.casesOn (motive_1:=fun _=>Bool) v (fun _ _=>false) (fun _=>false) (fun _ _=>false) (fun _ _=>false) (false) (fun _ _ _ _=>false) (true) (fun _=>false) (fun _ _ _=>false) (false) (false) (fun _=>false) (fun _=>false) (false) (false) (fun _=>false)
def GV.isInil (v:GV):Bool:=GV.casesOn (motive_1:=fun _=>Bool) v (fun _ _=>false) (fun _=>false) (fun _ _=>false) (fun _ _=>false) (false) (fun _ _ _ _=>false) (false) (fun _=>false) (fun _ _ _=>false) (false) (true) (fun _=>false) (fun _=>false) (false) (false) (fun _=>false)
def GV.nilck (v:GV):Option GV:=GV.casesOn (motive_1:=fun _=>Option GV) v (fun a0 a1=>none) (fun a0=>none) (fun a0 a1=>none) (fun a0 a1=>some (GV.ptr a0 a1)) (none) (fun a0 a1 a2 a3=>none) (none) (fun a0=>none) (fun a0 a1 a2=>some (GV.fn a0 a1 a2)) (none) (none) (fun a0=>none) (fun a0=>none) (none) (none) (fun a0=>none)
def tdE (d:TypeDesc):Bool:=TypeDesc.casesOn (motive:=fun _=>Bool) d false false (fun _=>false) (fun _=>false) (fun _=>false) false false (fun _=>false) (fun _=>false) (fun _ _=>false) (fun _ _=>false) (fun _ _=>false) (fun _=>false) (fun _ _ _=>false) (fun a0=>Nat.beq (Array.size a0) 0) (fun _=>false) (fun _ _=>false)
def SA (d:TypeDesc):Option TypeId:=TypeDesc.casesOn (motive:=fun _=>Option TypeId) d none none (fun _=>none) (fun _=>none) (fun _=>none) none none (fun _=>none) (fun a0=>some a0) (fun _ _=>none) (fun _ _=>none) (fun _ _=>none) (fun _=>none) (fun _ _ _=>none) (fun _=>none) (fun _=>none) (fun _ _=>none)
def Wc (d:TypeDesc):Option (Nat×TypeId):=TypeDesc.casesOn (motive:=fun _=>Option (Nat×TypeId)) d none none (fun _=>none) (fun _=>none) (fun _=>none) none none (fun _=>none) (fun _=>none) (fun a0 a1=>some (a0,a1)) (fun _ _=>none) (fun _ _=>none) (fun _=>none) (fun _ _ _=>none) (fun _=>none) (fun _=>none) (fun _ _=>none)
def XN (d:TypeDesc):Option (Array Field):=TypeDesc.casesOn (motive:=fun _=>Option (Array Field)) d none none (fun _=>none) (fun _=>none) (fun _=>none) none none (fun _=>none) (fun _=>none) (fun _ _=>none) (fun _ _=>none) (fun _ _=>none) (fun a0=>some a0) (fun _ _ _=>none) (fun _=>none) (fun _=>none) (fun _ _=>none)
def Sy (d:TypeDesc):Option IntKind:=TypeDesc.casesOn (motive:=fun _=>Option IntKind) d none none (fun a0=>some a0) (fun _=>none) (fun _=>none) none none (fun _=>none) (fun _=>none) (fun _ _=>none) (fun _ _=>none) (fun _ _=>none) (fun _=>none) (fun _ _ _=>none) (fun _=>none) (fun _=>none) (fun _ _=>none)
def GZ (d:TypeDesc):Bool:=TypeDesc.casesOn (motive:=fun _=>Bool) d false false (fun _=>false) (fun _=>false) (fun _=>false) (true) false (fun _=>false) (fun _=>false) (fun _ _=>false) (fun _ _=>false) (fun _ _=>false) (fun _=>false) (fun _ _ _=>false) (fun _=>false) (fun _=>false) (fun _ _=>false)
def Xy (d:TypeDesc):Bool:=TypeDesc.casesOn (motive:=fun _=>Bool) d false (true) (fun _=>false) (fun _=>false) (fun _=>false) false false (fun _=>false) (fun _=>false) (fun _ _=>false) (fun _ _=>false) (fun _ _=>false) (fun _=>false) (fun _ _ _=>false) (fun _=>false) (fun _=>false) (fun _ _=>false)
def tdM (d:TypeDesc):Option (TypeId×TypeId):=TypeDesc.casesOn (motive:=fun _=>Option (TypeId×TypeId)) d none none (fun _=>none) (fun _=>none) (fun _=>none) none none (fun _=>none) (fun _=>none) (fun _ _=>none) (fun a0 a1=>some (a0,a1)) (fun _ _=>none) (fun _=>none) (fun _ _ _=>none) (fun _=>none) (fun _=>none) (fun _ _=>none)
def Py:Value->Option GV
 | .int k n=>some (.int k n)
 | .bool b=>some (.bool b)
 | .slice none 0 0=>some .snil
 | .pointer none=>some .pnil
 | .nilFunc=>some .fnil
 | .nilIface=>some .inil
 | .string s=>sn (mQ (cM s)) fun n=>sn (cM s).length fun l=>some (.str n l)
 |_=>none
def TE:lR->Option (List GV)
 | []=>some []
 |v::vs=>ob (Py v) fun x=>ob (TE vs) fun xs=>some (x::xs)
def WR:Value->Option GV
 | .agg cs=>ob (TE cs.toList) fun xs=>some (.agg xs)
 |v=>Py v
def Gu (s:Sem Value):Option GV:=match s with
 | .pure v=>Py v
 |_=>none
def Rh (z:Int):Bool:=Int.casesOn (motive:=fun _=>Bool) z (fun a=>Nat.blt a 9223372036854775808) (fun a=>Nat.blt a 9223372036854775808)
def Ug (k:IntKind):Bool:=IntKind.casesOn (motive:=fun _=>Bool) k false false false true false false false false
def gw (k:IntKind) (z:Int):Option GV:=fi z fun z=>bif Ug k then(bif Rh z then some (.int k z)else none)else fi (k.wrap z) fun z=>some (.int k z)
def Wl (a b:IntKind):Bool:=decide (a=b)
def WB (op:BinOp) (k:IntKind) (a b:Int):Option GV:=BinOp.casesOn (motive:=fun _=>Option GV) op (gw k (a+b)) (gw k (a - b)) (Gu (binOp .mul 0 (.int k a) (.int k b))) (Gu (binOp .quo 0 (.int k a) (.int k b))) (Gu (binOp .rem 0 (.int k a) (.int k b))) (Gu (binOp .and 0 (.int k a) (.int k b))) (Gu (binOp .or 0 (.int k a) (.int k b))) (Gu (binOp .xor 0 (.int k a) (.int k b))) (Gu (binOp .shl 0 (.int k a) (.int k b))) (Gu (binOp .shr 0 (.int k a) (.int k b))) (Gu (binOp .andNot 0 (.int k a) (.int k b))) (fb (Wk a b)) (fb (!Wk a b)) (fb (VB a b)) (fb (!VB b a)) (fb (VB b a)) (fb (!VB a b))
def Hp (op:BinOp):Bool:=BinOp.casesOn (motive:=fun _=>Bool) op false false false false false false false false true true false false false false false false false
def Vi (a b:Nat×Nat):Option GV:=bif Nat.blt (Nat.add a.2 b.2) 16777216 then sn (Nat.add a.1 (Nat.mul (Nat.pow 2 (Nat.mul 8 a.2)) b.1)) fun n=>sn (Nat.add a.2 b.2) fun l=>some (.str n l)else none
def Yu (op:BinOp) (a b:Nat×Nat):Option GV:=BinOp.casesOn (motive:=fun _=>Option GV) op (Vi a b) none none none none none none none none none none (fb (Sw a b)) (fb (!Sw a b)) none none none none
def Yt (op:BinOp):Option GV:=BinOp.casesOn (motive:=fun _=>Option GV) op none none none none none none none none none none none (some (.bool true)) (some (.bool false)) none none none none
def SL (op:BinOp) (a b:Bool):Option GV:=BinOp.casesOn (motive:=fun _=>Option GV) op none none none none none none none none none none none (fb (NV a b)) (fb (!NV a b)) none none none none
def kB (σ:GF) (o:Operand):Option GV:=Operand.casesOn (motive:=fun _=>Option GV) o (fun t=>Eo σ t) WR (fun _=>none) (fun f=>some (.fn f [] []))
def EU (σ:GF) (l:List Operand):Option (List GV):=List.rec (motive:=fun _=>Option (List GV)) (some []) (fun x _ ih=>ob (kB σ x) fun v=>ob ih fun vs=>some (v::vs)) l
def uX (σ:GF) (l:List (Nat×Operand)):Option (List (Nat×GV)):=List.rec (motive:=fun _=>Option (List (Nat×GV))) (some []) (fun p _ ih=>ob (kB σ p.2) fun v=>ob ih fun vs=>some ((p.1,v)::vs)) l
abbrev TB:=Nat->Option Ty
def AH (tb:TB) (T:TypeId):Option (TypeId×Ty):=ob (tb T) fun t=>ob (SA t.desc) fun e=>ob (tb e) fun te=>some (e,te)
def KE (tb:TB) (l:List Field):Option (List (Nat×Nat)):=List.rec (motive:=fun _=>Option (List (Nat×Nat))) (some []) (fun f _ ih=>ob (tb f.type) fun t=>ob ih fun r=>some ((f.offset,t.size)::r)) l
def rI (tb:TB) (T:TypeId):Option (List Field):=ob (tb T) fun t=>ob (XN t.desc) fun fs=>some fs.toList
def LE (tb:TB) (T:TypeId):Option (List (Nat×Nat)):=ob (rI tb T) fun fs=>KE tb fs
abbrev OR:=Option (GV×GH)
def qS (c a b:GV):Option GV:=ob c.asB fun q=>Bool.casesOn (motive:=fun _=>Option GV) q (some b) (some a)
def Tq (v:GV):Option Nat:=bif v.isSnil then some 0 else ob v.asS fun s=>some s.2.2.1
def Ng (t:Ty) (a b:GV):Option Bool:=Option.casesOn (motive:=fun _=>Option Bool) a.asI (Option.casesOn (motive:=fun _=>Option Bool) a.asStr (ob a.asB fun x=>ob b.asB fun y=>bif Xy t.desc then some (NV x y)else none) fun x=>ob b.asStr fun y=>bif GZ t.desc then some (Sw x y)else none) fun x=>ob b.asI fun y=>ob (Sy t.desc) fun _=>bif Wl x.1 y.1 then some (Wk x.2 y.2)else none
def Tg (tb:TB) (cs ds:List GV) (fs:List Field):Option Bool:=List.rec (motive:=fun _=>Option Bool) (some true) (fun f _ ih=>ob (tb f.type) fun t=>ob (Ga cs f.offset) fun a=>ob (Ga ds f.offset) fun b=>ob (Ng t a b) fun q=>bif q then ih else some false) fs
def Ew (t:Ty):Bool:=bif Xy t.desc then true else bif GZ t.desc then true else Option.casesOn (motive:=fun _=>Bool) (Sy t.desc) false fun _=>true
def xW (tb:TB) (fs:List Field):Bool:=List.rec (motive:=fun _=>Bool) true (fun f _ ih=>Option.casesOn (motive:=fun _=>Bool) (tb f.type) false fun t=>bif Ew t then ih else false) fs
def Jg (T:Nat):Bool:=bif Nat.blt 31 T then Nat.blt T 512 else false
def Si (tb:TB) (op:BinOp) (T:TypeId) (v u:GV):Option GV:=Option.casesOn (motive:=fun _=>Option GV) v.asA (bif u.isSnil then ob (Tq v) fun _=>ob (tb T) fun t=>ob (SA t.desc) fun _=>SL op v.isSnil true else none) fun cs=>ob u.asA fun ds=>bif Jg T then ob (rI tb T) fun fs=>bif xW tb fs then ob (Tg tb cs ds fs) fun q=>SL op q true else none else none
def Bt (tb:TB) (op:BinOp) (T:TypeId) (v u:GV):Option GV:=
 Option.casesOn (motive:=fun _=>Option GV) v.asI
  (Option.casesOn (motive:=fun _=>Option GV) v.asStr (Option.casesOn (motive:=fun _=>Option GV) v.asB (bif v.isInil then(bif u.isInil then ob (tb T) fun t=>bif tdE t.desc then Yt op else none else none)else Si tb op T v u) fun a=>ob u.asB fun b=>ob (tb T) fun t=>bif Xy t.desc then SL op a b else none) fun a=>ob u.asStr fun b=>Yu op a b)
  fun a=>ob u.asI fun b=>bif Hp op then Gu (binOp op 0 (.int a.1 a.2) (.int b.1 b.2))else bif Wl a.1 b.1 then WB op a.1 a.2 b.2 else none
def PO (op:UnOp) (v:GV):Option GV:=UnOp.casesOn (motive:=fun _=>Option GV) op (ob v.asI fun a=>gw a.1 (0 - a.2)) none (ob v.asB fun b=>fb (!b)) none
def Uo (tb:TB) (S D:TypeId) (v:GV):Option GV:=ob v.asI fun a=>ob (tb S) fun s=>ob (Sy s.desc) fun _=>ob (tb D) fun t=>ob (Sy t.desc) fun k=>fi (k.wrap a.2) fun z=>some (.int k z)
def vB (o:Option GV) (d:Nat):Option Nat:=Option.casesOn (motive:=fun _=>Option Nat) o (some d) fun v=>ob v.asI fun a=>UB a.2
def TZ (s:Nat×Nat) (l h:Nat):Option GV:=bif Nat.ble l h then(bif Nat.ble h s.2 then sn (Nat.mod (Nat.shiftRight s.1 (Nat.mul 8 l)) (Nat.pow 2 (Nat.mul 8 (Nat.sub h l)))) fun n=>sn (Nat.sub h l) fun k=>some (.str n k)else none)else none
def TX (s:Nat×Nat×Nat×Nat) (sz l h:Nat):Option GV:=bif Nat.beq sz s.2.2.2 then(bif Nat.ble l h then(bif Nat.ble h s.2.2.1 then sn (Nat.add s.2.1 (Nat.mul l sz)) fun o=>sn (Nat.sub h l) fun k=>some (.sl s.1 o k sz)else none)else none)else none
def TY (p:Nat×Nat) (n sz l h:Nat):Option GV:=bif Nat.ble l h then(bif Nat.ble h n then(bif Nat.beq sz 0 then none else sn (Nat.add p.2 (Nat.mul l sz)) fun o=>sn (Nat.sub h l) fun k=>some (.sl p.1 o k sz))else none)else none
def CU (tb:TB) (T:TypeId) (v:GV) (lo hi:Option GV) (H:GH):Option GV:=ob (vB lo 0) fun l=>ob (tb T) fun t=>
 Option.casesOn (motive:=fun _=>Option GV) v.asStr
  (Option.casesOn (motive:=fun _=>Option GV) v.asS
   (Bool.casesOn (motive:=fun _=>Option GV) v.isSnil (ob v.asP fun p=>ob (Wc t.desc) fun e=>ob (tb e.2) fun te=>ob (vB hi e.1) fun h=>ob (H.cells p.1) fun cs=>bif Nat.ble (Nat.add p.2 (Nat.mul e.1 te.size)) cs.length then TY p e.1 te.size l h else none) (ob (SA t.desc) fun e=>ob (tb e) fun te=>ob (vB hi 0) fun h=>bif Nat.beq l 0 then(bif Nat.beq h 0 then some .snil else none)else none))
   fun s=>ob (SA t.desc) fun e=>ob (tb e) fun te=>ob (vB hi s.2.2.1) fun h=>TX s te.size l h)
  fun s=>ob (vB hi s.2) fun h=>bif GZ t.desc then TZ s l h else none
def CS (tb:TB) (T:TypeId) (f:Nat) (v:GV):Option GV:=ob v.asP fun p=>ob (rI tb T) fun fs=>ob (Ga fs f) fun q=>ob (tb q.type) fun tq=>bif Nat.beq tq.size 0 then none else sn (Nat.add p.2 q.offset) fun o=>some (.ptr p.1 o)
def BA (t:Ty) (cs:List GV) (o:Nat):Option GV:=bif Bb t.desc then ob (Wq cs o t.size) fun r=>some (.agg r)else Ga cs o
def Up (tb:TB) (T:TypeId) (f:Nat) (v:GV):Option GV:=ob v.asA fun cs=>ob (rI tb T) fun fs=>ob (Ga fs f) fun q=>ob (tb q.type) fun tq=>BA tq cs q.offset
def TV (tb:TB) (T:TypeId) (s:Nat×Nat×Nat×Nat) (i:Nat):Option GV:=ob (AH tb T) fun te=>bif Nat.blt i s.2.2.1 then sn (Nat.add s.2.1 (Nat.mul i te.2.size)) fun o=>some (.ptr s.1 o)else none
def TU (tb:TB) (T:TypeId) (p:Nat×Nat) (i:Nat):Option GV:=ob (tb T) fun t=>ob (Wc t.desc) fun e=>ob (tb e.2) fun te=>bif Nat.blt i e.1 then sn (Nat.add p.2 (Nat.mul i te.size)) fun o=>some (.ptr p.1 o)else none
def NB (tb:TB) (T:TypeId) (v w:GV):Option GV:=ob w.asI fun n=>ob (UB n.2) fun n=>Option.casesOn (motive:=fun _=>Option GV) v.asP (ob v.asS fun s=>TV tb T s n) fun p=>TU tb T p n
def Um (tb:TB) (T:TypeId) (v w:GV):Option GV:=ob v.asStr fun s=>ob w.asI fun n=>ob (UB n.2) fun n=>ob (tb T) fun t=>bif GZ t.desc then(bif Nat.blt n s.2 then sn (Nat.mod (Nat.shiftRight s.1 (Nat.mul 8 n)) 256) fun b=>some (.int .u8 (.ofNat b))else none)else none
def We (i:Nat) (v:GV):Option GV:=ob v.asT fun vs=>Ga vs i
def MX (ps:FZ) (l:List (Nat×GV)):List GV->Option (List GV):=List.rec (motive:=fun _=>List GV->Option (List GV)) (fun cs=>some cs) (fun p _ ih cs=>ob (Ga ps p.1) fun q=>ob p.2.cells fun cc=>bif Nat.beq cc.length q.2 then(bif Nat.beq q.2 0 then none else ob (Fy cc q.1 cs) ih)else none) l
def Gn (sz:Nat) (l:List (Nat×GV)):List GV->Option (List GV):=List.rec (motive:=fun _=>List GV->Option (List GV)) (fun cs=>some cs) (fun p _ ih cs=>ob p.2.cells fun cc=>bif Nat.beq cc.length sz then(bif Nat.beq sz 0 then none else ob (Fy cc (Nat.mul p.1 sz) cs) ih)else none) l
def BP (tb:TB) (T:TypeId):Option (List GV):=ob (tb T) fun t=>ob (WR t.zero) fun z=>z.cells
def Nz (tb:TB) (T:TypeId) (vs:List (Nat×GV)):Option GV:=ob (tb T) fun t=>ob (BP tb T) fun zc=>Option.casesOn (motive:=fun _=>Option GV) (XN t.desc) (ob (Wc t.desc) fun e=>ob (tb e.2) fun te=>ob (Gn te.size vs zc) fun cs=>some (.agg cs)) fun _=>ob (LE tb T) fun pl=>ob (MX pl vs zc) fun cs=>some (.agg cs)
def NC (tb:TB) (T:TypeId) (v:GV):Option GV:=ob (tb T) fun t=>Option.casesOn (motive:=fun _=>Option GV) v.asStr (ob (SA t.desc) fun _=>ob (Tq v) fun n=>some (.int .i64 (.ofNat n))) fun s=>bif GZ t.desc then some (.int .i64 (.ofNat s.2))else none
def XC (tb:TB) (T:TypeId) (v:GV):Option GV:=ob (tb T) fun t=>ob (SA t.desc) fun _=>bif v.isSnil then some (.int .i64 (.ofNat 0))else none
def Sq (v u:GV):Option GV:=ob v.asI fun a=>ob u.asI fun b=>bif Wl a.1 b.1 then(bif VB a.2 b.2 then some u else some v)else none
def TW (v u:GV):Option GV:=ob v.asI fun a=>ob u.asI fun b=>bif Wl a.1 b.1 then(bif VB b.2 a.2 then some u else some v)else none
def xO (tb:TB) (T:TypeId) (v:GV) (H:GH):Option GV:=ob v.asP fun p=>ob (H.cells p.1) fun cs=>ob (tb T) fun t=>BA t cs p.2
def uB (tb:TB) (T:TypeId) (v u:GV) (H:GH):OR:=ob v.asP fun p=>ob (H.cells p.1) fun cs=>ob (tb T) fun t=>ob u.cells fun uc=>bif Nat.beq uc.length t.size then bif Nat.beq t.size 0 then none else ob (Fy uc p.2 cs) fun cs'=>H.setK p.1 (.cells cs') fun H'=>some (.un,H')else none
def F_ (v:GV) (H:GH):OR:=ob v.cells fun vc=>H.newK (.cells vc) fun h H'=>some (.ptr h 0,H')
def sN (tb:TB) (T:TypeId) (H:GH):OR:=ob (BP tb T) fun zc=>H.newK (.cells zc) fun h H'=>some (.ptr h 0,H')
def Mq (z:List GV) (n:Nat):List GV:=Nat.rec (motive:=fun _=>List GV) [] (fun _ ih=>z++ih) n
def fc {R:Type} (a:List GV):(List GV->R)->R:=List.rec (motive:=fun _=>(List GV->R)->R) (fun k=>k []) (fun x _ ih k=>ih fun r=>k (x::r)) a
def AY (tb:TB) (T:TypeId) (n:Nat) (vs:List (Nat×GV)) (H:GH):OR:=ob (AH tb T) fun te=>ob (BP tb te.1) fun zc=>bif Nat.beq zc.length te.2.size then(bif Nat.blt (Nat.mul n te.2.size) 16777216 then(bif Nat.beq te.2.size 0 then none else ob (Gn te.2.size vs (Mq zc n)) fun cs=>H.newK (.cells cs) fun h H'=>some (.sl h 0 n te.2.size,H'))else none)else none
def Mb (tb:TB) (T:TypeId) (v u:GV) (H:GH):OR:=ob (AH tb T) fun te=>ob (BP tb te.1) fun zc=>ob v.asI fun k=>ob u.asI fun c=>bif Wk k.2 c.2 then ob (UB k.2) fun k=>(bif Nat.beq zc.length te.2.size then(bif Nat.blt (Nat.mul k te.2.bytes) 16777216 then(bif Nat.blt k 16777216 then(bif Nat.beq te.2.size 0 then none else fc (Mq zc k) fun l=>H.newK (.cells l) fun h H'=>some (.sl h 0 k te.2.size,H'))else none)else none)else none)else none
def lap {R:Type} (a b:List GV):(List GV->R)->R:=List.rec (motive:=fun _=>(List GV->R)->R) (fun k=>k b) (fun x _ ih k=>ih fun r=>k (x::r)) a
def AQ (H:GH) (sz:Nat) (v:GV):Option (Nat×List GV):=bif v.isSnil then some (0,[])else ob v.asS fun s=>bif Nat.beq s.2.2.2 sz then ob (H.cells s.1) fun cs=>ob (Wq cs s.2.1 (Nat.mul s.2.2.1 sz)) fun r=>some (s.2.2.1,r)else none
def MQ (H:GH) (v:GV):GH:=Option.casesOn (motive:=fun _=>GH) v.asS H fun s=>H.del s.1
def QS (H:GH) (v:GV) (f:GH->OR):OR:=Option.casesOn (motive:=fun _=>OR) v.asS (f H) fun s=>H.delK s.1 f
def Se (tb:TB) (T T':TypeId) (v u:GV) (H:GH):OR:=bif v.isSnil then ob (AH tb T) fun te=>ob (tb T') fun t'=>ob (Sy t'.desc) fun _=>ob (BP tb te.1) fun zc=>ob u.asI fun k=>ob (UB k.2) fun n=>bif Nat.beq zc.length te.2.size then(bif Nat.blt (Nat.mul n (Nat.add te.2.bytes 1)) 16777216 then(bif Nat.beq te.2.size 0 then none else(bif Nat.beq n 0 then none else fc (Mq zc n) fun l=>H.newK (.cells l) fun h H'=>some (.sl h 0 n te.2.size,H')))else none)else none else none
def PK (tb:TB) (T T':TypeId) (v u:GV) (H:GH):OR:=bif Nat.beq T T' then ob (AH tb T) fun te=>bif Nat.beq te.2.size 0 then none else ob (BP tb te.1) fun zc=>bif Nat.beq zc.length te.2.size then ob (AQ H te.2.size v) fun p=>ob (AQ H te.2.size u) fun q=>Nat.casesOn (motive:=fun _=>OR) q.1 (some (v,H)) (fun _=>sn (Nat.add p.1 q.1) fun n=>bif Nat.blt (Nat.mul n (Nat.add te.2.bytes 1)) 16777216 then lap p.2 q.2 fun l=>QS H v fun H1=>H1.newK (.cells l) fun h H'=>some (.sl h 0 n te.2.size,H')else none)else none else Se tb T T' v u H
def Sk (tb:TB) (T:TypeId) (v u:GV) (H:GH):OR:=ob v.asS fun s=>ob u.asS fun r=>ob (AH tb T) fun te=>bif Nat.beq s.2.2.2 te.2.size then(bif Nat.beq r.2.2.2 te.2.size then(bif Nat.beq r.2.2.1 s.2.2.1 then ob (H.cells r.1) fun cs=>ob (Wq cs r.2.1 (Nat.mul r.2.2.1 te.2.size)) fun xs=>ob (H.cells s.1) fun ds=>List.casesOn (motive:=fun _=>OR) xs none (fun _ _=>ob (Fy xs s.2.1 ds) fun ds'=>H.setK s.1 (.cells ds') fun H'=>some (.int .i64 (.ofNat r.2.2.1),H'))else none)else none)else none
def Cm (H:GH):OR:=H.newK (.mp []) fun h H'=>some (.map h,H')
def Od (a b:GV):Option Bool:=Option.casesOn (motive:=fun _=>Option Bool) a.asI (ob a.asStr fun x=>ob b.asStr fun y=>some (Sw x y)) fun x=>ob b.asI fun y=>bif Wl x.1 y.1 then some (Wk x.2 y.2)else none
def Lz (k:GV) (es:List (GV×GV)):Option (Option GV):=List.rec (motive:=fun _=>Option (Option GV)) (some none) (fun e _ ih=>ob (Od k e.1) fun b=>bif b then some (some e.2)else ih) es
def HX (t:Ty) (k:GV):Bool:=Option.casesOn (motive:=fun _=>Bool) k.asI (Option.casesOn (motive:=fun _=>Bool) k.asStr false (fun _=>GZ t.desc)) (fun x=>Option.casesOn (motive:=fun _=>Bool) (Sy t.desc) false (fun _=>true))
def Rq (tb:TB) (T:TypeId):Option (Ty×Ty):=ob (tb T) fun t=>ob (tdM t.desc) fun kv=>ob (tb kv.1) fun tk=>ob (tb kv.2) fun tv=>some (tk,tv)
def OI (tb:TB) (T:TypeId) (ok:Bool) (v k:GV) (H:GH):Option GV:=ob v.asM fun h=>ob (H.get h) fun o=>ob o.asM fun es=>ob (Rq tb T) fun t=>bif HX t.1 k then ob (Lz k es) fun r=>ob (WR t.2.zero) fun z=>Option.casesOn (motive:=fun _=>Option GV) r (bif ok then some (.tup [z,.bool false])else some z) (fun g=>bif ok then some (.tup [g,.bool true])else some g)else none
def KO (tb:TB) (T:TypeId) (v k u:GV) (H:GH):OR:=ob v.asM fun h=>ob (H.get h) fun o=>ob o.asM fun es=>ob (Rq tb T) fun t=>bif HX t.1 k then ob (Lz k es) fun r=>Option.casesOn (motive:=fun _=>OR) r (H.setK h (.mp (es++[(k,u)])) fun H'=>some (.un,H')) (fun _=>none)else none
section
variable {R:Type}
abbrev KT (R:Type):=GF->GH->(GV->GH->Option R)->Option R
def k1 (x:Operand) (f:GV->Option GV):KT R:=fun σ H k=>ob (some x) fun x=>ob (kB σ x) fun v=>ob (f v) fun g=>k g H
def k2 (x y:Operand) (f:GV->GV->Option GV):KT R:=fun σ H k=>ob (some x) fun x=>ob (kB σ x) fun v=>ob (kB σ y) fun u=>ob (f v u) fun g=>k g H
def k3 (x y z:Operand) (f:GV->GV->GV->Option GV):KT R:=fun σ H k=>ob (some x) fun x=>ob (kB σ x) fun v=>ob (kB σ y) fun u=>ob (kB σ z) fun t=>ob (f v u t) fun g=>k g H
def GQ (x:Operand):KT R:=fun σ H k=>ob (some x) fun x=>ob (kB σ x) fun v=>k v H
def kFn (fn:Fn) (first caps:Array Operand):KT R:=match fn with
 | .func f=>fun σ H k=>ob (EU σ first.toList) fun us=>ob (EU σ caps.toList) fun vs=>k (.fn f us vs) H
 |_=>fun _ _ _=>none
def Gm (σ:GF) (o:Option Operand):Option (Option GV):=Option.casesOn (motive:=fun _=>Option (Option GV)) o (some none) fun x=>ob (kB σ x) fun v=>some (some v)
def Vy (tb:TB) (T:TypeId) (x:Operand) (lo hi mx:Option Operand):KT R:=Option.casesOn (motive:=fun _=>KT R) mx (fun σ H k=>ob (some x) fun x=>ob (kB σ x) fun v=>ob (Gm σ lo) fun l=>ob (Gm σ hi) fun h=>ob (CU tb T v l h H) fun g=>k g H) (fun _ _ _ _=>none)
def Vx (tb:TB) (T:TypeId) (ps:List (Nat×Operand)):KT R:=fun σ H k=>ob (uX σ ps) fun vs=>ob (Nz tb T vs) fun g=>k g H
def f_ (r:OR) (k:GV->GH->Option R):Option R:=ob r fun p=>Prod.casesOn (motive:=fun _=>Option R) p fun g h=>k g h
def Oa (tb:TB) (T:TypeId) (x:Operand):KT R:=fun σ H k=>ob (some x) fun x=>ob (kB σ x) fun v=>ob (xO tb T v H) fun g=>k g H
def Kn (tb:TB) (T:TypeId) (x y:Operand):KT R:=fun σ H k=>ob (some x) fun x=>ob (kB σ x) fun v=>ob (kB σ y) fun u=>f_ (uB tb T v u H) k
def Tt (x:Operand):KT R:=fun σ H k=>ob (some x) fun x=>ob (kB σ x) fun v=>f_ (F_ v H) k
def Vw (tb:TB) (T:TypeId):KT R:=fun σ H k=>f_ (sN tb T H) k
def Tv (tb:TB) (T:TypeId) (n:Nat) (ps:List (Nat×Operand)):KT R:=fun σ H k=>ob (uX σ ps) fun vs=>f_ (AY tb T n vs H) k
def Oc (tb:TB) (T:TypeId) (x y:Operand):KT R:=fun σ H k=>ob (some x) fun x=>ob (kB σ x) fun v=>ob (kB σ y) fun u=>f_ (Mb tb T v u H) k
def Rm (r:Option Operand):KT R:=Option.casesOn (motive:=fun _=>KT R) r (fun σ H k=>f_ (Cm H) k) (fun _ _ _ _=>none)
def Ob (tb:TB) (T:TypeId) (x y:Operand) (ok:Bool):KT R:=fun σ H k=>ob (some x) fun x=>ob (kB σ x) fun v=>ob (kB σ y) fun u=>ob (OI tb T ok v u H) fun g=>k g H
def Km (tb:TB) (T:TypeId) (x y z:Operand):KT R:=fun σ H k=>ob (some x) fun x=>ob (kB σ x) fun v=>ob (kB σ y) fun u=>ob (kB σ z) fun t=>f_ (KO tb T v u t H) k
def HW (xs:List Operand) (f:Operand->KT R):KT R:=List.casesOn (motive:=fun _=>KT R) xs (fun _ _ _=>none) fun x r=>List.casesOn (motive:=fun _=>KT R) r (f x) (fun _ _ _ _ _=>none)
def Dx (xs:List Operand) (f:Operand->Operand->KT R):KT R:=List.casesOn (motive:=fun _=>KT R) xs (fun _ _ _=>none) fun x r=>List.casesOn (motive:=fun _=>KT R) r (fun _ _ _=>none) fun y r=>List.casesOn (motive:=fun _=>KT R) r (f x y) (fun _ _ _ _ _=>none)
def Rj (tb:TB) (ts:List TypeId) (x y:Operand):KT R:=fun σ H k=>ob (Ga ts 0) fun T=>ob (Ga ts 1) fun T'=>ob (kB σ x) fun v=>ob (kB σ y) fun u=>f_ (PK tb T T' v u H) k
def Lt (tb:TB) (ts:List TypeId) (x y:Operand):KT R:=fun σ H k=>ob (Ga ts 0) fun T=>ob (kB σ x) fun v=>ob (kB σ y) fun u=>f_ (Sk tb T v u H) k
def Pq (tb:TB) (ts:List TypeId) (x:Operand):KT R:=fun σ H k=>ob (Ga ts 0) fun T=>ob (kB σ x) fun v=>ob (XC tb T v) fun g=>k g H
def Ps (tb:TB) (ts:List TypeId) (x:Operand):KT R:=fun σ H k=>ob (Ga ts 0) fun T=>ob (kB σ x) fun v=>ob (NC tb T v) fun g=>k g H
def Nb (tb:TB) (xs:Array Operand) (ts:Array TypeId):Builtin->KT R
 | .len=>HW xs.toList (Ps tb ts.toList)
 | .max=>Dx xs.toList fun x y=>k2 x y Sq
 | .min=>Dx xs.toList fun x y=>k2 x y TW
 | .append=>Dx xs.toList (Rj tb ts.toList)
 | .copy=>Dx xs.toList (Lt tb ts.toList)
 | .cap=>HW xs.toList (Pq tb ts.toList)
 |_=>fun _ _ _=>none
abbrev CH:=Nat->List GV->GH->OR
def Rk (ih:CH) (xs:Array Operand) (f:Operand):KT R:=fun σ H k=>ob (kB σ f) fun v=>ob v.asF fun g=>ob (EU σ xs.toList) fun us=>f_ (ih g.1 (g.2.1++us++g.2.2) H) k
def WM (tb:TB) (ih:CH) (c:Call):KT R:=Callee.casesOn (motive:=fun _=>KT R) c.callee (Rk ih c.args) (fun _ _ _ _ _=>none) (Nb tb c.args c.argTypes)
end
def KR {R:Type} (tb:TB) (ih:CH) (o:Op):KT R:=Op.casesOn (motive:=fun _=>KT R) o (fun a0=>GQ a0) (fun a0=>GQ a0) (fun a0 a1 a2=>k3 a0 a1 a2 qS) (fun a0=>Vw tb a0) (fun _ a1=>Tt a1) (fun a0 a1=>Vx tb a0 a1.toList) (fun a0 a1 a2=>Tv tb a0 a1 a2.toList) (fun _ _ _ _=>fun _ _ _=>none) (fun a0 a1=>Oa tb a0 a1) (fun a0 a1 a2=>Kn tb a0 a1 a2) (fun _=>fun _ _ _=>none) (fun _=>fun _ _ _=>none) (fun a0=>k1 a0 GV.nilck) (fun a0 a1 a2 a3 _=>k2 a2 a3 (Bt tb a0 a1)) (fun a0 _ a2=>k1 a2 (PO a0)) (fun a0 a1 a2=>k1 a2 (Uo tb a0 a1)) (fun _ _=>fun _ _ _=>none) (fun _ _=>fun _ _ _=>none) (fun a0 a1 a2=>kFn a0 a1 a2) (fun _ a1=>Rm a1) (fun _ _=>fun _ _ _=>none) (fun a0 a1 a2=>Oc tb a0 a1 a2) (fun a0 a1 a2 a3 a4=>Vy tb a0 a1 a2 a3 a4) (fun a0 a1 a2=>k1 a1 (CS tb a0 a2)) (fun a0 a1 a2=>k1 a1 (Up tb a0 a2)) (fun a0 a1 a2=>k2 a1 a2 (NB tb a0)) (fun a0 a1 a2=>k2 a1 a2 (Um tb a0)) (fun a0 a1 a2 a3=>Ob tb a0 a1 a2 a3) (fun a0 a1 a2 a3=>Km tb a0 a1 a2 a3) (fun _ _ _=>fun _ _ _=>none) (fun _ _ _ _=>fun _ _ _=>none) (fun _ _=>fun _ _ _=>none) (fun _ _=>fun _ _ _=>none) (fun _=>fun _ _ _=>none) (fun _ _ _ _=>fun _ _ _=>none) (fun a0 a1=>k1 a0 (We a1)) (fun a0=>WM tb ih a0) (fun _=>fun _ _ _=>none) (fun _=>fun _ _ _=>none) (fun _=>fun _ _ _=>none) (fun _ _=>fun _ _ _=>none) (fun _ _ _=>fun _ _ _=>none) (fun _ _=>fun _ _ _=>none)
def XB (x:Operand):Nat:=Operand.casesOn (motive:=fun _=>Nat) x (fun t=>Nat.shiftLeft 1 t) (fun _=>0) (fun _=>0) (fun _=>0)
def XA (all:List Oper) (o:Oper):Nat:=Nat.lor (o.op.operands.toList.foldl (fun m x=>Nat.lor m (XB x)) 0) (match o.guard with
 |none=>0
 |some g=>match Ga all g.1 with
  |some oj=>(match oj.dst with|some d=>Nat.shiftLeft 1 d|none=>0)
  |none=>0)
def Yy (m:Nat) (d:Option Nat):Nat:=match d with
 |none=>m
 |some d=>bif Nat.testBit m d then Nat.sub m (Nat.shiftLeft 1 d)else m
def TA (all:List Oper) (l:List Oper) (m:Nat):Nat:=l.foldr (fun o m=>Nat.lor (Yy m o.dst) (XA all o)) m
structure Cx where
 res:List ResultVar
 retm:Nat
 env:List (Nat×Nat)
def BJ (e:List (Nat×Nat)) (id:Nat):Nat:=List.rec (motive:=fun _=>Nat) 0 (fun p _ ih=>bif Nat.beq p.1 id then p.2 else ih) e
def WP (c:Code) (retm:Nat):Nat->List (Nat×Nat)->Nat:=Code.rec (motive:=fun _=>Nat->List (Nat×Nat)->Nat)
 (fun m _=>m) (fun _ ops _ m _=>TA ops.toList ops.toList m) (fun _ _ la lb m e=>la (lb m e) e) (fun x _ _ la lb m e=>Nat.lor (XB x) (Nat.lor (la m e) (lb m e))) (fun id _ lb m e=>lb m ((id,m)::e))
 (fun _ lb _ e=>Nat.lor (lb 0 e) (lb (lb 0 e) e)) (fun _ _ _ _ _ _ _ _=>0) (fun id _ e=>BJ e id) (fun _ _ _ _=>0) (fun _ _ _=>0) (fun _ _ _=>0) (fun _ _=>retm) (fun _ _ _=>0) c
def live (c:Code) (m:Nat) (cx:Cx):Nat:=WP c cx.retm m cx.env
def WN (f m:Nat):Nat->List Nat:=Nat.rec (motive:=fun _=>Nat->List Nat) (fun _=>[]) (fun _ ih i=>bif Nat.testBit m i then i::ih (Nat.succ i)else ih (Nat.succ i)) f
def lI (m:Nat):List Nat:=WN (Nat.succ (Nat.log2 m)) m 0
def Ce (σ:GF) (ks:List Nat):List GV:=List.rec (motive:=fun _=>List GV) [] (fun k _ ih=>Option.casesOn (motive:=fun _=>GV) (Eo σ k) .bad (fun v=>v)::ih) ks
def jS {R:Type} (ks:List Nat):List GV->(GF->Option R)->Option R:=List.rec (motive:=fun _=>List GV->(GF->Option R)->Option R) (fun vs k=>List.casesOn (motive:=fun _=>Option R) vs (k []) fun _ _=>none) (fun key _ ih vs k=>List.casesOn (motive:=fun _=>Option R) vs none fun v r=>ih r fun σ=>k ((key,v)::σ)) ks
inductive Ex where
 |normal
 |exit (id:Nat)
 |ret
inductive Uy where
 |fn (f:Nat)
 |loop (b:Code) (cx:Cx)
structure GS where
 σ:GF
 H:GH
structure Lc where
 e:Ex
 vs:List GV
 H:GH
abbrev RS:=Option Lc
abbrev QH0:=List GV->GH->RS
abbrev QH:=Nat->List GV->GH->RS
abbrev IH:=Uy->List GV->GH->RS
def VU (tb:TB) (s:GS) (r:ResultVar):Option GV:=ResultVar.casesOn (motive:=fun _=>Option GV) r (fun t=>Eo s.σ t) fun a T=>ob (Eo s.σ a) fun v=>xO tb T v s.H
def LG (tb:TB) (s:GS) (l:List ResultVar):Option (List GV):=List.rec (motive:=fun _=>Option (List GV)) (some []) (fun r _ ih=>ob (VU tb s r) fun v=>ob ih fun vs=>some (v::vs)) l
def Ht (l:List ResultVar):Nat:=List.rec (motive:=fun _=>Nat) 0 (fun r _ ih=>Nat.lor (ResultVar.casesOn (motive:=fun _=>Nat) r (fun t=>Nat.shiftLeft 1 t) (fun a _=>Nat.shiftLeft 1 a)) ih) l
def Pz (vs:List GV):GV:=List.casesOn (motive:=fun _=>GV) vs (.tup []) (fun v r=>List.casesOn (motive:=fun _=>GV) r v (fun _ _=> .tup vs))
def putD (d:Option Nat) (v:GV) (σ:GF):GF:=Option.casesOn (motive:=fun _=>GF) d σ fun d=>(d,v)::σ
def FK (ks:List Nat) (s:GS):RS:=some ⟨.normal,Ce s.σ ks,s.H⟩
def Np (tb:TB) (cx:Cx) (s:GS):RS:=ob (LG tb s cx.res) fun vs=>some ⟨.ret,vs,s.H⟩
def Uh (ks:List Nat) (k:GS->RS) (r:RS):RS:=ob r fun o=>Ex.casesOn (motive:=fun _=>RS) o.e (jS ks o.vs fun σ=>k ⟨σ,o.H⟩) (fun _=>some o) (some o)
def nB (id:Nat) (r:RS):RS:=ob r fun o=>Ex.casesOn (motive:=fun _=>RS) o.e (some o) (fun i=>Bool.casesOn (motive:=fun _=>RS) (Nat.beq i id) (some o) (some ⟨.normal,o.vs,o.H⟩)) (some o)
def EA (g:GV) (H:GH):OR:=some (g,H)
def FD (d:Option Nat) (s:GS) (k:GS->RS) (g:GV) (H:GH):RS:=k ⟨putD d g s.σ,H⟩
def Wm (tb:TB) (ih:CH) (o:Oper) (s:GS) (b:Bool) (v:GV):OR:=GV.casesOn (motive_1:=fun _=>OR) v (fun _ _=>none) (fun q=>Bool.casesOn (motive:=fun _=>OR) (NV q b) (some (.un,s.H)) (KR tb ih o.op s.σ s.H EA)) (fun _ _=>none) (fun _ _=>none) none (fun _ _ _ _=>none) none (fun _=>none) (fun _ _ _=>none) none none (fun _=>none) (fun _=>none) (some (.un,s.H)) none (fun _=>none)
def HQ (tb:TB) (ih:CH) (all:List Oper) (o:Oper) (k:GS->RS) (s:GS):RS:=Option.casesOn (motive:=fun _=>RS) o.guard (KR tb ih o.op s.σ s.H (FD o.dst s k)) fun g=>ob (Ga all g.1) fun oj=>ob oj.dst fun dj=>ob (Eo s.σ dj) fun v=>f_ (Wm tb ih o s g.2 v) (FD o.dst s k)
def Ev (tb:TB) (ih:CH) (all:List Oper) (k:GS->RS) (l:List Oper):GS->RS:=List.rec (motive:=fun _=>GS->RS) k (fun o _ ihl s=>HQ tb ih all o ihl s) l
def nY:Op->Bool
 | .load .. => true
 |_=>false
def Kl:Op->Bool
 | .lookup .. => true
 |_=>false
def Tz (σ:GF):Op->Option Nat
 | .load _ x=>ob (some x) fun x=>ob (kB σ x) fun v=>ob v.asP fun p=>some p.1
 |_=>none
def XE {α:Type} (H:GH) (h v:Nat) (k:Option α):Option α:=ob (H.ver h) fun u=>Bool.casesOn (motive:=fun _=>Option α) (Nat.beq u v) none k
def pck (H:GH) (e:Option (Nat×Nat)) (k:Option Unit):Option Unit:=Option.casesOn (motive:=fun _=>Option Unit) e k fun p=>XE H p.1 p.2 k
def HL (m:List Nat) (i:Nat) (H:GH) (pr:List (Nat×Option (Nat×Nat))):Option Unit:=List.rec (motive:=fun _=>Option Unit) (some ()) (fun p _ ih=>Bool.casesOn (motive:=fun _=>Option Unit) (before m i p.1) (pck H p.2 ih) ih) pr
def HM (m:List Nat) (i h v:Nat) (hs:List (Nat×GH)):Option (Option (Nat×Nat)):=List.rec (motive:=fun _=>Option (Option (Nat×Nat))) (some (some (h,v))) (fun q _ ih=>Bool.casesOn (motive:=fun _=>Option (Option (Nat×Nat))) (before m i q.1) (XE q.2 h v ih) ih) hs
def ldV (m:List Nat) (i:Nat) (hs:List (Nat×GH)) (H:GH) (l:Option Nat):Option (Option (Nat×Nat)):=Option.casesOn (motive:=fun _=>Option (Option (Nat×Nat))) l (some none) fun h=>ob (H.ver h) fun v=>HM m i h v hs
abbrev WT:=Nat->List (Nat×Option (Nat×Nat))->List (Nat×GH)->GS->RS
def Ra (tb:TB) (ch:CH) (all:List Oper) (m:List Nat) (o:Oper) (K:WT):WT:=fun i pr hs s=>
 Bool.casesOn (motive:=fun _=>RS) (fK o.op)
  (Bool.casesOn (motive:=fun _=>RS) (nY o.op) (HQ tb ch all o (K (Nat.succ i) pr hs) s)
   (HQ tb ch all o (fun s'=>ob (ldV m i hs s.H (Tz s.σ o.op)) fun e=>K (Nat.succ i) ((i,e)::pr) hs s') s))
  (HQ tb ch all o (fun s'=>ob (HL m i s'.H pr) fun _=>K (Nat.succ i) pr ((i,s.H)::hs) s') s)
def Wo (tb:TB) (ch:CH) (all:List Oper) (m:List Nat) (k:GS->RS) (l:List Oper):WT:=List.rec (motive:=fun _=>WT) (fun _ _ _ s=>k s) (fun o _ ih=>Ra tb ch all m o ih) l
def Eg (l:List Oper) (p:Op->Bool):Bool:=(List.range l.length).all fun i=>match l[i]? with
 |none=>true
 |some o=> !p o.op||(List.range l.length).all fun j=>match l[j]? with
  |none=>true
  |some oj=> !fK oj.op||before (pI l) i j||before (pI l) j i
def Wg (dr:Bool) (l:List Oper):Bool:=Bool.casesOn (motive:=fun _=>Bool) dr false (!Eg l nY)
def Jr (r:RS):OR:=ob r fun o=>Ex.casesOn (motive:=fun _=>OR) o.e none (fun _=>none) (some (Pz o.vs,o.H))
structure GP where
 tab:TB
 cat:Nat
 ext:Nat->List GV->GH->Option (GV×GH)
 exn:Nat->List GV->Option GV
def zF:GV:= .int .i64 (.ofNat 0)
def WE (ih:CH) (us:List GV) (H:GH):OR:=List.casesOn (motive:=fun _=>OR) us none fun u r=>List.casesOn (motive:=fun _=>OR) r (ob u.asF fun g=>H.newK (.cells [zF]) fun h1 H1=>H1.newK (.cells [zF]) fun h2 H2=>ob (ih g.1 (g.2.1++g.2.2) H2) fun x=>ob (x.2.cells h1) fun c1=>ob (x.2.cells h2) fun c2=>
 bif Nat.beq c1.length 1 then(bif Nat.beq c2.length 1 then x.2.setK h1 (.cells [zF]) fun H3=>H3.setK h2 (.cells [zF]) fun H4=>H4.delK h1 fun H5=>H5.delK h2 fun H6=>some (.tup [zF,zF],H6)else none)else none) (fun _ _=>none)
def WC (ih:IH):CH:=fun f us H=>Jr (ih (.fn f) us H)
def callQ (G:GP) (q:QH):CH:=fun f us H=>Bool.casesOn (motive:=fun _=>OR) (Nat.beq f G.cat) (Option.casesOn (motive:=fun _=>OR) (G.ext f us H) (Option.casesOn (motive:=fun _=>OR) (G.exn f us) (Jr (q f us H)) fun g=>some (g,H)) fun r=>some r) (WE (fun f us H=>Jr (q f us H)) us H)
def Dr (G:GP) (ih:IH):CH:=callQ G fun f us H=>ih (.fn f) us H
abbrev ET:=Nat->Cx->(GS->RS)->GS->RS
abbrev LH:=Code->Cx->QH0
def Tj (tb:TB) (ch:CH) (lp:LH) (c:Code):ET:=Code.rec (motive:=fun _=>ET)
 (fun _ _ k s=>k s)
 (fun _ ops dr _ _ k s=>Bool.casesOn (motive:=fun _=>RS) (Wg dr ops.toList) (Ev tb ch ops.toList k ops.toList s) (Wo tb ch ops.toList (pI ops.toList) k ops.toList 0 [] [] s))
 (fun _ b ea eb m cx k s=>ea (live b m cx) cx (eb m cx k) s)
 (fun x _ _ ea eb m cx k s=>ob (kB s.σ x) fun v=>ob v.asB fun q=>Uh (lI m) k (Bool.casesOn (motive:=fun _=>RS) q (eb m cx (FK (lI m)) s) (ea m cx (FK (lI m)) s)))
 (fun id _ eb m cx k s=>Uh (lI m) k (nB id (eb m ⟨cx.res,cx.retm,(id,m)::cx.env⟩ (FK (lI m)) s)))
 (fun b _ _ cx _ s=>lp b cx (Ce s.σ (lI (live (.loop b) 0 cx))) s.H)
 (fun _ _ _ _ _ _ _ _ _ _=>none)
 (fun id _ cx _ s=>some ⟨.exit id,Ce s.σ (lI (BJ cx.env id)),s.H⟩)
 (fun _ _ _ _ _ _=>none) (fun _ _ _ _ _=>none) (fun _ _ _ _ _=>none)
 (fun _ cx _ s=>Np tb cx s)
 (fun _ _ _ _ _=>none) c
def Pg (tb:TB) (ch:CH) (lp:LH) (fn:Func) (us:List GV) (H:GH):RS:=ob fn.body fun body=>jS (List.range (Nat.add fn.params.size fn.nfree)) us fun σ=>Tj tb ch lp body (Ht fn.results.toList) ⟨fn.results.toList,Ht fn.results.toList,[]⟩ (Np tb ⟨fn.results.toList,Ht fn.results.toList,[]⟩) ⟨σ,H⟩
def Wn (tb:TB) (ch:CH) (lp:LH) (b:Code) (cx:Cx) (us:List GV) (H:GH):RS:=jS (lI (live (.loop b) 0 cx)) us fun σ=>ob (Tj tb ch lp b (live (.loop b) 0 cx) cx (FK (lI (live (.loop b) 0 cx))) ⟨σ,H⟩) fun o=>Ex.casesOn (motive:=fun _=>RS) o.e (lp b cx o.vs o.H) (fun _=>some o) (some o)
abbrev FT:=Nat->Option Func
def step (G:GP) (Fs:FT) (ih:IH) (t:Uy):List GV->GH->RS:=Uy.casesOn (motive:=fun _=>List GV->GH->RS) t (fun f us H=>ob (Fs f) fun fn=>Pg G.tab (Dr G ih) (fun b cx=>ih (.loop b cx)) fn us H) (Wn G.tab (Dr G ih) fun b cx=>ih (.loop b cx))
def run (G:GP) (Fs:FT) (fuel:Nat):IH:=Nat.rec (motive:=fun _=>IH) (fun _ _ _=>none) (fun _ ih=>step G Fs ih) fuel
def QL (G:GP) (Fs:FT) (fuel:Nat) (f:FuncId) (args:List GV) (H:GH):OR:=Dr G (run G Fs fuel) f args H
def H0:GH:=⟨0,.lf⟩
end
end
section
section
variable {α β:Type}
theorem aN {o:Option α} {f:α->Option β} {r:β}:ob o f=some r↔∃x,o=some x∧f x=some r:=by
 cases o<;>simp[ob]
theorem cN {b:Bool} {x:Option α} {r:α}:(bif b then x else none)=some r↔b=true∧x=some r:=by
 cases b<;>simp
theorem mP {b:Bool} {x:Option α} {r:α}:(bif b then none else x)=some r↔b=false∧x=some r:=by
 cases b<;>simp
theorem Bm (n:Nat) (f:Nat->α):sn n f=f n:=by cases n<;>rfl
theorem Rc (z:Int) (f:Int->α):fi z f=f z:=by cases z<;>simp[fi,Bm]
theorem uY (l:List α):∀n,Ga l n=l[n]?:=by
 induction l with
 |nil=>intro n;rfl
 |cons x l ih=>intro n;cases n with
  |zero=>rfl
  |succ n=>exact ih n
theorem TD {v:α}:∀{l l':List α} {n:Nat},TC v l n=some l'->n<l.length∧l'=l.set n v:=by
 intro l
 induction l with
 |nil=>intro l' n h;cases h
 | cons x l ih => intro l' n h; cases n with
  |zero=>cases h;simp
  |succ n=>
   obtain⟨r,h1,h2⟩:=aN.1 (show ob (TC v l n) (fun r'=>some (x::r'))=some l' from h)
   obtain⟨h3,h4⟩:=ih h1
   cases h2;simp[h3,h4]
theorem Xz:∀{l r:List α} {n:Nat},tk l n=some r->n<=l.length∧r=l.take n:=by
 intro l
 induction l with
 |nil=>intro r n h;cases n with
  |zero=>cases h;simp
  |succ n=>cases h
 | cons x l ih => intro r n h; cases n with
  |zero=>cases h;simp
  |succ n=>
   obtain⟨q,h1,h2⟩:=aN.1 (show ob (tk l n) (fun r=>some (x::r))=some r from h)
   obtain⟨h3,h4⟩:=ih h1
   cases h2;simp[h3,h4]
theorem WG:∀{l r:List α} {n:Nat},dp l n=some r->n<=l.length∧r=l.drop n:=by
 intro l
 induction l with
 |nil=>intro r n h;cases n with
  |zero=>cases h;simp
  |succ n=>cases h
 |cons x l ih=>intro r n h;cases n with
  |zero=>cases h;simp
  |succ n=>have:=ih (show dp l n=some r from h);simpa using this
theorem KF {l r:List α} {o n:Nat} (h:Wq l o n=some r):o+n<=l.length∧r=(l.drop o).take n:=by
 obtain⟨q,h1,h2⟩:=aN.1 h
 obtain⟨h3,rfl⟩:=WG h1
 obtain⟨h4,rfl⟩:=Xz h2
 simp at h4
 exact⟨by omega,rfl⟩
def wr (vs:List α) (o:Nat) (cs:List α):List α:=cs.take o++vs++cs.drop (o+vs.length)
end
theorem Ho:∀{vs cs cs':List GV} {o:Nat},Fy vs o cs=some cs'->(vs≠[]->o+vs.length<=cs.length)∧cs'.length=cs.length∧∀i,cs'[i]? = if o<=i∧i<o+vs.length then vs[i - o]? else cs[i]?:=by
 intro vs
 induction vs with
 |nil=>
  intro cs cs' o h
  cases h
  refine⟨fun h=>absurd rfl h,rfl,fun i=> ?_⟩
  rw[if_neg (by simp)]
 | cons v vs ih =>
  intro cs cs' o h
  obtain⟨c1,h1,h2⟩:=aN.1 (show ob (TC v cs o) (fun cs'=>sn (Nat.succ o) fun o'=>Fy vs o' cs')=some cs' from h)
  rw[Bm]at h2
  obtain⟨h3,rfl⟩:=TD h1
  obtain⟨h4,h5,h6⟩:=ih h2
  simp only[List.length_set,Nat.succ_eq_add_one]at h4 h5 h6
  refine⟨fun _=> ?_,h5,fun i=> ?_⟩
  ·cases vs with
   |nil=>simp;omega
   |cons y ys=>have:=h4 (by simp);simp at this ⊢;omega
  rw[h6 i]
  by_cases e:i=o
  ·subst e
   rw[if_neg (by omega),if_pos (by simp),List.getElem?_set_self h3];simp
  ·by_cases e2:o+1<=i∧i<o+1+vs.length
   ·rw[if_pos e2,if_pos (by simp;omega)]
    have:i - o=(i - (o+1))+1:=by omega
    rw[this,List.getElem?_cons_succ]
   ·rw[if_neg e2,if_neg (by simp;omega),List.getElem?_set_ne (Ne.symm e)]
theorem Lh {α:Type} (x:Option α):∀(f n m:Nat),n<f->(Cr x f n).get m=if m=n then x else none:=by
 intro f
 induction f with
 |zero=>intro n m h;omega
 | succ f ih =>
  intro n m h
  show Tr.get (bif Nat.beq n 0 then .nd x .lf .lf else bif Nat.beq (Nat.mod n 2) 1 then .nd none (Cr x f (Nat.div n 2)) .lf else .nd none .lf (Cr x f (Nat.sub (Nat.div n 2) 1))) m=_
  have hg:∀(a:Option α) (l r:Tr α),Tr.get (.nd a l r) m=if m=0 then a else if m%2=1 then l.get (m / 2)else r.get (m / 2 - 1):=fun a l r=>by
   show Bool.casesOn (motive:=fun _=>Option α) (Nat.beq m 0) (Bool.casesOn (motive:=fun _=>Option α) (Nat.beq (Nat.mod m 2) 1) (r.get (Nat.sub (Nat.div m 2) 1)) (l.get (Nat.div m 2))) a=_
   by_cases h0:m=0
   ·subst h0;rfl
   ·rw[if_neg h0,nX h0]
    by_cases h1:m%2=1
    ·rw[if_pos h1]
     have:Nat.beq (Nat.mod m 2) 1=true:=by rw[show Nat.mod m 2=1 from h1];rfl
     rw[this];rfl
    ·rw[if_neg h1]
     have:Nat.beq (Nat.mod m 2) 1=false:=nX h1
     rw[this];rfl
  have hlf:∀k,(Tr.lf:Tr α).get k=none:=fun _=>rfl
  have hd:Nat.div n 2=n / 2:=rfl
  have hs:Nat.sub (Nat.div n 2) 1=n / 2 - 1:=rfl
  by_cases h0:n=0
  ·subst h0
   show Tr.get (.nd x .lf .lf) m=_
   simp only[hg,hlf]
   by_cases hm:m=0<;>simp[hm]
  ·rw[nX h0]
   by_cases h1:n%2=1
   ·have:Nat.beq (Nat.mod n 2) 1=true:=by rw[show Nat.mod n 2=1 from h1];rfl
    simp only[this,cond_true,cond_false,hg,hlf,hd]
    rw[ih _ _ (by omega)]
    by_cases hm:m=0
    ·rw[if_pos hm,if_neg (by omega)]
    ·rw[if_neg hm]
     by_cases h2:m%2=1
     ·rw[if_pos h2];by_cases h3:m=n
      ·subst h3;simp
      ·rw[if_neg h3,if_neg (by omega)]
     ·rw[if_neg h2,if_neg (by intro e;subst e;exact h2 h1)]
   ·have:Nat.beq (Nat.mod n 2) 1=false:=nX h1
    simp only[this,cond_true,cond_false,hg,hlf,hs]
    rw[ih _ _ (by omega)]
    by_cases hm:m=0
    ·rw[if_pos hm,if_neg (by omega)]
    ·rw[if_neg hm]
     by_cases h2:m%2=1
     ·rw[if_pos h2,if_neg (by intro e;subst e;exact h1 h2)]
     ·rw[if_neg h2];by_cases h3:m=n
      ·subst h3;simp
      ·rw[if_neg h3,if_neg (by omega)]
theorem zI {α:Type} (x:Option α):∀(t:Tr α) (n m:Nat),(t.set x n).get m=if m=n then x else t.get m:=by
 intro t
 induction t with
 |lf=>intro n m;exact Lh x _ n m (Nat.lt_succ_self n)
 | nd a l r ihl ihr =>
  intro n m
  have hg:∀(a:Option α) (l r:Tr α),Tr.get (.nd a l r) m=if m=0 then a else if m%2=1 then l.get (m / 2)else r.get (m / 2 - 1):=fun a l r=>by
   show Bool.casesOn (motive:=fun _=>Option α) (Nat.beq m 0) (Bool.casesOn (motive:=fun _=>Option α) (Nat.beq (Nat.mod m 2) 1) (r.get (Nat.sub (Nat.div m 2) 1)) (l.get (Nat.div m 2))) a=_
   by_cases h0:m=0
   ·subst h0;rfl
   ·rw[if_neg h0,nX h0]
    by_cases h1:m%2=1
    ·rw[if_pos h1]
     have:Nat.beq (Nat.mod m 2) 1=true:=by rw[show Nat.mod m 2=1 from h1];rfl
     rw[this];rfl
    ·rw[if_neg h1]
     have:Nat.beq (Nat.mod m 2) 1=false:=nX h1
     rw[this];rfl
  show Tr.get (Bool.casesOn (motive:=fun _=>Tr α) (Nat.beq n 0) (Bool.casesOn (motive:=fun _=>Tr α) (Nat.beq (Nat.mod n 2) 1) (.nd a l (r.set x (Nat.sub (Nat.div n 2) 1))) (.nd a (l.set x (Nat.div n 2)) r)) (.nd x l r)) m=_
  have hd:Nat.div n 2=n / 2:=rfl
  have hs:Nat.sub (Nat.div n 2) 1=n / 2 - 1:=rfl
  by_cases h0:n=0
  ·subst h0
   show Tr.get (.nd x l r) m=_
   rw[hg,hg];by_cases hm:m=0<;>simp[hm]
  ·rw[nX h0]
   by_cases h1:n%2=1
   ·have:Nat.beq (Nat.mod n 2) 1=true:=by rw[show Nat.mod n 2=1 from h1];rfl
    rw[this]
    show Tr.get (.nd a (l.set x (Nat.div n 2)) r) m=_
    rw[hg,hg,ihl,hd]
    by_cases hm:m=0
    ·rw[if_pos hm,if_pos hm,if_neg (by omega)]
    ·rw[if_neg hm,if_neg hm]
     by_cases h2:m%2=1
     ·rw[if_pos h2,if_pos h2];by_cases h3:m=n
      ·subst h3;simp
      ·rw[if_neg h3,if_neg (by omega)]
     ·rw[if_neg h2,if_neg h2,if_neg (by intro e;subst e;exact h2 h1)]
   ·have:Nat.beq (Nat.mod n 2) 1=false:=nX h1
    rw[this]
    show Tr.get (.nd a l (r.set x (Nat.sub (Nat.div n 2) 1))) m=_
    rw[hg,hg,ihr,hs]
    by_cases hm:m=0
    ·rw[if_pos hm,if_pos hm,if_neg (by omega)]
    ·rw[if_neg hm,if_neg hm]
     by_cases h2:m%2=1
     ·rw[if_pos h2,if_pos h2,if_neg (by intro e;subst e;exact h1 h2)]
     ·rw[if_neg h2,if_neg h2];by_cases h3:m=n
      ·subst h3;simp
      ·rw[if_neg h3,if_neg (by omega)]
theorem sW (H:GH) (h:Nat) (o:GO) (k:Nat):(H.set h o).get k=if k=h then some o else H.get k:=by
 unfold GH.get GH.set
 rw[zI]
 by_cases e:k=h<;>simp[e,ob]
theorem Mv (H:GH) (h:Nat) (o:GO) (k:Nat):(H.set h o).ver k=if k=h then some H.n else H.ver k:=by
 unfold GH.ver GH.set
 rw[zI]
 by_cases e:k=h<;>simp[e,ob]
theorem EK (H:GH) (h k:Nat):(H.del h).get k=if k=h then none else H.get k:=by
 unfold GH.get GH.del
 rw[zI]
 by_cases e:k=h<;>simp[e,ob]
theorem Mt (H:GH) (h k:Nat):(H.del h).ver k=if k=h then none else H.ver k:=by
 unfold GH.ver GH.del
 rw[zI]
 by_cases e:k=h<;>simp[e,ob]
noncomputable def GH.new (H:GH) (o:GO):GH:=⟨H.n+1,H.t.set (some (H.n,o)) H.n⟩
theorem sV (H:GH) (o:GO) (k:Nat):(H.new o).get k=if k=H.n then some o else H.get k:=by
 unfold GH.get GH.new
 rw[zI]
 by_cases e:k=H.n<;>simp[e,ob]
theorem Mu (H:GH) (o:GO) (k:Nat):(H.new o).ver k=if k=H.n then some H.n else H.ver k:=by
 unfold GH.ver GH.new
 rw[zI]
 by_cases e:k=H.n<;>simp[e,ob]
theorem Li {α R:Type} (x:Option α):∀(f n:Nat) (k:Tr α->R),Fh x f n k=k (Cr x f n):=by
 intro f
 induction f with
 |zero=>intro n k;rfl
 |succ f ih=>
  intro n k
  show Bool.casesOn (motive:=fun _=>R) (Nat.beq n 0) (Bool.casesOn (motive:=fun _=>R) (Nat.beq (Nat.mod n 2) 1) (Fh x f (Nat.sub (Nat.div n 2) 1) fun t=>k (.nd none .lf t)) (Fh x f (Nat.div n 2) fun t=>k (.nd none t .lf))) (k (.nd x .lf .lf))=k (bif Nat.beq n 0 then .nd x .lf .lf else bif Nat.beq (Nat.mod n 2) 1 then .nd none (Cr x f (Nat.div n 2)) .lf else .nd none .lf (Cr x f (Nat.sub (Nat.div n 2) 1)))
  rw[ih,ih]
  cases Nat.beq n 0<;>cases Nat.beq (Nat.mod n 2) 1<;>rfl
theorem EN {α R:Type} (x:Option α):∀(t:Tr α) (n:Nat) (k:Tr α->R),t.setK x n k=k (t.set x n):=by
 intro t
 induction t with
 |lf=>intro n k;exact Li x (Nat.succ n) n k
 |nd a l r ihl ihr=>
  intro n k
  show Bool.casesOn (motive:=fun _=>R) (Nat.beq n 0) (Bool.casesOn (motive:=fun _=>R) (Nat.beq (Nat.mod n 2) 1) (r.setK x (Nat.sub (Nat.div n 2) 1) fun t=>k (.nd a l t)) (l.setK x (Nat.div n 2) fun t=>k (.nd a t r))) (k (.nd x l r))=k (Bool.casesOn (motive:=fun _=>Tr α) (Nat.beq n 0) (Bool.casesOn (motive:=fun _=>Tr α) (Nat.beq (Nat.mod n 2) 1) (.nd a l (r.set x (Nat.sub (Nat.div n 2) 1))) (.nd a (l.set x (Nat.div n 2)) r)) (.nd x l r))
  rw[ihl,ihr]
  cases Nat.beq n 0<;>cases Nat.beq (Nat.mod n 2) 1<;>rfl
theorem jK {α:Type} (H:GH) (o:GO) (f:Nat->GH->α):H.newK o f=f H.n (H.new o):=by simp only[GH.newK,Bm,EN];rfl
theorem zH {α:Type} (H:GH) (h:Nat) (o:GO) (f:GH->α):H.setK h o f=f (H.set h o):=by simp only[GH.setK,Bm,EN];rfl
theorem EJ {α:Type} (H:GH) (h:Nat) (f:GH->α):H.delK h f=f (H.del h):=by simp only[GH.delK,EN];rfl
theorem Vz {R:Type} (a b:List GV):∀k:List GV->R,lap a b k=k (a++b):=by
 induction a with
 |nil=>intro k;rfl
 |cons x a ih=>intro k;exact ih _
theorem Rb {R:Type} (a:List GV):∀k:List GV->R,fc a k=k a:=by
 induction a with
 |nil=>intro k;rfl
 |cons x a ih=>intro k;exact ih _
theorem QT (H:GH) (v:GV) (f:GH->OR):QS H v f=f (MQ H v):=by
 unfold QS MQ
 cases v.asS with
 |none=>rfl
 |some s=>exact EJ H s.1 f
theorem iZ {H:GH} {h:Nat} {cs:List GV}:H.cells h=some cs↔H.get h=some (.cells cs):=by
 unfold GH.cells
 rw[aN]
 constructor
 ·rintro⟨o,h1,h2⟩;cases o with
  |cells c=>cases h2;exact h1
  |mp e=>cases h2
 ·intro h;exact⟨_,h,rfl⟩
theorem GO.asM_eq {o:GO} {es:List (GV×GV)} (h:o.asM=some es):o = .mp es:=by
 cases o with
 |cells c=>cases h
 |mp e=>cases h;rfl
theorem Bd (k:Nat) (v:GV) (σ:GF) (t:Nat):Eo ((k,v)::σ) t=if t=k then some v else Eo σ t:=by
 show Bool.casesOn (motive:=fun _=>Option GV) (Nat.beq t k) (Eo σ t) (some v)=_
 by_cases e:t=k
 ·subst e;simp
 ·rw[nX e,if_neg e]
section
variable {v:GV}
theorem nW {p:IntKind×Int} (h:v.asI=some p):v = .int p.1 p.2:=by cases v<;>cases h;rfl
theorem Do {p:Bool} (h:v.asB=some p):v = .bool p:=by cases v<;>cases h;rfl
theorem Dp {p:Nat×Nat} (h:v.asP=some p):v = .ptr p.1 p.2:=by cases v<;>cases h;rfl
theorem Cv {p:Nat×Nat×Nat×Nat} (h:v.asS=some p):v = .sl p.1 p.2.1 p.2.2.1 p.2.2.2:=by cases v<;>cases h;rfl
theorem Qq {p:Nat×List GV×List GV} (h:v.asF=some p):v = .fn p.1 p.2.1 p.2.2:=by cases v<;>cases h;rfl
theorem UC {p:List GV} (h:v.asT=some p):v = .tup p:=by cases v<;>cases h;rfl
theorem MH {p:List GV} (h:v.asA=some p):v = .agg p:=by cases v<;>cases h;rfl
theorem sZ {p:Nat×Nat} (h:v.asStr=some p):v = .str p.1 p.2:=by cases v<;>cases h;rfl
theorem asM_eq {p:Nat} (h:v.asM=some p):v = .map p:=by cases v<;>cases h;rfl
theorem xL (h:v.isSnil=true):v = .snil:=by cases v<;>first|rfl|cases h
end
section
variable {d:TypeDesc}
theorem EZ {e:TypeId} (h:SA d=some e):d = .slice e:=by cases d<;>cases h;rfl
theorem Nw {e:Nat×TypeId} (h:Wc d=some e):d = .array e.1 e.2:=by cases d<;>cases h;rfl
theorem KN {e:Array Field} (h:XN d=some e):d = .struct e:=by cases d<;>cases h;rfl
theorem EY {e:IntKind} (h:Sy d=some e):d = .int e:=by cases d<;>cases h;rfl
theorem Wd {e:TypeId×TypeId} (h:tdM d=some e):d = .map e.1 e.2:=by cases d<;>cases h;rfl
theorem Bp (h:GZ d=true):d = .string:=by cases d<;>first|rfl|cases h
theorem Nx (h:Xy d=true):d = .bool:=by cases d<;>first|rfl|cases h
end
theorem EO {a:Int} {n:Nat} (h:UB a=some n):a=n:=by cases a<;>cases h;rfl
theorem Wz {b:Bool} {p:Prop} [Decidable p] (h:b=true↔p):b=decide p:=by
 cases b
 ·exact(decide_eq_false fun hp=>by cases h.2 hp).symm
 ·exact(decide_eq_true (h.1 rfl)).symm
theorem Gr (a b:Int):VB a b=decide (a<b):=by
  refine Wz ?_
  cases a with
  | ofNat a => cases b with
    |ofNat b=>show Nat.blt a b=true↔_;rw[Nat.blt_eq];simp
    | negSucc b =>
        constructor
        · intro h;cases h
        · intro h;simp at h;omega
  | negSucc a => cases b with
    | ofNat b =>
        constructor
        · intro _;have:=Int.negSucc_lt_zero a;simp;omega
        · intro _;rfl
    |negSucc b=>show Nat.blt b a=true↔_;rw[Nat.blt_eq];omega
theorem Gl (a b:Int):Wk a b=decide (a=b):=by
  refine Wz ?_
  cases a with
  | ofNat a => cases b with
    |ofNat b=>show Nat.beq a b=true↔_;simp;omega
    | negSucc b =>
        constructor
        · intro h;cases h
        · intro h;cases h
  | negSucc a => cases b with
    | ofNat b =>
        constructor
        · intro h;cases h
        · intro h;cases h
    |negSucc b=>show Nat.beq a b=true↔_;simp
theorem ER (a b:Bool):NV a b=(a==b):=by cases a<;>cases b<;>rfl
theorem HP {a b:IntKind} (h:Wl a b=true):a=b:=of_decide_eq_true h
theorem HR (b:Bool):fb b=some (.bool b):=by cases b<;>rfl
end
end Go.Gx
end
section
namespace Go.Gx
open Go Go.Sx Go.RowKit
section
structure Mm where
 b:Nat
 off:Nat
 size:Nat
 x:Obj
 /-- what the evaluator wrote -/
 o:GO
abbrev gH:=Nat->Option Mm
def gH.le (ρ ρ':gH):Prop:=∀h l,ρ h=some l->ρ' h=some l
theorem gH.le_refl (ρ:gH):ρ.le ρ:=fun _ _ h=>h
theorem gH.le_trans {a b c:gH} (h:a.le b) (k:b.le c):a.le c:=fun _ _ x=>k _ _ (h _ _ x)
inductive Rl (ρ:gH):GV->Value->Prop
 |int (k n):Rl ρ (.int k n) (.int k n)
 |bool (b):Rl ρ (.bool b) (.bool b)
 |str (s:ByteArray):Rl ρ (.str (mQ (cM s)) (cM s).length) (.string s)
 |ptr {h l} (off) (hl:ρ h=some l):Rl ρ (.ptr h off) (.pointer (some ⟨l.b,l.off+off,none⟩))
 |pnil:Rl ρ .pnil (.pointer none)
 |sl {h l off len sz cap} {A:Addr} (hl:ρ h=some l) (hc:len<=cap) (ha:cap=0∨(A=⟨l.b,l.off+off,none⟩∧l.off+off+cap*sz<=l.size)):Rl ρ (.sl h off len sz) (.slice (some A) len cap)
 |snil:Rl ρ .snil (.slice none 0 0)
 |map {h l} (hl:ρ h=some l):Rl ρ (.map h) (.map (some l.b))
 | fn {us vs : List GV} {us' vs' : lR} (f) (h1 : us.length = us'.length) (h2 : ∀ (i : Nat) g v, us[i]? = some g → us'[i]? = some v → Rl ρ g v) (h3 : vs.length = vs'.length) (h4 : ∀ (i : Nat) g v, vs[i]? = some g → vs'[i]? = some v → Rl ρ g v) :
   Rl ρ (.fn f us vs) (.func (.func f) us'.toArray vs'.toArray)
 |fnil:Rl ρ .fnil .nilFunc
 |inil:Rl ρ .inil .nilIface
 |agg {cs:List GV} {vs:lR} (h1:cs.length=vs.length) (h2:∀(i:Nat) g v,cs[i]? = some g->vs[i]? = some v->Rl ρ g v) (h3:∀v∈vs,one v=true):Rl ρ (.agg cs) (.agg vs.toArray)
 |tup {cs:List GV} {vs:lR} (h1:cs.length=vs.length) (h2:∀(i:Nat) g v,cs[i]? = some g->vs[i]? = some v->Rl ρ g v):Rl ρ (.tup cs) (.tuple vs.toArray)
 |un:Rl ρ .un undef
 |bad (v):Rl ρ .bad v
 |opn {h l} (v) (hl:ρ h=some l) (hx:l.x = .cells #[v] 0 (0,0)):Rl ρ (.opn h) v
theorem Rl.le {ρ ρ':gH} (hl:ρ.le ρ') {g:GV} {v:Value} (h:Rl ρ g v):Rl ρ' g v:=by
 induction h with
 |int k n=>exact .int k n
 |bool b=>exact .bool b
 |str s=>exact .str s
 |ptr off h=>exact .ptr off (hl _ _ h)
 |pnil=>exact .pnil
 |sl h hc ha=>exact .sl (hl _ _ h) hc ha
 |snil=>exact .snil
 |map h=>exact .map (hl _ _ h)
 |fn f h1 h2 h3 h4 ih2 ih4=>exact .fn f h1 ih2 h3 ih4
 |fnil=>exact .fnil
 |inil=>exact .inil
 |agg h1 h2 h3 ih=>exact .agg h1 ih h3
 |tup h1 h2 ih=>exact .tup h1 ih
 |un=>exact .un
 |bad v=>exact .bad v
 |opn v h hx=>exact .opn v (hl _ _ h) hx
structure xQ (ρ:gH) (gs:List GV) (vs:lR):Prop where
 len:gs.length=vs.length
 at':∀(i:Nat) g v,gs[i]? = some g->vs[i]? = some v->Rl ρ g v
theorem xQ.nil {ρ:gH}:xQ ρ [] []:=⟨rfl,fun i g v h=>by simp at h⟩
theorem xQ.cons {ρ:gH} {g:GV} {v:Value} {gs:List GV} {vs:lR} (h:Rl ρ g v) (r:xQ ρ gs vs):xQ ρ (g::gs) (v::vs):=⟨by simp[r.len],fun i a b ha hb=>by
 cases i with
 |zero=>simp at ha hb;subst ha hb;exact h
 |succ i=>simp at ha hb;exact r.at' i a b ha hb⟩
theorem xQ.of_cons {ρ:gH} {g:GV} {gs:List GV} {vs:lR} (h:xQ ρ (g::gs) vs):∃v vs',vs=v::vs'∧Rl ρ g v∧xQ ρ gs vs':=by
 cases vs with
 |nil=>have:=h.len;simp at this
 |cons v vs=>exact⟨v,vs,rfl,h.at' 0 _ _ rfl rfl,by have:=h.len;simpa using this,fun i a b ha hb=>h.at' (i+1) a b (by simpa using ha) (by simpa using hb)⟩
theorem xQ.of_nil {ρ:gH} {vs:lR} (h:xQ ρ [] vs):vs=[]:=List.eq_nil_of_length_eq_zero h.len.symm
theorem xQ.le {ρ ρ':gH} (hl:ρ.le ρ') {gs:List GV} {vs:lR} (h:xQ ρ gs vs):xQ ρ' gs vs:=⟨h.len,fun i g v h1 h2=>(h.at' i g v h1 h2).le hl⟩
theorem xQ.append {ρ:gH} {gs gs':List GV} {vs vs':lR} (h:xQ ρ gs vs) (k:xQ ρ gs' vs'):xQ ρ (gs++gs') (vs++vs'):=by
 induction gs generalizing vs with
 |nil=>rw[h.of_nil];exact k
 |cons g gs ih=>obtain⟨v,vs,rfl,h1,h2⟩:=h.of_cons;exact .cons h1 (ih h2)
theorem xQ.get {ρ:gH} {gs:List GV} {vs:lR} (h:xQ ρ gs vs) {i:Nat} {g:GV} (hg:gs[i]? = some g):∃v,vs[i]? = some v∧Rl ρ g v:=by
 have hi:=bN hg
 have:i<vs.length:=h.len▸hi
 exact⟨vs[i],List.getElem?_eq_getElem this,h.at' i g _ hg (List.getElem?_eq_getElem this)⟩
theorem xQ.sub {ρ:gH} {gs:List GV} {vs:lR} (h:xQ ρ gs vs) (o n:Nat):xQ ρ ((gs.drop o).take n) ((vs.drop o).take n):=
 ⟨by simp[h.len],fun i g v h1 h2=>by
  rw[List.getElem?_take]at h1 h2
  split at h1
  ·rename_i hi
   rw[if_pos hi]at h2
   rw[List.getElem?_drop]at h1 h2
   exact h.at' _ g v h1 h2
  ·cases h1⟩
section
variable {ρ:gH} {V:Value}
theorem Rl.int_inv {k:IntKind} {n:Int} (h:Rl ρ (.int k n) V):V = .int k n:=by cases h;rfl
theorem Rl.bool_inv {b:Bool} (h:Rl ρ (.bool b) V):V = .bool b:=by cases h;rfl
theorem Rl.str_inv {n l:Nat} (h:Rl ρ (.str n l) V):∃s,V = .string s∧n=mQ (cM s)∧l=(cM s).length:=by cases h;exact⟨_,rfl,rfl,rfl⟩
theorem Rl.ptr_inv {h o:Nat} (x:Rl ρ (.ptr h o) V):∃l,ρ h=some l∧V = .pointer (some ⟨l.b,l.off+o,none⟩):=by cases x with|ptr o hl=>exact⟨_,hl,rfl⟩
theorem Rl.sl_inv {h o n sz:Nat} (x:Rl ρ (.sl h o n sz) V):∃l cap A,ρ h=some l∧V = .slice (some A) n cap∧n<=cap∧(cap=0∨(A=⟨l.b,l.off+o,none⟩∧l.off+o+cap*sz<=l.size)):=by
 cases x with|sl hl hc ha=>exact⟨_,_,_,hl,rfl,hc,ha⟩
theorem Rl.snil_inv (h:Rl ρ .snil V):V = .slice none 0 0:=by cases h;rfl
theorem Rl.map_inv {h:Nat} (x:Rl ρ (.map h) V):∃l,ρ h=some l∧V = .map (some l.b):=by cases x with|map hl=>exact⟨_,hl,rfl⟩
theorem Rl.fn_inv {f:Nat} {us vs:List GV} (x:Rl ρ (.fn f us vs) V):∃us' vs',V = .func (.func f) us'.toArray vs'.toArray∧xQ ρ us us'∧xQ ρ vs vs':=by
 cases x with|fn f h1 h2 h3 h4=>exact⟨_,_,rfl,⟨h1,h2⟩,⟨h3,h4⟩⟩
theorem Rl.agg_inv {cs:List GV} (x:Rl ρ (.agg cs) V):∃vs,V = .agg vs.toArray∧xQ ρ cs vs∧∀v∈vs,one v=true:=by
 cases x with|agg h1 h2 h3=>exact⟨_,rfl,⟨h1,h2⟩,h3⟩
theorem Rl.tup_inv {cs:List GV} (x:Rl ρ (.tup cs) V):∃vs,V = .tuple vs.toArray∧xQ ρ cs vs:=by
 cases x with|tup h1 h2=>exact⟨_,rfl,⟨h1,h2⟩⟩
theorem Rl.opn_inv {h:Nat} (x:Rl ρ (.opn h) V):∃l,ρ h=some l∧l.x = .cells #[V] 0 (0,0):=by cases x with|opn v hl hx=>exact⟨_,hl,hx⟩
theorem Rl.un_inv (x:Rl ρ .un V):V=undef:=by cases x;rfl
theorem MC {f:Nat} {us vs:List GV} {us' vs':List Value} (h1:xQ ρ us us') (h2:xQ ρ vs vs'):Rl ρ (.fn f us vs) (.func (.func f) us'.toArray vs'.toArray):= .fn f h1.len h1.at' h2.len h2.at'
theorem Hg {cs:List GV} {vs:List Value} (h:xQ ρ cs vs) (h3:∀v∈vs,one v=true):Rl ρ (.agg cs) (.agg vs.toArray):= .agg h.len h.at' h3
theorem Hh {cs:List GV} {vs:List Value} (h:xQ ρ cs vs):Rl ρ (.tup cs) (.tuple vs.toArray):= .tup h.len h.at'
theorem Rl.cells {g:GV} {cs:List GV} (h:Rl ρ g V) (hc:g.cells=some cs):∃vs,V.cells=vs.toArray∧xQ ρ cs vs∧∀v∈vs,one v=true:=by
 have hone:∀g V,Rl ρ g V->one V=true->∃vs,#[V]=vs.toArray∧xQ ρ [g] vs∧∀v∈vs,one v=true:=fun g V h h1=>⟨[V],rfl,.cons h .nil,fun v hv=>by simp at hv;subst hv;exact h1⟩
 have h0:=h
 cases h with
 |agg h1 h2 h3=>cases hc;exact⟨_,rfl,⟨h1,h2⟩,h3⟩
 |tup h1 h2=>cases hc
 |un=>cases hc
 |bad v=>cases hc
 |opn v hl hx=>cases hc
 |_=>cases hc;exact hone _ _ h0 rfl
end
theorem Kv {ρ:gH} {v:Value} {g:GV} (h:Py v=some g):Rl ρ g v∧one v=true:=by
 unfold Py at h
 split at h
 ·cases h;exact⟨.int _ _,rfl⟩
 ·cases h;exact⟨.bool _,rfl⟩
 ·cases h;exact⟨.snil,rfl⟩
 ·cases h;exact⟨.pnil,rfl⟩
 ·cases h;exact⟨.fnil,rfl⟩
 ·cases h;exact⟨.inil,rfl⟩
 ·simp only[Bm]at h;cases h;exact⟨.str _,rfl⟩
 ·cases h
theorem Oj {ρ:gH}:∀{vs:List Value} {gs:List GV},TE vs=some gs->xQ ρ gs vs∧∀v∈vs,one v=true
 | [],gs,h=>by cases h;exact⟨.nil,fun v h=>by simp at h⟩
 | v :: vs, gs, h => by
  obtain⟨x,h1,h2⟩:=aN.1 (show ob (Py v) (fun x=>ob (TE vs) fun xs=>some (x::xs))=some gs from h)
  obtain⟨xs,h3,h4⟩:=aN.1 h2
  cases h4
  obtain⟨a,b⟩:=Oj h3
  obtain⟨c,d⟩:=Kv (ρ:=ρ) h1
  exact⟨.cons c a,fun u hu=>by
   rcases List.mem_cons.1 hu with rfl|hu
   ·exact d
   ·exact b u hu⟩
theorem Nk {ρ:gH} {v:Value} {g:GV} (h:WR v=some g):Rl ρ g v:=by
 unfold WR at h
 split at h
 ·obtain⟨xs,h1,h2⟩:=aN.1 h
  cases h2
  obtain⟨a,b⟩:=Oj (ρ:=ρ) h1
  have:=Hg a b
  simpa using this
 ·exact(Kv h).1
theorem Ox {ρ:gH} {s:Sem Value} {g:GV} (h:Gu s=some g):∃v,Rl ρ g v∧s = .pure v:=by
 unfold Gu at h
 split at h
 ·exact⟨_,(Kv h).1,rfl⟩
 ·cases h
structure kU (ρ:gH) (n:Nat) (σ:GF) (a:Act):Prop where
 defers:a.defers=[]
 size:a.tmps.size=n
 slot:∀t g,Eo σ t=some g->Rl ρ g (a.eval (.tmp t))
theorem kU.le {ρ ρ':gH} (hl:ρ.le ρ') {n:Nat} {σ:GF} {a:Act} (h:kU ρ n σ a):kU ρ' n σ a:=⟨h.defers,h.size,fun t g hg=>(h.slot t g hg).le hl⟩
theorem kU.put {ρ:gH} {n:Nat} {σ:GF} {a:Act} (h:kU ρ n σ a) {d:Nat} (hd:d<n) {g:GV} {v:Value} (hv:Rl ρ g v):kU ρ n ((d,g)::σ) (a.put (some d) v):=
 ⟨h.defers,by simp[Act.put,h.size],fun t u ht=>by
  rw[Bd]at ht
  by_cases e:t=d
  ·subst e;rw[if_pos rfl]at ht;cases ht
   have:(a.put (some t) v).eval (.tmp t)=v:=by simp[Act.put,Act.eval,h.size,hd]
   rw[this];exact hv
  ·rw[if_neg e]at ht
   have:(a.put (some d) v).eval (.tmp t)=a.eval (.tmp t):=by
    simp only[Act.put,Act.eval,Array.getD_eq_getD_getElem?]
    rw[Array.getElem?_setIfInBounds_ne (Ne.symm e)]
   rw[this];exact h.slot t u ht⟩
section
variable {ρ:gH} {n:Nat} {σ:GF} {a:Act}
theorem dH (F:kU ρ n σ a) {x:Operand} {g:GV} (h:kB σ x=some g):Rl ρ g (a.eval x):=by
 cases x with
 |tmp t=>exact F.slot t g h
 |const v=>exact Nk h
 |global g=>cases h
 |func f=>cases h;exact MC .nil .nil
theorem Ee (F:kU ρ n σ a):∀{xs:List Operand} {gs:List GV},EU σ xs=some gs->xQ ρ gs (xs.map a.eval)
 | [],gs,h=>by cases h;exact .nil
 |x::xs,gs,h=>by
  obtain⟨v,h1,h2⟩:=aN.1 (show ob (kB σ x) (fun v=>ob (EU σ xs) fun vs=>some (v::vs))=some gs from h)
  obtain⟨vs,h3,h4⟩:=aN.1 h2
  cases h4
  exact .cons (dH F h1) (Ee F h3)
def Wi (ρ:gH) (gs:List (Nat×GV)) (vs:List (Nat×Value)):Prop:=gs.map (·.1)=vs.map (·.1)∧xQ ρ (gs.map (·.2)) (vs.map (·.2))
theorem Ca (F:kU ρ n σ a):∀{xs:List (Nat×Operand)} {gs:List (Nat×GV)},uX σ xs=some gs->Wi ρ gs (xs.map fun p=>(p.1,a.eval p.2))
 | [],gs,h=>by cases h;exact⟨rfl,.nil⟩
 |x::xs,gs,h=>by
  obtain⟨v,h1,h2⟩:=aN.1 (show ob (kB σ x.2) (fun v=>ob (uX σ xs) fun vs=>some ((x.1,v)::vs))=some gs from h)
  obtain⟨vs,h3,h4⟩:=aN.1 h2
  cases h4
  obtain⟨e1,e2⟩:=Ca F h3
  exact⟨by simp only[List.map_cons,e1],.cons (dH F h1) e2⟩
end
def Co (P:Program) (ρ:gH) (s:Sem Value) (g:GV):Prop:=∃v,Rl ρ g v∧∀w,s.run P w = .ok v w
structure fZ (P:Program) (tb:TB):Prop where
 tab:∀{T d},tb T=some d->sT P T d
 /-- structs of leaves may be compared -/
 eqs:∀{T fs},Jg T=true->rI tb T=some fs->xW tb fs=true->P.stoodInHeld T=false∧∀f∈fs,f.name ≠ "_"
noncomputable def WI (P:Program) (tb:TB):Bool:=(List.range 512).all fun T=>bif Jg T then(Option.casesOn (motive:=fun _=>Bool) (rI tb T) true fun fs=>bif xW tb fs then(!P.stoodInHeld T&&fs.all fun f=> !(f.name == "_"))else true)else true
theorem Vq {P:Program} {tb:TB} (h:WI P tb=true) {T:Nat} {fs:List Field} (h5:Jg T=true) (hf:rI tb T=some fs) (hl:xW tb fs=true):P.stoodInHeld T=false∧∀f∈fs,f.name ≠ "_":=by
 have h6:T<512:=by
  obtain⟨_,h⟩:=cN.1 (show(bif Nat.blt 31 T then(bif Nat.blt T 512 then some ()else none)else none)=some () by
   unfold Jg at h5
   cases e:Nat.blt 31 T<;>rw[e]at h5
   ·cases h5
   ·rw[cond_true]at h5;rw[h5];rfl)
  obtain⟨h,_⟩:=cN.1 h
  simpa [Nat.blt_eq]using h
 have:=List.all_eq_true.1 h T (List.mem_range.2 h6)
 rw[h5,cond_true,hf]at this
 have this:(bif xW tb fs then(!P.stoodInHeld T&&fs.all fun f=> !(f.name == "_"))else true)=true:=this
 rw[hl,cond_true,Bool.and_eq_true]at this
 exact⟨by simpa using this.1,fun f hfm=>by simpa using List.all_eq_true.1 this.2 f hfm⟩
section
variable {P:Program} {tb:TB} {ρ:gH} {V U W:Value} {v u t g:GV}
theorem NE {k:IntKind} {z:Int} {g:GV} (h:gw k z=some g):g = .int k (k.wrap z):=by
  unfold gw at h
  rw[Rc]at h
  cases hk:Ug k with
  | true =>
    rw[hk]at h
    obtain⟨h1,h2⟩:=cN.1 h
    cases h2
    have e:k = .i64:=by cases k<;>first|rfl|cases hk
    subst e
    have : -9223372036854775808<=z∧z<=9223372036854775807:=by
      cases z with
      | ofNat a =>
          have : a < 9223372036854775808 := by simpa [Rh, Nat.blt_eq] using h1
          simp only[Int.ofNat_eq_natCast];omega
      | negSucc a =>
          have : a < 9223372036854775808 := by simpa [Rh, Nat.blt_eq] using h1
          omega
    rw[JE this.1 this.2]
  | false =>
    rw[hk]at h
    simp only[cond_false,Rc]at h
    cases h;rfl
theorem SN {op:BinOp} {k:IntKind} {a b:Int} {T:TypeId} (hs:Hp op=false) (h:WB op k a b=some g):∃v,Rl ρ g v∧binOp op T (.int k a) (.int k b) = .pure v:=by
 have hb:∀{p:Prop} [Decidable p] {c:Bool},c=decide p->fb c=some g->Rl ρ g (.bool (decide p)):=fun e h=>by rw[HR]at h;cases h;rw[e];exact .bool _
 have hsem:∀op',Hp op'=false->Gu (binOp op' 0 (.int k a) (.int k b))=some g->∃v,Rl ρ g v∧binOp op' T (.int k a) (.int k b) = .pure v:=fun op' hs' h=>by
  obtain⟨v,h1,h2⟩:=Ox (ρ:=ρ) h
  refine⟨v,h1,?_⟩
  rw[<-h2];cases op'<;>first|rfl|cases hs'
 cases op with
 |add=>exact⟨_,by rw[NE h];exact .int _ _,by simp[binOp,Op.intArith];rfl⟩
 |sub=>exact⟨_,by rw[NE h];exact .int _ _,by simp[binOp,Op.intArith];rfl⟩
 |eql=>exact⟨.bool (decide (a=b)),hb (Gl a b) h,by simp[binOp,Op.intCmp];rfl⟩
 |neq=>exact⟨.bool (decide (¬a=b)),hb (by rw[Gl];simp) h,by simp[binOp,Op.intCmp];rfl⟩
 |lss=>exact⟨.bool (decide (a<b)),hb (Gr a b) h,by simp[binOp,Op.intCmp];rfl⟩
 |leq=>exact⟨.bool (decide (a<=b)),hb (by rw[Gr,<-decide_not];exact decide_eq_decide.2 (by omega)) h,by simp[binOp,Op.intCmp];rfl⟩
 |gtr=>exact⟨.bool (decide (b<a)),hb (Gr b a) h,by simp[binOp,Op.intCmp];rfl⟩
 |geq=>exact⟨.bool (decide (b<=a)),hb (by rw[Gr,<-decide_not];exact decide_eq_decide.2 (by omega)) h,by simp[binOp,Op.intCmp];rfl⟩
 |shl=>cases hs
 |shr=>cases hs
 |mul=>exact hsem .mul hs h
 |quo=>exact hsem .quo hs h
 |rem=>exact hsem .rem hs h
 |and=>exact hsem .and hs h
 |or=>exact hsem .or hs h
 |xor=>exact hsem .xor hs h
 |andNot=>exact hsem .andNot hs h
end
end
section
theorem xK (b:UInt8) (l:List UInt8):mQ (b::l)=b.toNat+256*mQ l:=rfl
theorem Fu:∀{x y:List UInt8},x.length=y.length->mQ x=mQ y->x=y
 | [],[],_,_=>rfl
 | [],_::_,h,_=>by simp at h
 |_::_,[],h,_=>by simp at h
 |a::x,b::y,h,e=>by
  rw[xK,xK]at e
  have ha:=a.toNat_lt
  have hb:=b.toNat_lt
  have e1:a.toNat=b.toNat:=by omega
  have e2:mQ x=mQ y:=by omega
  rw[UInt8.toNat_inj.1 e1,Fu (by simpa using h) e2]
theorem Gj:∀(x:List UInt8) (n:Nat),mQ x / 256^n=mQ (x.drop n)
 |x,0=>by simp
 | [],n+1=>by simp[mQ]
 |b::x,n+1=>by
  rw[xK,List.drop_succ_cons,<-Gj x n,Nat.pow_succ,Nat.mul_comm (256^n) 256,<-Nat.div_div_eq_div_mul]
  have:=b.toNat_lt
  congr 1
  omega
theorem Jf:∀(x:List UInt8) (n:Nat),mQ x%256^n=mQ (x.take n)
 |x,0=>by simp[mQ,Nat.mod_one]
 | [],n+1=>by simp[mQ]
 |b::x,n+1=>by
  rw[xK,List.take_succ_cons,xK,<-Jf x n,Nat.pow_succ,Nat.mul_comm (256^n) 256,Nat.mod_mul]
  have hb:=b.toNat_lt
  have e1:(b.toNat+256*mQ x)%256=b.toNat:=by omega
  have e2:(b.toNat+256*mQ x) / 256=mQ x:=by omega
  rw[e1,e2]
theorem Xh (n l:Nat):Nat.shiftRight n (Nat.mul 8 l)=n / 256^l:=by
 show n >>> (8*l)=_
 rw[Nat.shiftRight_eq_div_pow,Nat.pow_mul]
theorem WS (k:Nat):Nat.pow 2 (Nat.mul 8 k)=256^k:=by
 show 2^(8*k)=_
 rw[Nat.pow_mul]
theorem QZ (x:List UInt8) (l k:Nat):Nat.mod (Nat.shiftRight (mQ x) (Nat.mul 8 l)) (Nat.pow 2 (Nat.mul 8 k))=mQ ((x.drop l).take k):=by
 rw[Xh,WS]
 show mQ x / 256^l%256^k=_
 rw[Gj,Jf]
theorem NU (x:List UInt8) (i:Nat) (h:i<x.length):Nat.mod (Nat.shiftRight (mQ x) (Nat.mul 8 i)) 256=(x[i]).toNat:=by
 rw[Xh]
 show mQ x / 256^i%256=_
 rw[Gj,List.drop_eq_getElem_cons h,xK]
 have:=(x[i]).toNat_lt
 omega
theorem OX (s:ByteArray) (i:Nat):s[i]? = (cM s)[i]?:=by
 unfold cM
 by_cases h:i<s.size
 ·rw[getElem?_pos s i h,Array.getElem?_toList,Array.getElem?_eq_getElem (by simpa using h)];rfl
 ·rw[getElem?_neg s i h]
  rw[List.getElem?_eq_none (by have:=Lib.size_eq s;omega)]
section
variable {P:Program} {tb:TB} {ρ:gH} {V U W:Value} {v u t g:GV}
theorem WA (a b:ByteArray):(a==b)=(a.toList==b.toList):=by
 rw[Lib.toList_data,Lib.toList_data]
 obtain⟨⟨x⟩⟩:=a
 obtain⟨⟨y⟩⟩:=b
 have:((⟨⟨x⟩⟩:ByteArray)==⟨⟨y⟩⟩)=((⟨x⟩:Array UInt8)==⟨y⟩):=rfl
 rw[this]
 simp
theorem Vp {a b:Nat×Nat} {s r:ByteArray} (e1:a.1=mQ (cM s)) (e2:a.2=(cM s).length) (e3:b.1=mQ (cM r)) (e4:b.2=(cM r).length):Sw a b=(s.toList==r.toList):=by
 rw[Lib.toList_data,Lib.toList_data]
 unfold Sw
 rw[e1,e2,e3,e4]
 by_cases hl:(cM s).length=(cM r).length
 ·have hb:Nat.beq (cM r).length (cM r).length=true:=by simp
  rw[hl,hb,cond_true]
  by_cases he:mQ (cM s)=mQ (cM r)
  ·have:=Fu hl he
   unfold cM at this
   rw[he,this];simp
  ·rw[nX he]
   symm
   rw[beq_eq_false_iff_ne]
   intro hh;exact he (by unfold cM;rw[hh])
 ·rw[nX hl,cond_false]
  symm
  rw[beq_eq_false_iff_ne]
  intro hh;exact hl (by unfold cM;rw[hh])
theorem Pt (hG:fZ P tb) {T:TypeId} {t:Ty} (ht:tb T=some t) {q:Bool} (hv:Rl ρ v V) (hu:Rl ρ u U) (h:Ng t v u=some q) (m:Nat) (w:World):(Op.equalIn (m+1) T V U).run P w = .ok q w:=by
 have hun:=(hG.tab ht).run_und w
 unfold Ng at h
 cases hi:v.asI with
 |some a=>
  rw[hi]at h
  obtain⟨b,hb,h⟩:=aN.1 h
  obtain⟨k,hk,h⟩:=aN.1 h
  obtain⟨hkk,h⟩:=cN.1 h
  cases h
  rw[nW hi]at hv
  rw[nW hb]at hu
  rw[hv.int_inv,hu.int_inv,<-HP hkk]
  rw[EY hk]at hun
  unfold Op.equalIn
  rw[Gl]
  simp[hun]
  rfl
 | none =>
  rw[hi]at h
  simp only at h
  cases hs:v.asStr with
  |some a=>
   rw[hs]at h
   obtain⟨b,hb,h⟩:=aN.1 h
   obtain⟨hd,h⟩:=cN.1 h
   cases h
   rw[sZ hs]at hv
   rw[sZ hb]at hu
   obtain⟨s,rfl,e1,e2⟩:=hv.str_inv
   obtain⟨r,rfl,e3,e4⟩:=hu.str_inv
   rw[Bp hd]at hun
   rw[Vp e1 e2 e3 e4,<-WA]
   unfold Op.equalIn
   simp[hun]
  |none=>
   rw[hs]at h
   obtain⟨a,ha,h⟩:=aN.1 (show ob v.asB _=some q from h)
   obtain⟨b,hb,h⟩:=aN.1 h
   obtain⟨hd,h⟩:=cN.1 h
   cases h
   rw[Do ha]at hv
   rw[Do hb]at hu
   rw[hv.bool_inv,hu.bool_inv]
   rw[Nx hd]at hun
   unfold Op.equalIn
   rw[ER]
   simp[hun]
theorem Jo {t:Ty} (h:Ew t=true):(∃k,t.desc = .int k)∨t.desc = .string∨t.desc = .bool:=by
 unfold Ew at h
 cases hb:Xy t.desc with
 |true=>exact .inr (.inr (Nx hb))
 | false =>
  rw[hb]at h
  cases hs:GZ t.desc with
  |true=>exact .inr (.inl (Bp hs))
  |false=>
   rw[hs]at h
   cases hi:Sy t.desc with
   |none=>rw[hi]at h;cases h
   |some k=>exact .inl ⟨k,EY hi⟩
theorem GT {f:Field} {fs:List Field} (h:xW tb (f::fs)=true):∃t,tb f.type=some t∧Ew t=true∧xW tb fs=true:=by
 have h:(Option.casesOn (motive:=fun _=>Bool) (tb f.type) false fun t=>bif Ew t then xW tb fs else false)=true:=h
 cases ht:tb f.type with
 |none=>rw[ht]at h;cases h
 |some t=>
  rw[ht]at h
  have h:(bif Ew t then xW tb fs else false)=true:=h
  cases hl:Ew t with
  |false=>rw[hl]at h;cases h
  |true=>rw[hl]at h;exact⟨t,rfl,hl,h⟩
theorem LQ (hG:fZ P tb) {T:TypeId} {t:Ty} (ht:tb T=some t) (hl:Ew t=true) {cs:Array Value} {off:Nat} {x:Value} (hx:cs[off]? = some x) (w:World):(part T cs off).run P w = .ok x w:=by
 have hun:=(hG.tab ht).run_und w
 have ha:(isAgg T).run P w = .ok false w:=by
  unfold isAgg
  rcases Jo hl with⟨k,e⟩|e|e<;>rw[e]at hun<;>simp[hun]
 unfold part
 simp[ha,hx]
theorem LN (hG:fZ P tb) {cs ds:List GV} {vs us:List Value} (hv:xQ ρ cs vs) (hu:xQ ρ ds us) (m:Nat) (w:World):∀{fs:List Field} {q:Bool},Tg tb cs ds fs=some q->xW tb fs=true->(∀f∈fs,f.name ≠ "_")->
  Sem.run P (forIn fs ((none,()):Option Bool×Unit) fun f __s=>if f.name = "_" then pure (ForInStep.yield (none,()))else do
   let __do_lift <-part f.type vs.toArray f.offset
   let __do_lift_1 <-part f.type us.toArray f.offset
   let __do_lift <-Op.equalIn (m+1) f.type __do_lift __do_lift_1
   if __do_lift=false then pure (ForInStep.done (some false,()))else pure (ForInStep.yield (none,()))) w = .ok (if q then none else some false,()) w
 | [],q,h,_,_=>by
  have:q=true:=by have h:some true=some q:=h;cases h;rfl
  subst this
  simp
 | f :: fs, q, h, hl, hn => by
  obtain⟨t,ht,h⟩:=aN.1 (show ob (tb f.type) _=some q from h)
  obtain⟨a,ha,h⟩:=aN.1 h
  obtain⟨b,hb,h⟩:=aN.1 h
  obtain⟨e,he,h⟩:=aN.1 h
  obtain⟨t',ht',hlt,hlf⟩:=GT hl
  rw[ht]at ht';cases ht'
  rw[uY]at ha hb
  obtain⟨x,hx,hrx⟩:=hv.get ha
  obtain⟨y,hy,hry⟩:=hu.get hb
  have p1:=LQ hG ht hlt (cs:=vs.toArray) (by simpa using hx) w
  have p2:=LQ hG ht hlt (cs:=us.toArray) (by simpa using hy) w
  have p3:=Pt hG ht hrx hry he m w
  have hne:=hn f List.mem_cons_self
  cases e with
  |false=>
   have:q=false:=by have h:some false=some q:=h;cases h;rfl
   subst this
   simp[List.forIn_cons,hne,p1,p2,p3]
  |true=>
   have ih:=LN hG hv hu m w (show Tg tb cs ds fs=some q from h) hlf fun f hf=>hn f (List.mem_cons_of_mem _ hf)
   simp[List.forIn_cons,hne,p1,p2,p3,ih]
theorem Pf (hG:fZ P tb) {T:TypeId} {fs:List Field} (h5:Jg T=true) (hfs:rI tb T=some fs) (hl:xW tb fs=true) {cs ds:List GV} {vs us:List Value} (hv:xQ ρ cs vs) (hu:xQ ρ ds us) {q:Bool} (h:Tg tb cs ds fs=some q) (w:World):
  (Op.equal T (.agg vs.toArray) (.agg us.toArray)).run P w = .ok q w:=by
 obtain⟨hs,hn⟩:=hG.eqs h5 hfs hl
 obtain⟨t,ht,h'⟩:=aN.1 (show ob (tb T) _=some fs from hfs)
 obtain⟨a,ha,h'⟩:=aN.1 h'
 cases h'
 have hun:=(hG.tab ht).run_und w
 rw[KN ha]at hun
 obtain⟨a⟩:=a
 have key:∀m,(Op.equalIn (m+1+1) T (.agg vs.toArray) (.agg us.toArray)).run P w = .ok q w:=fun m=>by
  have k:=LN hG hv hu m w h hl hn
  unfold Op.equalIn
  simp[hun,hs]
  simp only[]at k
  rw[k]
  cases q<;>simp
 exact key 9998
theorem Gk (hG:fZ P tb):∀(m:Nat) {T:TypeId} {t:Ty},tb T=some t->Ew t=true->P.eqGuardType (m+1) T=false:=fun m T t ht hl=>by
 have hun:=(hG.tab ht).und
 unfold Program.eqGuardType
 rcases Jo hl with⟨k,e⟩|e|e<;>rw[e]at hun<;>simp[hun]
theorem HO (hG:fZ P tb) {T:TypeId} {fs:List Field} (hfs:rI tb T=some fs) (hl:xW tb fs=true):P.eqGuardType P.depth T=false:=by
 obtain⟨t,ht,h'⟩:=aN.1 (show ob (tb T) _=some fs from hfs)
 obtain⟨a,ha,h'⟩:=aN.1 h'
 cases h'
 have hun:=(hG.tab ht).und
 rw[KN ha]at hun
 have key:∀m,P.eqGuardType (m+2) T=false:=fun m=>by
  unfold Program.eqGuardType
  rw[hun]
  simp only
  rw[Array.any_eq_false']
  intro f hf
  have:f∈a.toList:=by simpa using hf
  have hlf:∀(l:List Field),xW tb l=true->∀f∈l,∃t,tb f.type=some t∧Ew t=true:=by
   intro l
   induction l with
   |nil=>intro _ f hf;cases hf
   |cons x l ih=>
    intro h f hf
    obtain⟨t,h1,h2,h3⟩:=GT h
    rcases List.mem_cons.1 hf with rfl|hf
    ·exact⟨t,h1,h2⟩
    ·exact ih h3 f hf
  obtain⟨t',h1,h2⟩:=hlf _ hl f this
  simp[Gk hG m h1 h2]
 unfold Program.depth
 exact key _
theorem Po (hG:fZ P tb) {op:BinOp} {T:TypeId} {fs:List Field} (hfs:rI tb T=some fs) (hl:xW tb fs=true) (x y:Operand) (a b:Array Value) (w:World):(eqGuard op T x y (.agg a) (.agg b)).run P w = .ok () w:=by
 have hg:=HO hG hfs hl
 unfold eqGuard
 cases op<;>simp[hg]
theorem EP {op:BinOp} {T:TypeId} {q:Bool} {V U:Value} {x y:Operand} (hg:∀w,(eqGuard op T x y V U).run P w = .ok () w) (he:∀w,(Op.equal T V U).run P w = .ok q w) (h1:binOp .eql T V U=(do pure (.bool (<-Op.equal T V U)))) (h2:binOp .neq T V U=(do pure (.bool (!(<-Op.equal T V U))))) (h:SL op q true=some g):
  Co P ρ (do eqGuard op T x y V U;binOp op T V U) g:=by
 cases op with
 |eql=>exact⟨.bool q,by have h':fb (NV q true)=some g:=h;rw[HR,ER]at h';cases h';cases q<;>exact .bool _,fun w=>by have a:=hg w;have b:=he w;rw[h1];simp[a,b]⟩
 |neq=>exact⟨.bool (!q),by have h':fb (!NV q true)=some g:=h;rw[HR,ER]at h';cases h';cases q<;>exact .bool _,fun w=>by have a:=hg w;have b:=he w;rw[h2];simp[a,b]⟩
 |_=>cases h
theorem Sj (hG:fZ P tb) {op:BinOp} {T:TypeId} (x y:Operand) (hv:Rl ρ v V) (hu:Rl ρ u U) (h:Si tb op T v u=some g):Co P ρ (do eqGuard op T x y V U;binOp op T V U) g:=by
 unfold Si at h
 cases ha:v.asA with
 |some cs=>
  rw[ha]at h
  obtain⟨ds,hd,h⟩:=aN.1 (show ob u.asA _=some g from h)
  obtain⟨h5,h⟩:=cN.1 h
  obtain⟨fs,hfs,h⟩:=aN.1 h
  obtain⟨hl,h⟩:=cN.1 h
  obtain⟨q,hq,h⟩:=aN.1 h
  rw[MH ha]at hv
  rw[MH hd]at hu
  obtain⟨vs,rfl,hr,_⟩:=hv.agg_inv
  obtain⟨us,rfl,hr',_⟩:=hu.agg_inv
  exact EP (Po hG hfs hl x y _ _) (Pf hG h5 hfs hl hr hr' hq) rfl rfl h
 | none =>
  rw[ha]at h
  obtain⟨hz,h⟩:=cN.1 (show(bif u.isSnil then _ else none)=some g from h)
  obtain⟨n,hn,h⟩:=aN.1 h
  obtain⟨t,ht,h⟩:=aN.1 h
  obtain⟨e,he,h⟩:=aN.1 h
  rw[xL hz]at hu
  have hU:=hu.snil_inv
  subst hU
  have hun:=fun w=>(hG.tab ht).run_und w
  rw[EZ he]at hun
  cases hvz:v.isSnil with
  | true =>
   rw[hvz]at h
   rw[xL hvz]at hv
   have hV:=hv.snil_inv
   subst hV
   refine EP (fun w=> ?_) (q:=true) (fun w=> ?_) rfl rfl h
   ·unfold eqGuard;cases op<;>simp
   ·have:(Op.equalIn (9999+1) T (.slice none 0 0) (.slice none 0 0)).run P w = .ok true w:=by
     unfold Op.equalIn
     simp[hun w]
    exact this
  | false =>
   rw[hvz]at h
   unfold Tq at hn
   rw[hvz]at hn
   obtain⟨s,hs,hn⟩:=aN.1 (show ob v.asS _=some n from hn)
   rw[Cv hs]at hv
   obtain⟨l,cap,A,hl,rfl,_,_⟩:=hv.sl_inv
   refine EP (fun w=> ?_) (q:=false) (fun w=> ?_) rfl rfl h
   ·unfold eqGuard;cases op<;>simp
   ·have:(Op.equalIn (9999+1) T (.slice (some A) s.2.2.1 cap) (.slice none 0 0)).run P w = .ok false w:=by
     unfold Op.equalIn
     simp[hun w]
    exact this
theorem GL:∀(x y:List UInt8),mQ (x++y)=mQ x+256^x.length*mQ y
 | [],y=>by simp[mQ]
 |b::x,y=>by
  rw[List.cons_append,xK,xK,GL x y,List.length_cons,Nat.pow_succ]
  rw[Nat.mul_add,Nat.mul_comm (256^x.length) 256,Nat.mul_assoc]
  omega
theorem NT {a b:Nat×Nat} {s r:ByteArray} (e1:a.1=mQ (cM s)) (e2:a.2=(cM s).length) (e3:b.1=mQ (cM r)) (e4:b.2=(cM r).length) (h:Vi a b=some g) (w:World):Rl ρ g (.string (s++r))∧(Op.stringOp .add s r).run P w = .ok (.string (s++r)) w:=by
 unfold Vi at h
 obtain⟨hl,h⟩:=cN.1 h
 rw[Bm,Bm]at h
 cases h
 have hl:a.2+b.2<16777216:=by simpa [Nat.blt_eq]using hl
 have hb:cM (s++r)=cM s++cM r:=by
  unfold cM
  obtain⟨⟨x⟩⟩:=s
  obtain⟨⟨y⟩⟩:=r
  simp
 constructor
 ·have h1:Nat.add a.1 (Nat.mul (Nat.pow 2 (Nat.mul 8 a.2)) b.1)=mQ (cM (s++r)):=by
   rw[hb,GL,WS,e1,e2,e3];rfl
  have h2:Nat.add a.2 b.2=(cM (s++r)).length:=by rw[hb,List.length_append,e2,e4];rfl
  rw[h1,h2]
  exact .str _
 ·have h3:(s.size:Int)+(r.size:Int)<=9223372036854775807:=by
   have e5:=Lib.size_eq s
   have e6:=Lib.size_eq r
   have e7:(cM s).length=s.data.size:=by unfold cM;simp
   have e8:(cM r).length=r.data.size:=by unfold cM;simp
   have e9:s.data.toList.length=s.data.size:=by simp
   have e10:r.data.toList.length=r.data.size:=by simp
   omega
  have h4:¬((((s.size+r.size:Nat)):Int)>IntKind.i64.max):=by
   show¬((((s.size+r.size:Nat)):Int)>9223372036854775807)
   omega
  unfold Op.stringOp
  simp only[]
  rw[if_neg h4]
  rfl
theorem OE (hG:fZ P tb) {op:BinOp} {T:TypeId} (x y:Operand) (hv:Rl ρ v V) (hu:Rl ρ u U) (h:Bt tb op T v u=some g):Co P ρ (do eqGuard op T x y V U;binOp op T V U) g:=by
 unfold Bt at h
 cases hi:v.asI with
 | some a =>
  rw[hi]at h
  obtain⟨b,hb,h⟩:=aN.1 h
  rw[nW hi]at hv
  rw[nW hb]at hu
  rw[hv.int_inv,hu.int_inv]
  have hg:∀w,(eqGuard op T x y (.int a.1 a.2) (.int b.1 b.2)).run P w = .ok () w:=fun w=>sD w
  cases hs:Hp op with
  |true=>
   rw[hs]at h
   obtain⟨z,h1,h2⟩:=Ox (ρ:=ρ) h
   have e:binOp op T (.int a.1 a.2) (.int b.1 b.2)=binOp op 0 (.int a.1 a.2) (.int b.1 b.2):=by cases op<;>first|rfl|cases hs
   exact⟨z,h1,fun w=>by rw[e,h2];simp[hg w]⟩
  |false=>
   rw[hs]at h
   simp only[cond_false]at h
   obtain⟨hk,h⟩:=cN.1 h
   have hk:=HP hk
   obtain⟨z,h1,h2⟩:=SN (ρ:=ρ) (T:=T) hs h
   exact⟨z,h1,fun w=>by rw[<-hk,h2];have:=hg w;rw[<-hk]at this;simp[this]⟩
 | none =>
  rw[hi]at h
  simp only at h
  cases hstr:v.asStr with
  | some a =>
   rw[hstr]at h
   obtain⟨b,hb,h⟩:=aN.1 h
   rw[sZ hstr]at hv
   rw[sZ hb]at hu
   obtain⟨s,rfl,e1,e2⟩:=hv.str_inv
   obtain⟨r,rfl,e3,e4⟩:=hu.str_inv
   have heq:Sw a b=(s.toList==r.toList):=by
    rw[Lib.toList_data,Lib.toList_data]
    unfold Sw
    rw[e1,e2,e3,e4]
    by_cases hl:(cM s).length=(cM r).length
    ·have hb:Nat.beq (cM r).length (cM r).length=true:=by simp
     rw[hl,hb,cond_true]
     by_cases he:mQ (cM s)=mQ (cM r)
     ·have:=Fu hl he
      unfold cM at this
      rw[he,this];simp
     ·rw[nX he]
      symm
      rw[beq_eq_false_iff_ne]
      intro hh;exact he (by unfold cM;rw[hh])
    ·rw[nX hl,cond_false]
     symm
     rw[beq_eq_false_iff_ne]
     intro hh;exact hl (by unfold cM;rw[hh])
   have hgd:∀w,(eqGuard op T x y (.string s) (.string r)).run P w = .ok () w:=fun w=>by unfold eqGuard;cases op<;>simp
   have key:∀c:Bool,fb c=some g->Rl ρ g (.bool c):=fun c hc=>by rw[HR]at hc;cases hc;exact .bool _
   cases op with
   |eql=>exact⟨_,key _ h,fun w=>by rw[heq];have:=hgd w;simp[this,binOp,Op.stringOp]⟩
   |neq=>exact⟨_,key _ h,fun w=>by rw[heq];have:=hgd w;simp[this,binOp,Op.stringOp]⟩
   |add=>exact⟨_,(NT (P:=P) e1 e2 e3 e4 h default).1,fun w=>by have:=hgd w;have k:=(NT (ρ:=ρ) (P:=P) e1 e2 e3 e4 h w).2;simp only[Sem.run_bind,this,Result.andThen_ok,binOp,k]⟩
   |_=>cases h
  | none =>
   rw[hstr]at h
   simp only at h
   cases ha:v.asB with
   | none =>
    rw[ha]at h
    simp only at h
    cases h1:v.isInil with
    |false=>rw[h1]at h;exact Sj hG x y hv hu h
    |true=>
    rw[h1]at h
    have h':=h
    clear h
    obtain⟨h2,h⟩:=cN.1 (show(bif u.isInil then _ else none)=some g from h')
    clear h'
    obtain⟨t,ht,h'⟩:=aN.1 h
    clear h
    obtain⟨hd,hfin⟩:=cN.1 h'
    clear h'
    have e1:v = .inil:=by cases v<;>first|rfl|cases h1
    have e2:u = .inil:=by cases u<;>first|rfl|cases h2
    subst e1;subst e2
    cases hv;cases hu
    obtain⟨ms,hms,h0⟩:∃ms,t.desc = .interface ms∧ms.size=0:=by
     cases hq:t.desc<;>rw[hq]at hd<;>first|(exact⟨_,rfl,Nat.eq_of_beq_eq_true hd⟩)|cases hd
    have hun:∀w:World,_:=fun w=>(hG.tab ht).run_und w
    have h0':ms.isEmpty=true:=by simp[Array.isEmpty,h0]
    have hgi:∀w,(Op.eqGuardIn Op.maxDepth T .nilIface .nilIface).run P w = .ok false w:=fun w=>by
     have key:∀m:Nat,(Op.eqGuardIn (m+1) T .nilIface .nilIface).run P w = .ok false w:=by
      intro m
      unfold Op.eqGuardIn
      simp[hun w,hms,h0']
     exact key 9999
    have hei:∀w,(Op.equal T .nilIface .nilIface).run P w = .ok true w:=fun w=>by
     have key:∀m:Nat,(Op.equalIn (m+1) T .nilIface .nilIface).run P w = .ok true w:=by
      intro m
      unfold Op.equalIn
      simp[hun w,hms]
     exact key 9999
    have hgd:∀w,(eqGuard op T x y .nilIface .nilIface).run P w = .ok () w:=fun w=>by
     unfold eqGuard
     cases op<;>simp[hgi w]
     all_goals (split<;>simp)
    cases op with
    |eql=>cases hfin;exact⟨.bool true,.bool _,fun w=>by have h1:=hgd w;have h2:=hei w;simp[h1,binOp,h2]⟩
    |neq=>cases hfin;exact⟨.bool false,.bool _,fun w=>by have h1:=hgd w;have h2:=hei w;simp[h1,binOp,h2]⟩
    |_=>cases hfin
   | some a =>
    rw[ha]at h
    simp only at h
    obtain⟨b,hb,h⟩:=aN.1 h
    obtain⟨t,ht,h⟩:=aN.1 h
    obtain⟨hd,h⟩:=cN.1 h
    rw[Do ha]at hv
    rw[Do hb]at hu
    rw[hv.bool_inv,hu.bool_inv]
    have hgd:∀w,(eqGuard op T x y (.bool a) (.bool b)).run P w = .ok () w:=fun w=>by unfold eqGuard;cases op<;>simp
    have heq:∀w,(Op.equal T (.bool a) (.bool b)).run P w = .ok (a==b) w:=fun w=>by
     have hu:=(hG.tab ht).run_und w
     rw[Nx hd]at hu
     have key:∀m:Nat,(Op.equalIn (m+1) T (.bool a) (.bool b)).run P w = .ok (a==b) w:=by
      intro m
      unfold Op.equalIn
      simp[hu]
     exact key 9999
    cases op with
    |eql=>exact⟨.bool (a==b),by have h':fb (NV a b)=some g:=h;rw[HR,ER]at h';cases h';exact .bool _,fun w=>by have h1:=hgd w;have h2:=heq w;simp[h1,binOp,h2]⟩
    |neq=>exact⟨.bool (!(a==b)),by have h':fb (!NV a b)=some g:=h;rw[HR,ER]at h';cases h';exact .bool _,fun w=>by have h1:=hgd w;have h2:=heq w;simp[h1,binOp,h2]⟩
    |_=>cases h
theorem Sr {op:UnOp} (hv:Rl ρ v V) (h:PO op v=some g):Co P ρ (Op.unary op V) g:=by
 cases op with
 |neg=>
  obtain⟨a,ha,h⟩:=aN.1 (show ob v.asI _=some g from h)
  rw[nW ha]at hv
  rw[hv.int_inv,NE h]
  exact⟨_,.int _ _,fun w=>by simp[Op.unary,Op.intArith]⟩
 |not=>
  obtain⟨a,ha,h⟩:=aN.1 (show ob v.asB _=some g from h)
  rw[Do ha]at hv
  rw[hv.bool_inv]
  rw[HR]at h;cases h
  exact⟨_,.bool _,fun w=>by simp[Op.unary]⟩
 |_=>cases h
theorem Ma (hG:fZ P tb) {S D:TypeId} (hv:Rl ρ v V) (h:Uo tb S D v=some g):Co P ρ (convert S D V) g:=by
 obtain⟨a,ha,h⟩:=aN.1 (show ob v.asI _=some g from h)
 obtain⟨s,hs,h⟩:=aN.1 h
 obtain⟨k',hk',h⟩:=aN.1 h
 obtain⟨t,ht,h⟩:=aN.1 h
 obtain⟨k,hk,h⟩:=aN.1 h
 rw[Rc]at h;cases h
 rw[nW ha]at hv
 rw[hv.int_inv]
 refine⟨_,.int _ _,fun w=> ?_⟩
 have h1:=(hG.tab hs).run_und w
 have h2:=(hG.tab ht).run_und w
 rw[EY hk']at h1
 rw[EY hk]at h2
 simp[convert,h1,h2,Conv.intToInt]
theorem LA (hv:Rl ρ v V) (h:v.nilck=some g):g=v∧∀(o:Oper) (x:Operand) (ev:Operand->Value),o.op = .nilCheck x->ev x=V->∀w,(execOp ev o).run P w = .ok (.value V) w:=by
 cases hv with
 |ptr off hl=>cases h;exact⟨rfl,fun o x ev ho hx w=>by simp[execOp,ho,hx]⟩
 |fn f h1 h2 h3 h4=>cases h;exact⟨rfl,fun o x ev ho hx w=>by simp[execOp,ho,hx]⟩
 |_=>cases h
theorem GM (hG:fZ P tb) {T:TypeId} {fs:List Field} (h:rI tb T=some fs):∃d,sT P T d∧d.desc = .struct fs.toArray:=by
 obtain⟨t,ht,h⟩:=aN.1 (show ob (tb T) _=some fs from h)
 obtain⟨a,ha,h⟩:=aN.1 h
 cases h
 exact⟨t,hG.tab ht,by rw[KN ha]⟩
theorem JA (hG:fZ P tb) {T:TypeId} {f:Nat} (hv:Rl ρ v V) (h:CS tb T f v=some g):Co P ρ (Instr.fieldAt T V f) g:=by
 obtain⟨p,hp,h⟩:=aN.1 (show ob v.asP _=some g from h)
 obtain⟨fs,hfs,h⟩:=aN.1 h
 obtain⟨q,hq,h⟩:=aN.1 h
 obtain⟨tq,htq,h⟩:=aN.1 h
 obtain⟨h0,h⟩:=mP.1 h
 rw[Bm]at h;cases h
 rw[Dp hp]at hv
 obtain⟨l,hl,rfl⟩:=hv.ptr_inv
 obtain⟨d,hd,he⟩:=GM hG hfs
 rw[uY]at hq
 refine⟨_,.ptr _ hl,fun w=> ?_⟩
 have h1:=hd.run_und w
 rw[he]at h1
 have hne:tq.size≠0:=fun e=>by rw[e]at h0;cases h0
 have e:l.off+(p.2+q.offset)=l.off+p.2+q.offset:=by omega
 show(Instr.fieldAt T (.pointer (some ⟨l.b,l.off+p.2,none⟩)) f).run P w = .ok (.pointer (some ⟨l.b,l.off+(p.2+q.offset),none⟩)) w
 rw[e]
 simp[Instr.fieldAt,h1,hq,Instr.sureAddr,fieldPlace,(hG.tab htq).run_size w,hne,fM]
theorem Nj (hG:fZ P tb) {T:TypeId} {t:Ty} {cs:List GV} {vs:List Value} {o:Nat} (hT:sT P T t) (hr:xQ ρ cs vs) (h1:∀v∈vs,one v=true) (h:BA t cs o=some g):Co P ρ (part T vs.toArray o) g:=by
 unfold BA at h
 cases ha:Bb t.desc with
 |true=>
  rw[ha]at h
  obtain⟨r,hs,h⟩:=aN.1 h
  cases h
  obtain⟨hb,rfl⟩:=KF hs
  refine⟨_,Hg (hr.sub o t.size) (fun v hv=>h1 v (List.mem_of_mem_drop (List.mem_of_mem_take hv))),fun w=> ?_⟩
  have e1:=hT.run_agg w
  have e2:=hT.run_size w
  rw[ha]at e1
  simp[part,e1,e2]
 |false=>
  rw[ha]at h
  rw[cond_false,uY]at h
  obtain⟨x,hx,hr⟩:=hr.get h
  refine⟨x,hr,fun w=> ?_⟩
  have e1:=hT.run_agg w
  rw[ha]at e1
  simp[part,e1,hx]
theorem Md (hG:fZ P tb) {T:TypeId} {f:Nat} (hv:Rl ρ v V) (h:Up tb T f v=some g):Co P ρ (Instr.field T V f) g:=by
 obtain⟨cs,hc,h⟩:=aN.1 (show ob v.asA _=some g from h)
 obtain⟨fs,hfs,h⟩:=aN.1 h
 obtain⟨q,hq,h⟩:=aN.1 h
 obtain⟨tq,htq,h⟩:=aN.1 h
 rw[MH hc]at hv
 obtain⟨vs,rfl,hr,h1⟩:=hv.agg_inv
 obtain⟨d,hd,he⟩:=GM hG hfs
 rw[uY]at hq
 obtain⟨x,hx,hrun⟩:=Nj (T:=q.type) hG (hG.tab htq) hr h1 h
 refine⟨x,hx,fun w=> ?_⟩
 have h2:=hd.run_und w
 rw[he]at h2
 have:=hrun w
 simp[Instr.field,h2,hq,asAgg,this]
theorem xJ (hG:fZ P tb) {T:TypeId} {e:TypeId×Ty} (h:AH tb T=some e):(∃d,sT P T d∧d.desc = .slice e.1)∧sT P e.1 e.2∧tb e.1=some e.2:=by
 obtain⟨t,ht,h⟩:=aN.1 (show ob (tb T) _=some e from h)
 obtain⟨a,ha,h⟩:=aN.1 h
 obtain⟨te,hte,h⟩:=aN.1 h
 cases h
 exact⟨⟨t,hG.tab ht,EZ ha⟩,hG.tab hte,hte⟩
theorem JB (hG:fZ P tb) {T:TypeId} (hv:Rl ρ v V) (hu:Rl ρ u U) (h:NB tb T v u=some g):Co P ρ (Instr.indexAt T V U) g:=by
 obtain⟨n,hn,h⟩:=aN.1 (show ob u.asI _=some g from h)
 obtain⟨i,hi,h⟩:=aN.1 h
 rw[nW hn]at hu
 rw[hu.int_inv,EO hi]
 cases hp:v.asP with
 |some p=>
  rw[hp]at h
  rw[Dp hp]at hv
  obtain⟨l,hl,rfl⟩:=hv.ptr_inv
  obtain⟨t,ht,h⟩:=aN.1 (show ob (tb T) _=some g from h)
  obtain⟨e,he,h⟩:=aN.1 h
  obtain⟨te,hte,h⟩:=aN.1 h
  obtain⟨hlt,h⟩:=cN.1 h
  rw[Bm]at h;cases h
  refine⟨_,.ptr _ hl,fun w=> ?_⟩
  have h1:=(hG.tab ht).run_und w
  rw[Nw he]at h1
  have hlt:i<e.1:=by simpa [Nat.blt_eq]using hlt
  have ee:l.off+(p.2+i*te.size)=l.off+p.2+i*te.size:=by omega
  show(Instr.indexAt T (.pointer (some ⟨l.b,l.off+p.2,none⟩)) (.int n.1 i)).run P w = .ok (.pointer (some ⟨l.b,l.off+(p.2+i*te.size),none⟩)) w
  rw[ee]
  simp[Instr.indexAt,asIntOf,h1,Instr.sureAddr,hlt,(hG.tab hte).run_size w,fM]
 |none=>
  rw[hp]at h
  obtain⟨s,hs,h⟩:=aN.1 (show ob v.asS _=some g from h)
  rw[Cv hs]at hv
  obtain⟨l,cap,A,hl,rfl,hc,ha⟩:=hv.sl_inv
  obtain⟨te,hte,h⟩:=aN.1 (show ob (AH tb T) _=some g from h)
  obtain⟨hlt,h⟩:=cN.1 h
  rw[Bm]at h;cases h
  obtain⟨⟨d,hd,hde⟩,hE,_⟩:=xJ hG hte
  have hlt:i<s.2.2.1:=by simpa [Nat.blt_eq]using hlt
  rcases ha with ha|⟨rfl,_⟩
  ·omega
  refine⟨_,.ptr _ hl,fun w=> ?_⟩
  have h1:=hd.run_und w
  rw[hde]at h1
  have ee:l.off+(s.2.1+i*te.2.size)=l.off+s.2.1+i*te.2.size:=by omega
  show(Instr.indexAt T (.slice (some ⟨l.b,l.off+s.2.1,none⟩) s.2.2.1 cap) (.int n.1 i)).run P w = .ok (.pointer (some ⟨l.b,l.off+(s.2.1+i*te.2.size),none⟩)) w
  rw[ee]
  simp[Instr.indexAt,asIntOf,h1,hlt,hE.run_size w,fM]
theorem Sg (hG:fZ P tb) {T:TypeId} (hv:Rl ρ v V) (hu:Rl ρ u U) (h:Um tb T v u=some g):Co P ρ (Instr.index T V U) g:=by
 obtain⟨s,hs,h⟩:=aN.1 (show ob v.asStr _=some g from h)
 obtain⟨n,hn,h⟩:=aN.1 h
 obtain⟨i,hi,h⟩:=aN.1 h
 obtain⟨t,ht,h⟩:=aN.1 h
 obtain⟨hd,h⟩:=cN.1 h
 obtain⟨hlt,h⟩:=cN.1 h
 rw[Bm]at h;cases h
 rw[nW hn]at hu
 rw[hu.int_inv,EO hi]
 rw[sZ hs]at hv
 obtain⟨r,rfl,e1,e2⟩:=hv.str_inv
 have hlt:i<(cM r).length:=by rw[<-e2];simpa [Nat.blt_eq]using hlt
 rw[e1,NU _ _ hlt]
 refine⟨_,.int _ _,fun w=> ?_⟩
 have h1:=(hG.tab ht).run_und w
 rw[Bp hd]at h1
 have hb:=OX r i
 rw[List.getElem?_eq_getElem hlt]at hb
 simp[Instr.index,asIntOf,h1,hb]
theorem OG {i:Nat} (hv:Rl ρ v V) (h:We i v=some g):Co P ρ (Instr.extract V i) g:=by
 obtain⟨vs,hs,h⟩:=aN.1 (show ob v.asT _=some g from h)
 rw[UC hs]at hv
 obtain⟨us,rfl,hr⟩:=hv.tup_inv
 rw[uY]at h
 obtain⟨x,hx,hr⟩:=hr.get h
 exact⟨x,hr,fun w=>by simp[Instr.extract,hx]⟩
theorem OJ {t1 t2 ty:TypeId} (hv:Rl ρ v V) (hu:Rl ρ u U) (h:Sq v u=some g):Co P ρ (Builtin.max_ #[t1,t2] ty #[V,U]) g:=by
 obtain⟨a,ha,h⟩:=aN.1 (show ob v.asI _=some g from h)
 obtain⟨b,hb,h⟩:=aN.1 h
 obtain⟨hk,h⟩:=cN.1 h
 have hk:=HP hk
 have hv':=hv;have hu':=hu
 rw[nW ha]at hv';rw[nW hb]at hu'
 rw[Gr]at h
 by_cases hlt:a.2<b.2
 ·rw[decide_eq_true hlt]at h;cases h
  refine⟨U,hu,fun w=> ?_⟩
  rw[hv'.int_inv,hu'.int_inv,<-hk]
  simp[Builtin.max_,Builtin.max2];omega
 ·rw[decide_eq_false hlt]at h;cases h
  refine⟨V,hv,fun w=> ?_⟩
  rw[hv'.int_inv,hu'.int_inv,<-hk]
  simp[Builtin.max_,Builtin.max2];omega
theorem OK {t1 t2 ty:TypeId} (hv:Rl ρ v V) (hu:Rl ρ u U) (h:TW v u=some g):Co P ρ (Builtin.min_ #[t1,t2] ty #[V,U]) g:=by
 obtain⟨a,ha,h⟩:=aN.1 (show ob v.asI _=some g from h)
 obtain⟨b,hb,h⟩:=aN.1 h
 obtain⟨hk,h⟩:=cN.1 h
 have hk:=HP hk
 have hv':=hv;have hu':=hu
 rw[nW ha]at hv';rw[nW hb]at hu'
 rw[Gr]at h
 by_cases hlt:b.2<a.2
 ·rw[decide_eq_true hlt]at h;cases h
  refine⟨U,hu,fun w=> ?_⟩
  rw[hv'.int_inv,hu'.int_inv,<-hk]
  simp[Builtin.min_,Builtin.min2];omega
 ·rw[decide_eq_false hlt]at h;cases h
  refine⟨V,hv,fun w=> ?_⟩
  rw[hv'.int_inv,hu'.int_inv,<-hk]
  simp[Builtin.min_,Builtin.min2];omega
theorem OF (hG:fZ P tb) {T ty:TypeId} (hv:Rl ρ v V) (h:XC tb T v=some g):Co P ρ (Builtin.cap_ #[T] ty #[V]) g:=by
 obtain⟨t,ht,h⟩:=aN.1 (show ob (tb T) _=some g from h)
 obtain⟨e,he,h⟩:=aN.1 h
 obtain⟨hz,h⟩:=cN.1 h
 cases h
 rw[xL hz]at hv
 have hV:=hv.snil_inv
 subst hV
 have hun:=fun w=>(hG.tab ht).run_und w
 rw[EZ he]at hun
 exact⟨_,.int _ _,fun w=>by simp[Builtin.cap_,hun w,goInt]⟩
theorem OH (hG:fZ P tb) {T ty:TypeId} (hv:Rl ρ v V) (h:NC tb T v=some g):Co P ρ (Builtin.len_ #[T] ty #[V]) g:=by
 obtain⟨t,ht,h⟩:=aN.1 (show ob (tb T) _=some g from h)
 cases hs:v.asStr with
 |some s=>
  rw[hs]at h
  obtain⟨hd,h⟩:=cN.1 h
  cases h
  rw[sZ hs]at hv
  obtain⟨r,rfl,e1,e2⟩:=hv.str_inv
  refine⟨_,.int _ _,fun w=> ?_⟩
  have h1:=(hG.tab ht).run_und w
  rw[Bp hd]at h1
  rw[e2]
  have:r.size=(cM r).length:=Lib.size_eq r
  simp[Builtin.len_,h1,goInt,this]
 | none =>
  rw[hs]at h
  obtain⟨E,hE,h⟩:=aN.1 (show ob (SA t.desc) _=some g from h)
  obtain⟨n,hn,h⟩:=aN.1 h
  cases h
  unfold Tq at hn
  cases hz:v.isSnil with
  |true=>
   rw[hz]at hn;cases hn
   rw[xL hz]at hv
   rw[hv.snil_inv]
   exact⟨_,.int _ _,fun w=>KD w (hG.tab ht) (EZ hE) _ _ _ _⟩
  |false=>
   rw[hz]at hn
   obtain⟨s,hs,hn⟩:=aN.1 (show ob v.asS _=some n from hn)
   cases hn
   rw[Cv hs]at hv
   obtain⟨l,cap,A,hl,rfl,hc,ha⟩:=hv.sl_inv
   exact⟨_,.int _ _,fun w=>KD w (hG.tab ht) (EZ hE) _ _ _ _⟩
end
end
section
theorem NY (off:Nat):∀(vs:lR) (k:Nat) (cs:Array Value),off+k+vs.length<=cs.size->
  ((vs.zipIdx k).foldl (fun cs p=>cs.setIfInBounds (off+p.2) p.1) cs).size=cs.size∧
  ∀i,((vs.zipIdx k).foldl (fun cs p=>cs.setIfInBounds (off+p.2) p.1) cs)[i]? = if off+k<=i∧i<off+k+vs.length then vs[i - (off+k)]? else cs[i]?
 | [],k,cs,_=>⟨rfl,fun i=>by rw[if_neg (by simp)];rfl⟩
 | v :: vs, k, cs, h => by
  simp only[List.length_cons]at h
  simp only[List.zipIdx_cons,List.foldl_cons]
  obtain⟨h1,h2⟩:=NY off vs (k+1) (cs.setIfInBounds (off+k) v) (by simp;omega)
  refine⟨by rw[h1];simp,fun i=> ?_⟩
  rw[h2 i]
  by_cases e:i=off+k
  ·subst e
   rw[if_neg (by omega),if_pos (by simp),Array.getElem?_setIfInBounds_self_of_lt (by omega)]
   simp
  ·by_cases e2:off+(k+1)<=i∧i<off+(k+1)+vs.length
   ·rw[if_pos e2,if_pos (by simp;omega)]
    have:i - (off+k)=(i - (off+(k+1)))+1:=by omega
    rw[this,List.getElem?_cons_succ]
   ·rw[if_neg e2,if_neg (by simp;omega),Array.getElem?_setIfInBounds_ne (Ne.symm e)]
section
variable {P:Program} {tb:TB} {ρ:gH} {V U W:Value} {v u t g:GV}
structure NJ (ρ:gH) (cs:List GV) (a:Array Value):Prop where
 r:xQ ρ cs a.toList
 one:∀v∈a.toList,Go.Sx.one v=true
theorem Kk {a:Array Value} (h:∀v∈a.toList,one v=true) {i:Nat} {v:Value} (hv:a[i]? = some v):one v=true:=h v (by
 rw[<-Array.getElem?_toList]at hv;exact List.mem_of_getElem? hv)
theorem Ji {cs c1 cc:List GV} {a:Array Value} {off sz:Nat} {x:Value} (hr:NJ ρ cs a) (hx:Rl ρ g x) (hc:g.cells=some cc) (hl:cc.length=sz) (h0:sz≠0) (hp:Fy cc off cs=some c1):
  (x.cells.size=sz∧off+x.cells.size<=a.size)∧NJ ρ c1 (x.cells.zipIdx.foldl (fun cs (c,j)=>cs.setIfInBounds (off+j) c) a):=by
 obtain⟨vs,e,hvs,h1⟩:=hx.cells hc
 obtain⟨p1,p2,p3⟩:=Ho hp
 have hne:cc≠[]:=by intro e;subst e;exact h0 hl.symm
 have p1:=p1 hne
 have hlen:cc.length=vs.length:=hvs.len
 have hsz:cs.length=a.size:=by have:=hr.r.len;simpa using this
 rw[e]
 have hfit:off+0+vs.length<=a.size:=by omega
 obtain⟨f1,f2⟩:=NY off vs 0 a hfit
 have ef:(vs.toArray.zipIdx.foldl (fun cs (c,j)=>cs.setIfInBounds (off+j) c) a)=((vs.zipIdx 0).foldl (fun cs p=>cs.setIfInBounds (off+p.2) p.1) a):=by
  simp
 refine⟨⟨by simp;omega,by simp;omega⟩,?_⟩
 rw[ef]
 refine⟨⟨by simp[f1,p2,hsz],fun i b c hb hc=> ?_⟩,fun y hy=> ?_⟩
 ·rw[p3 i]at hb
  rw[Array.getElem?_toList,f2 i]at hc
  simp only[Nat.add_zero]at hc
  by_cases hi:off<=i∧i<off+cc.length
  ·rw[if_pos hi]at hb
   rw[if_pos (by omega)]at hc
   exact hvs.at' _ _ _ hb hc
  ·rw[if_neg hi]at hb
   rw[if_neg (by omega)]at hc
   exact hr.r.at' i b c hb (by rw[Array.getElem?_toList];exact hc)
 ·obtain⟨i,hi⟩:=List.mem_iff_getElem?.1 hy
  rw[Array.getElem?_toList,f2 i]at hi
  split at hi
  ·exact h1 y (List.mem_of_getElem? hi)
  ·exact Kk hr.one hi
theorem Ef {sz:Nat}:∀{l:List (Nat×GV)} {parts:List (Nat×Value)} {cs cs':List GV} {a:Array Value},Wi ρ l parts->NJ ρ cs a->Gn sz l cs=some cs'->
  ∃a',Instr.fill (fun i=>some (i*sz,sz)) a parts=some a'∧NJ ρ cs' a'
 | [],parts,cs,cs',a,hp,hr,h=>by
  have:parts=[]:=by have:=hp.1;simpa using this.symm
  subst this;cases h;exact⟨a,rfl,hr⟩
 | p :: l, parts, cs, cs', a, hp, hr, h => by
  cases parts with
  |nil=>have:=hp.1;simp at this
  |cons q parts=>
   obtain⟨e1,e2⟩:=hp
   simp only[List.map_cons,List.cons.injEq]at e1
   obtain⟨y,ys,e3,h1,h2⟩:=e2.of_cons
   simp only[List.map_cons,List.cons.injEq]at e3
   obtain⟨rfl,rfl⟩:=e3
   obtain⟨cc,hcc,h⟩:=aN.1 (show ob p.2.cells (fun cc=>bif Nat.beq cc.length sz then(bif Nat.beq sz 0 then none else ob (Fy cc (Nat.mul p.1 sz) cs) (Gn sz l))else none)=some cs' from h)
   obtain⟨hl,h⟩:=cN.1 h
   obtain⟨h0,h⟩:=mP.1 h
   obtain⟨c1,hg,h⟩:=aN.1 h
   have h0:sz≠0:=fun e=>by rw[e]at h0;cases h0
   obtain⟨⟨s1,s2⟩,s3⟩:=Ji hr h1 hcc (Nat.eq_of_beq_eq_true hl) h0 hg
   obtain⟨a',f1,f2⟩:=Ef ⟨e1.2,h2⟩ s3 h
   refine⟨a',?_,f2⟩
   have e:Nat.mul p.1 sz=q.1*sz:=by rw[<-e1.1];rfl
   rw[e]at s2 s3 f1
   show Instr.fill _ a ((q.1,q.2)::parts)=_
   unfold Instr.fill
   simp only
   rw[if_neg (by simp only[ne_eq,Bool.or_eq_true,decide_eq_true_eq,not_or,Decidable.not_not];omega)]
   exact f1
theorem Jk {ps:List (Nat×Nat)}:∀{l:List (Nat×GV)} {parts:List (Nat×Value)} {cs cs':List GV} {a:Array Value},Wi ρ l parts->NJ ρ cs a->MX ps l cs=some cs'->
  ∃a',Instr.fill (ps.toArray[·]?) a parts=some a'∧NJ ρ cs' a'
 | [],parts,cs,cs',a,hp,hr,h=>by
  have:parts=[]:=by have:=hp.1;simpa using this.symm
  subst this;cases h;exact⟨a,rfl,hr⟩
 | p :: l, parts, cs, cs', a, hp, hr, h => by
  cases parts with
  |nil=>have:=hp.1;simp at this
  |cons q parts=>
   obtain⟨e1,e2⟩:=hp
   simp only[List.map_cons,List.cons.injEq]at e1
   obtain⟨y,ys,e3,h1,h2⟩:=e2.of_cons
   simp only[List.map_cons,List.cons.injEq]at e3
   obtain⟨rfl,rfl⟩:=e3
   obtain⟨pl,hpl,h⟩:=aN.1 (show ob (Ga ps p.1) (fun q=>ob p.2.cells fun cc=>bif Nat.beq cc.length q.2 then(bif Nat.beq q.2 0 then none else ob (Fy cc q.1 cs) (MX ps l))else none)=some cs' from h)
   obtain⟨cc,hcc,h⟩:=aN.1 h
   obtain⟨hl,h⟩:=cN.1 h
   obtain⟨h0,h⟩:=mP.1 h
   obtain⟨c1,hg,h⟩:=aN.1 h
   have h0:pl.2≠0:=fun e=>by rw[e]at h0;cases h0
   obtain⟨⟨s1,s2⟩,s3⟩:=Ji hr h1 hcc (Nat.eq_of_beq_eq_true hl) h0 hg
   obtain⟨a',f1,f2⟩:=Jk ⟨e1.2,h2⟩ s3 h
   refine⟨a',?_,f2⟩
   rw[uY,e1.1]at hpl
   show Instr.fill _ a ((q.1,q.2)::parts)=_
   unfold Instr.fill
   have:ps.toArray[q.1]? = some pl:=by simpa using hpl
   simp only[this]
   rw[if_neg (by simp only[ne_eq,Bool.or_eq_true,decide_eq_true_eq,not_or,Decidable.not_not];omega)]
   exact f1
theorem uU (hG:fZ P tb) {T:TypeId} {zc:List GV} (h:BP tb T=some zc):∃d,tb T=some d∧sT P T d∧NJ ρ zc d.zero.cells:=by
 obtain⟨d,hd,h⟩:=aN.1 (show ob (tb T) _=some zc from h)
 obtain⟨z,hz,h⟩:=aN.1 h
 obtain⟨vs,e,hr,h1⟩:=(Nk (ρ:=ρ) hz).cells h
 exact⟨d,hd,hG.tab hd,by rw[e];exact⟨hr,h1⟩⟩
theorem Il (hG:fZ P tb):∀{fs:List Field} {pl:List (Nat×Nat)},KE tb fs=some pl->fs.mapM (fun f=>(P.info? f.type).map fun i=>(f.offset,i.size))=some pl
 | [],pl,h=>by cases h;rfl
 |f::fs,pl,h=>by
  obtain⟨t,ht,h⟩:=aN.1 (show ob (tb f.type) (fun t=>ob (KE tb fs) fun r=>some ((f.offset,t.size)::r))=some pl from h)
  obtain⟨r,hr,h⟩:=aN.1 h
  cases h
  obtain⟨i,hi,hs,_,_⟩:=(hG.tab ht).info
  simp[List.mapM_cons,hi,hs,Il hG hr]
theorem Jz (hG:fZ P tb) {T:TypeId} {l:List (Nat×GV)} {parts:List (Nat×Value)} (hp:Wi ρ l parts) (h:Nz tb T l=some g):Co P ρ (Instr.build T parts.toArray) g:=by
 obtain⟨t,ht,h⟩:=aN.1 (show ob (tb T) _=some g from h)
 obtain⟨zc,hz,h⟩:=aN.1 h
 obtain⟨d,hd,hT,hC⟩:=uU (ρ:=ρ) hG hz
 rw[ht]at hd;cases hd
 obtain⟨i,hi,hs,_,hzero⟩:=hT.info
 have hu:=hT.und
 suffices hh:∃a',P.built T parts=some a'∧∃cs',g = .agg cs'∧NJ ρ cs' a' by
  obtain⟨a',hb,cs',rfl,hC'⟩:=hh
  refine⟨.agg a',?_,fun w=>run_build w T parts.toArray a' (by simpa using hb)⟩
  have:=Hg hC'.r hC'.one
  simpa using this
 cases hf:XN t.desc with
 | some fs =>
  rw[hf]at h
  obtain⟨pl,hpl,h⟩:=aN.1 (show ob (LE tb T) _=some g from h)
  obtain⟨cs,hfill,h⟩:=aN.1 h
  cases h
  obtain⟨fl,hfl,hpl⟩:=aN.1 (show ob (rI tb T) _=some pl from hpl)
  have hfl':fl=fs.toList:=by
   obtain⟨t',ht',h'⟩:=aN.1 (show ob (tb T) _=some fl from hfl)
   rw[ht]at ht';cases ht'
   obtain⟨fs',hfs',h'⟩:=aN.1 h'
   rw[hf]at hfs';cases hfs';cases h';rfl
  subst hfl'
  obtain⟨a',f1,f2⟩:=Jk hp hC hfill
  refine⟨a',?_,cs,rfl,f2⟩
  rw[KN hf]at hu
  unfold Program.built
  simp only[hi,hu,hzero,Il hG hpl]
  exact f1
 |none=>
  rw[hf]at h
  obtain⟨e,he,h⟩:=aN.1 (show ob (Wc t.desc) _=some g from h)
  obtain⟨te,hte,h⟩:=aN.1 h
  obtain⟨cs,hfill,h⟩:=aN.1 h
  cases h
  obtain⟨a',f1,f2⟩:=Ef hp hC hfill
  refine⟨a',?_,cs,rfl,f2⟩
  rw[Nw he]at hu
  obtain⟨ie,hie,hse,_,_⟩:=(hG.tab hte).info
  unfold Program.built
  simp only[hi,hu,hzero,hie,hse]
  exact f1
end
def CV (ρ:gH) (w:World) (l:Mm):GO->Prop
 | .cells cs=>∃(cur:Array Value) (T:TypeId),w.heap[l.b]? = some (.cells cur T (0,0))∧cur.size=l.size∧l.off+cs.length<=l.size∧∀(i:Nat) g,cs[i]? = some g->∃v,cur[l.off+i]? = some v∧Rl ρ g v∧one v=true
 | .mp es=>∃(en:Array MapEntry) (clock:Nat),w.heap[l.b]? = some (.map en clock)∧en.size=es.length∧∀(i:Nat) e,es[i]? = some e->∃m,en[i]? = some m∧Rl ρ e.1 m.key∧Rl ρ e.2 m.val
theorem CV.lt {ρ:gH} {w:World} {l:Mm} {o:GO} (h:CV ρ w l o):l.b<w.heap.size:=by
 cases o with
 |cells cs=>obtain⟨cur,T,h,_⟩:=h;exact(Array.getElem?_eq_some_iff.1 h).1
 |mp es=>obtain⟨cur,T,h,_⟩:=h;exact(Array.getElem?_eq_some_iff.1 h).1
theorem CV.move {ρ ρ':gH} {w w':World} {l:Mm} {o:GO} (h:CV ρ w l o) (hl:ρ.le ρ') (e:w'.heap[l.b]? = w.heap[l.b]?):CV ρ' w' l o:=by
 cases o with
 |cells cs=>obtain⟨cur,T,h1,h2,h3,h4⟩:=h;exact⟨cur,T,by rw[e];exact h1,h2,h3,fun i g hg=>let ⟨v,a,b,c⟩:=h4 i g hg;⟨v,a,b.le hl,c⟩⟩
 |mp es=>obtain⟨en,cl,h1,h2,h3⟩:=h;exact⟨en,cl,by rw[e];exact h1,h2,fun i g hg=>let ⟨m,a,b,c⟩:=h3 i g hg;⟨m,a,b.le hl,c.le hl⟩⟩
structure BQ where
 obs:List (Nat×Obj)
 env:List Value
def KW (gs:BQ) (w:World) (O:Nat->Prop):Prop:=∀p∈gs.obs,w.heap[p.1]? = some p.2∧¬O p.1
structure iQ (gs:BQ) where
 w:World
 O:Nat->Prop
 ok:KW gs w O
def iQ.mine {gs:BQ} (b:iQ gs) (k:Nat):Prop:=b.w.heap.size<=k∨b.O k
structure jG {gs:BQ} (w0:iQ gs) (ρ:gH) (H:GH) (w:World):Prop where
 ext:Dh w0.O w0.w w
 live:∀h o,H.get h=some o->∃l,ρ h=some l∧w0.mine l.b∧CV ρ w l o
 inj:∀h h' o o' l l',H.get h=some o->H.get h'=some o'->ρ h=some l->ρ h'=some l'->l.b=l'.b->h=h'
 fresh:∀h,H.n<=h->ρ h=none
 dense:∀h,h<H.n->∃l,ρ h=some l
 /-- the block holds what was written last -/
 vers:∀h v l,H.ver h=some v->ρ h=some l->∃lv,ρ v=some lv∧w.heap[l.b]? = some lv.x∧H.get h=some lv.o
 /-- the first handles stand for the open values -/
 env:∀i v,gs.env[i]? = some v->∃l,ρ i=some l∧l.x = .cells #[v] 0 (0,0)
theorem jG.lt {gs:BQ} {w0:iQ gs} {w:World} {ρ:gH} {H:GH} (R:jG w0 ρ H w) {h:Nat} {o:GO} (hg:H.get h=some o):h<H.n:=by
 rcases Nat.lt_or_ge h H.n with h'|h'
 ·exact h'
 ·obtain⟨l,hl,_⟩:=R.live h o hg
  rw[R.fresh h h']at hl;cases hl
def JG (P:Program) {gs:BQ} (w0:iQ gs) (ρ:gH) (s:Sem Value) (w:World) (g:GV) (H':GH):Prop:=∃v w' ρ',s.run P w = .ok v w'∧ρ.le ρ'∧jG w0 ρ' H' w'∧Rl ρ' g v
def gH.upd (ρ:gH) (h:Nat) (l:Mm):gH:=fun k=>if k=h then some l else ρ k
theorem A_ {ρ:gH} {h:Nat} {l:Mm} (hf:ρ h=none):ρ.le (ρ.upd h l):=fun k x hx=>by
 unfold gH.upd
 by_cases e:k=h
 ·subst e;rw[hf]at hx;cases hx
 ·rw[if_neg e];exact hx
theorem jG.new {gs:BQ} {w0:iQ gs} {w w':World} {ρ:gH} {H:GH} (R:jG w0 ρ H w) {o:GO} {l:Mm} (he:Dh w0.O w0.w w') (hb:∀h o' l',H.get h=some o'->ρ h=some l'->w'.heap[l'.b]? = w.heap[l'.b]? ∧ l'.b≠l.b) (h0:w0.mine l.b)
    (ho:CV (ρ.upd H.n l) w' l o) (hx:w'.heap[l.b]? = some l.x) (hlo:l.o=o:=by rfl):ρ.le (ρ.upd H.n l)∧jG w0 (ρ.upd H.n l) (H.new o) w':=by
  have hle:ρ.le (ρ.upd H.n l):=A_ (R.fresh _ (Nat.le_refl _))
  have hne:∀h o',H.get h=some o'->h≠H.n:=fun h o' hg=>Nat.ne_of_lt (R.lt hg)
  have hsame:∀h,h≠H.n->(ρ.upd H.n l) h=ρ h:=fun h hh=>by simp[gH.upd,hh]
  have hself:(ρ.upd H.n l) H.n=some l:=by simp[gH.upd]
  refine⟨hle,he,?_,?_,?_,?_,?_,fun i v e=>let ⟨l,a,b⟩:=R.env i v e;⟨l,hle _ _ a,b⟩⟩
  · intro h o' hg
    rw[sV]at hg
    by_cases e:h=H.n
    · subst e;rw[if_pos rfl]at hg;cases hg;exact⟨l,hself,h0,ho⟩
    · rw[if_neg e]at hg
      obtain⟨l',hl',hb',ho'⟩:=R.live h o' hg
      exact⟨l',by rw[hsame h e];exact hl',hb',ho'.move hle (hb h o' l' hg hl').1⟩
  · intro h h' o1 o2 l1 l2 hg hg' hl hl' hbb
    rw[sV]at hg hg'
    by_cases e:h=H.n
    · by_cases e':h'=H.n
      · rw[e,e']
      · rw[if_neg e']at hg'
        rw[hsame h' e']at hl'
        subst e;rw[hself]at hl;cases hl
        exact absurd hbb.symm (hb h' o2 l2 hg' hl').2
    · rw[if_neg e]at hg
      rw[hsame h e]at hl
      by_cases e':h'=H.n
      · subst e';rw[hself]at hl';cases hl'
        exact absurd hbb (hb h o1 l1 hg hl).2
      · rw[if_neg e']at hg'
        rw[hsame h' e']at hl'
        exact R.inj h h' o1 o2 l1 l2 hg hg' hl hl' hbb
  · intro h hh
    have : h ≠ H.n := by
        have : H.n + 1 ≤ h := hh
        omega
    rw[hsame h this]
    exact R.fresh h (by
        have : H.n + 1 ≤ h := hh
        omega)
  · intro h hh
    have hh:h<H.n+1:=hh
    by_cases e:h=H.n
    · subst e;exact⟨l,hself⟩
    · rw[hsame h e];exact R.dense h (by omega)
  · intro h v l' hv hl'
    rw[Mu]at hv
    by_cases e:h=H.n
    · subst e;rw[if_pos rfl]at hv;cases hv
      rw[hself]at hl';cases hl'
      exact⟨l,hself,hx,by rw[sV,if_pos rfl,hlo]⟩
    · rw[if_neg e]at hv
      rw[hsame h e]at hl'
      obtain⟨lv,h1,h2,h3⟩:=R.vers h v l' hv hl'
      obtain⟨p,hp,_⟩:=aN.1 (show ob (H.t.get h) _=some v from hv)
      exact⟨lv,hle _ _ h1,by rw[(hb h p.2 l' (by unfold GH.get;rw[hp];rfl) hl').1];exact h2,by rw[sV,if_neg e];exact h3⟩
theorem jG.set {gs:BQ} {w0:iQ gs} {w w':World} {ρ:gH} {H:GH} (R:jG w0 ρ H w) {h:Nat} {o o':GO} {l:Mm} {X:Obj} (hg:H.get h=some o) (hl:ρ h=some l) (he:Dh w0.O w0.w w') (hb:∀k,k≠l.b->w'.heap[k]? = w.heap[k]?) (ho:CV ρ w' l o') (hx:w'.heap[l.b]? = some X):
  ρ.le (ρ.upd H.n ⟨l.b,l.off,l.size,X,o'⟩)∧jG w0 (ρ.upd H.n ⟨l.b,l.off,l.size,X,o'⟩) (H.set h o') w':=by
 have hle:ρ.le (ρ.upd H.n ⟨l.b,l.off,l.size,X,o'⟩):=A_ (R.fresh _ (Nat.le_refl _))
 have hsame:∀k,k≠H.n->(ρ.upd H.n ⟨l.b,l.off,l.size,X,o'⟩) k=ρ k:=fun k hk=>by simp[gH.upd,hk]
 have hself:(ρ.upd H.n ⟨l.b,l.off,l.size,X,o'⟩) H.n=some ⟨l.b,l.off,l.size,X,o'⟩:=by simp[gH.upd]
 have key:∀k x,(if k=h then some o' else H.get k)=some x->∃y,H.get k=some y:=fun k x hx=>by
  by_cases e:k=h
  ·subst e;exact⟨o,hg⟩
  ·rw[if_neg e]at hx;exact⟨x,hx⟩
 refine⟨hle,he,?_,?_,?_,?_,?_,fun i v e=>let ⟨l,a,b⟩:=R.env i v e;⟨l,hle _ _ a,b⟩⟩
 ·intro k x hk
  rw[sW]at hk
  by_cases e:k=h
  ·subst e;rw[if_pos rfl]at hk;cases hk
   obtain⟨l',hl',h0,_⟩:=R.live k o hg
   rw[hl]at hl';cases hl'
   exact⟨l,hle _ _ hl,h0,ho.move hle rfl⟩
  ·rw[if_neg e]at hk
   obtain⟨l',hl',h0,ho'⟩:=R.live k x hk
   refine⟨l',hle _ _ hl',h0,ho'.move hle (hb _ fun e'=>e (R.inj k h x o l' l hk hg hl' hl e'))⟩
 ·intro k k' o1 o2 l1 l2 h1 h2 hl1 hl2 hbb
  rw[sW]at h1 h2
  obtain⟨y1,hy1⟩:=key k o1 h1
  obtain⟨y2,hy2⟩:=key k' o2 h2
  rw[hsame k (Nat.ne_of_lt (R.lt hy1))]at hl1
  rw[hsame k' (Nat.ne_of_lt (R.lt hy2))]at hl2
  exact R.inj k k' y1 y2 l1 l2 hy1 hy2 hl1 hl2 hbb
 ·intro k hk
  have hk':H.n+1<=k:=hk
  rw[hsame k (by omega)]
  exact R.fresh k (by omega)
 ·intro k hk
  have hk:k<H.n+1:=hk
  by_cases e:k=H.n
  ·subst e;exact⟨_,hself⟩
  ·rw[hsame k e];exact R.dense k (by omega)
 ·intro k v l' hv hl'
  rw[Mv]at hv
  by_cases e:k=h
  ·subst e;rw[if_pos rfl]at hv;cases hv
   rw[hsame k (Nat.ne_of_lt (R.lt hg)),hl]at hl';cases hl'
   exact⟨_,hself,hx,by rw[sW,if_pos rfl]⟩
  ·rw[if_neg e]at hv
   obtain⟨p,hp,_⟩:=aN.1 (show ob (H.t.get k) _=some v from hv)
   have hgk:H.get k=some p.2:=by unfold GH.get;rw[hp];rfl
   rw[hsame k (Nat.ne_of_lt (R.lt hgk))]at hl'
   obtain⟨lv,h1,h2,h3⟩:=R.vers k v l' hv hl'
   exact⟨lv,hle _ _ h1,by rw[hb l'.b fun e'=>e (R.inj k h p.2 o l' l hgk hg hl' hl e')];exact h2,by rw[sW,if_neg e];exact h3⟩
theorem jG.del {gs:BQ} {w0:iQ gs} {w:World} {ρ:gH} {H:GH} (R:jG w0 ρ H w) (h:Nat):jG w0 ρ (H.del h) w:=by
 have key:∀k x,(H.del h).get k=some x->H.get k=some x:=fun k x hx=>by
  rw[EK]at hx
  by_cases e:k=h
  ·rw[if_pos e]at hx;cases hx
  ·rw[if_neg e]at hx;exact hx
 exact⟨R.ext,fun k x hx=>R.live k x (key k x hx),fun k k' o1 o2 l1 l2 h1 h2=>R.inj k k' o1 o2 l1 l2 (key _ _ h1) (key _ _ h2),R.fresh,R.dense,fun k v l hv hl=>by
  rw[Mt]at hv
  by_cases e:k=h
  ·rw[if_pos e]at hv;cases hv
  ·rw[if_neg e]at hv
   obtain⟨lv,h1,h2,h3⟩:=R.vers k v l hv hl
   exact⟨lv,h1,h2,by rw[EK,if_neg e];exact h3⟩,R.env⟩
theorem jG.ext' {gs:BQ} {w0:iQ gs} {w w':World} {ρ:gH} {H:GH} (R:jG w0 ρ H w) (e:Ml w w'):jG w0 ρ H w':=
 ⟨R.ext.trans e,fun h o hg=>let ⟨l,a,b,c⟩:=R.live h o hg;⟨l,a,b,c.move (gH.le_refl _) (e.block _ c.lt)⟩,R.inj,R.fresh,R.dense,fun h v l hv hl=>by
  obtain⟨lv,h1,h2,h3⟩:=R.vers h v l hv hl
  exact⟨lv,h1,(by rw[e.block _ (Array.getElem?_eq_some_iff.1 h2).1];exact h2),h3⟩,R.env⟩
theorem jG.mono {gs gs':BQ} {w0:iQ gs} {w0':iQ gs'} {w w':World} {ρ ρ':gH} {H H':GH} (R:jG w0 ρ H w) (R':jG w0' ρ' H' w') (hle:ρ.le ρ'):H.n<=H'.n:=by
 rcases Nat.lt_or_ge H'.n H.n with h|h
 ·obtain⟨l,hl⟩:=R.dense _ h
  have:=R'.fresh _ (Nat.le_refl _)
  rw[hle _ _ hl]at this;cases this
 ·exact h
def PZ (ρ:gH) (H:GH) (k:Nat):Prop:=∃h o l,H.get h=some o∧ρ h=some l∧l.b=k
theorem jG.glo {gs:BQ} {w0:iQ gs} {w:World} {ρ:gH} {H:GH} (R:jG w0 ρ H w):KW gs w (PZ ρ H):=fun p hp=>by
 obtain⟨h1,h2⟩:=w0.ok p hp
 have hlt:p.1<w0.w.heap.size:=(Array.getElem?_eq_some_iff.1 h1).1
 refine⟨by rw[R.ext.block p.1 hlt h2];exact h1,fun⟨h,o,l,hg,hl,e⟩=> ?_⟩
 obtain⟨l',hl',hb,_⟩:=R.live h o hg
 rw[hl]at hl';cases hl'
 rw[e]at hb
 rcases hb with hb|hb
 ·omega
 ·exact h2 hb
def jG.base {gs:BQ} {w0:iQ gs} {w:World} {ρ:gH} {H:GH} (R:jG w0 ρ H w):iQ gs:=⟨w,PZ ρ H,R.glo⟩
def iQ.of {gs:BQ} (w:World) (h:KW gs w fun _=>False):iQ gs:=⟨w,fun _=>False,h⟩
def WQ:BQ:=⟨[],[]⟩
def iQ.one (w:World):iQ WQ:= .of w fun _ h=>absurd h List.not_mem_nil
theorem jG.rebase {gs:BQ} {w0:iQ gs} {w:World} {ρ:gH} {H:GH} (R:jG w0 ρ H w):jG R.base ρ H w:=
 ⟨Dh.refl _,fun h o hg=>let ⟨l,a,_,c⟩:=R.live h o hg;⟨l,a,.inr ⟨h,o,l,hg,a,rfl⟩,c⟩,R.inj,R.fresh,R.dense,R.vers,R.env⟩
theorem jG.back {gs:BQ} {w0:iQ gs} {w w':World} {ρ ρ':gH} {H H':GH} (R:jG w0 ρ H w) (R':jG R.base ρ' H' w'):jG w0 ρ' H' w'∧∀k,k<w.heap.size->¬PZ ρ H k->w'.heap[k]? = w.heap[k]?:=by
 have hm:∀k,PZ ρ H k->w0.mine k:=fun k ⟨h,o,l,hg,hl,e⟩=>by
  obtain⟨l',hl',hb,_⟩:=R.live h o hg
  rw[hl]at hl';cases hl'
  rw[<-e];exact hb
 refine⟨⟨⟨R'.ext.os.trans R.ext.os,R'.ext.tape.trans R.ext.tape,R'.ext.output.trans R.ext.output,Nat.le_trans R.ext.size R'.ext.size,fun k hk hO=> ?_⟩,fun h o hg=> ?_,R'.inj,R'.fresh,R'.dense,R'.vers,R'.env⟩,fun k hk hh=>R'.ext.block k hk hh⟩
 ·rw[R'.ext.block k (Nat.lt_of_lt_of_le hk R.ext.size) (fun hh=>by rcases hm k hh with h|h;exact absurd h (by omega);exact hO h)]
  exact R.ext.block k hk hO
 ·obtain⟨l,hl,hb,ho⟩:=R'.live h o hg
  refine⟨l,hl,?_,ho⟩
  rcases hb with hb|hb
  ·exact .inl (Nat.le_trans R.ext.size hb)
  ·exact hm _ hb
section
variable {P:Program} {tb:TB} {ρ:gH} {V U W:Value} {v u t g:GV} {gs:BQ} {w0:iQ gs} {w:World} {H H':GH}
theorem jG.alloc (R:jG w0 ρ H w) {cs:List GV} {a:Array Value} (T:TypeId) (hr:NJ ρ cs a):
  ∃ρ',ρ.le ρ'∧ρ'=ρ.upd H.n ⟨w.heap.size,0,a.size,.cells a T,.cells cs⟩∧jG w0 ρ' (H.new (.cells cs)) (w.alloc (.cells a T)):=by
 have e:Ml w (w.alloc (.cells a T)):=(Below.refl _ _).alloc (Nat.le_refl _) _
 have h:=R.new (o:= .cells cs) (l:=⟨w.heap.size,0,a.size,.cells a T,.cells cs⟩) (R.ext.trans e) (fun h o' l' hg hl=>by
  obtain⟨l,hl',_,ho⟩:=R.live h o' hg
  rw[hl]at hl';cases hl'
  exact⟨e.block _ ho.lt,Nat.ne_of_lt ho.lt⟩) (.inl R.ext.size) (by
  refine⟨a,T,heap_alloc_new w _,rfl,by have:=hr.r.len;simp at this;simp[this],fun i g hg=> ?_⟩
  obtain⟨x,hx,hrx⟩:=hr.r.get hg
  rw[Array.getElem?_toList]at hx
  exact⟨x,by simpa using hx,hrx.le (A_ (R.fresh _ (Nat.le_refl _))),Kk hr.one hx⟩) (heap_alloc_new w _)
 exact⟨_,h.1,rfl,h.2⟩
theorem TS {T:TypeId} (R:jG w0 ρ H w) (hv:Rl ρ v V) (h:F_ v H=some (g,H')):JG P w0 ρ (Instr.box T V) w g H':=by
 obtain⟨vc,hc,h⟩:=aN.1 (show ob v.cells _=some (g,H')from h)
 rw[jK]at h;cases h
 obtain⟨vs,e,hr,h1⟩:=hv.cells hc
 obtain⟨ρ',hle,rfl,R'⟩:=R.alloc T (cs:=vc) (a:=V.cells) (by rw[e];exact⟨hr,h1⟩)
 refine⟨_,_,_,?_,hle,R',.ptr (l:=⟨w.heap.size,0,V.cells.size,.cells V.cells T,.cells vc⟩) 0 (by simp[gH.upd])⟩
 simp[Instr.box,newVar,newRow]
theorem GC (hG:fZ P tb) {T:TypeId} (R:jG w0 ρ H w) (h:sN tb T H=some (g,H')):JG P w0 ρ (Instr.alloc T true (.tuple #[])) w g H':=by
 obtain⟨zc,hz,h⟩:=aN.1 (show ob (BP tb T) _=some (g,H')from h)
 rw[jK]at h;cases h
 obtain⟨d,hd,hT,hC⟩:=uU (ρ:=ρ) hG hz
 obtain⟨ρ',hle,rfl,R'⟩:=R.alloc T hC
 exact⟨_,_,_,Gt w hT,hle,R',.ptr (l:=⟨w.heap.size,0,d.zero.cells.size,.cells d.zero.cells T,.cells zc⟩) 0 (by simp[gH.upd])⟩
theorem jG.cells (R:jG w0 ρ H w) {h:Nat} {cs:List GV} (hc:H.cells h=some cs) {l:Mm} (hl:ρ h=some l):CV ρ w l (.cells cs):=by
 obtain⟨l',hl',_,ho⟩:=R.live h _ (iZ.1 hc)
 rw[hl]at hl';cases hl';exact ho
theorem IB (hG:fZ P tb) {T:TypeId} (R:jG w0 ρ H w) (hv:Rl ρ v V) (h:xO tb T v H=some g):∃(x:Value) (p:Nat×Nat) (l:Mm),v = .ptr p.1 p.2∧ρ p.1=some l∧(∃o,H.get p.1=some o)∧Rl ρ g x∧∀w',w'.heap[l.b]? = w.heap[l.b]? -> (Instr.loadAt T V).run P w' = .ok x w':=by
 obtain⟨p,hp,h⟩:=aN.1 (show ob v.asP _=some g from h)
 obtain⟨cs,hcs,h⟩:=aN.1 h
 obtain⟨t,ht,h⟩:=aN.1 h
 have hpe:=Dp hp
 have hg0:=iZ.1 hcs
 rw[Dp hp]at hv
 obtain⟨l,hl,rfl⟩:=hv.ptr_inv
 obtain⟨cur,T',hb,hsz,hfit,hcell⟩:=R.cells hcs hl
 have hT:=hG.tab ht
 unfold BA at h
 cases ha:Bb t.desc with
 | true =>
  rw[ha]at h
  obtain⟨r,hs,h⟩:=aN.1 h
  cases h
  obtain⟨hbnd,rfl⟩:=KF hs
  let vs:=((cur.toList.drop (l.off+p.2)).take t.size)
  have hlen:vs.length=t.size:=by simp[vs];omega
  have hrel:xQ ρ ((cs.drop p.2).take t.size) vs:=⟨by rw[hlen];simp;omega,fun i a b hai hbi=>by
   simp only[vs]at hbi
   rw[List.getElem?_take]at hai hbi
   by_cases hi:i<t.size
   ·rw[if_pos hi,List.getElem?_drop]at hai hbi
    obtain⟨x,h1,h2,_⟩:=hcell _ _ hai
    rw[Array.getElem?_toList,show l.off+p.2+i=l.off+(p.2+i) by omega,h1]at hbi
    cases hbi;exact h2
   ·rw[if_neg hi]at hai;cases hai⟩
  have hone:∀x∈vs,one x=true:=fun x hx=>by
   obtain⟨i,hi⟩:=List.mem_iff_getElem?.1 hx
   have hlt:=bN hi
   have hai:((cs.drop p.2).take t.size)[i]? = some (cs[p.2+i]'(by omega)):=by
    rw[List.getElem?_take,if_pos (by omega),List.getElem?_drop,List.getElem?_eq_getElem (by omega)]
   simp only[vs]at hi
   rw[List.getElem?_take,if_pos (by omega),List.getElem?_drop,Array.getElem?_toList,show l.off+p.2+i=l.off+(p.2+i) by omega]at hi
   obtain⟨y,h1,_,h3⟩:=hcell (p.2+i) _ (List.getElem?_eq_getElem (by omega))
   rw[h1]at hi;cases hi;exact h3
  refine⟨_,p,l,hpe,hl,⟨_,hg0⟩,Hg hrel hone,fun w' hw'=> ?_⟩
  rw[hb]at hw'
  refine AB hT ha hlen (fun j x hx=> ?_)
  rw[fM]
  have hlt:=bN hx
  simp only[vs]at hx
  rw[List.getElem?_take,if_pos (by omega),List.getElem?_drop,Array.getElem?_toList]at hx
  simp[World.cell?,hw',hx]
 |false=>
  rw[ha]at h
  rw[cond_false,uY]at h
  obtain⟨x,h1,h2,_⟩:=hcell _ _ h
  exact⟨x,p,l,hpe,hl,⟨_,hg0⟩,h2,fun w' hw'=>Cg hT ha (by rw[hb]at hw';simp[World.cell?,hw',h1])⟩
theorem GD (hG:fZ P tb) {T:TypeId} (R:jG w0 ρ H w) (hv:Rl ρ v V) (hu:Rl ρ u U) (h:uB tb T v u H=some (g,H')):g = .un∧∃w' ρ',(Instr.storeAt T V U).run P w = .ok () w'∧ρ.le ρ'∧jG w0 ρ' H' w':=by
 obtain⟨p,hp,h⟩:=aN.1 (show ob v.asP _=some (g,H')from h)
 obtain⟨cs,hcs,h⟩:=aN.1 h
 obtain⟨t,ht,h⟩:=aN.1 h
 obtain⟨uc,huc,h⟩:=aN.1 h
 obtain⟨hl1,h⟩:=cN.1 h
 obtain⟨h0,h⟩:=mP.1 h
 obtain⟨c1,hput,h⟩:=aN.1 h
 rw[zH]at h
 cases h
 refine⟨rfl,?_⟩
 rw[Dp hp]at hv
 obtain⟨l,hl,rfl⟩:=hv.ptr_inv
 obtain⟨cur,T',hb,hsz,hfit,hcell⟩:=R.cells hcs hl
 obtain⟨us,eU,hus,hone⟩:=hu.cells huc
 have hT:=hG.tab ht
 have hlen:uc.length=t.size:=Nat.eq_of_beq_eq_true hl1
 have hul:uc.length=us.length:=hus.len
 have hne:uc≠[]:=by intro e;rw[e]at hlen;simp at hlen;rw[<-hlen]at h0;cases h0
 obtain⟨p1,p2,p3⟩:=Ho hput
 have p1:=p1 hne
 have hst:=run_storeCells_at P l.b (l.off+p.2) T' us 0 cur w hb (by omega) (fun x hx=>oQ (hone x hx))
 simp only[Nat.add_zero]at hst
 refine⟨w.setRow l.b (cur.toList.take (l.off+p.2)++us++cur.toList.drop (l.off+p.2+us.length)).toArray,_,?_,R.set (iZ.1 hcs) hl ?_ (fun k hk=>setRow_other w l.b k _ hk) ?_ (setRow_heap w l.b _ _ T' _ hb)⟩
 ·have hs:=hT.run_size w
  simp only[Instr.storeAt,Instr.sureAddr,storeVar,eU]
  have e:us.toArray.size=t.size:=by simp;omega
  simp[hs,e,hst]
 ·obtain⟨l',hl',hbase,_⟩:=R.live _ _ (iZ.1 hcs)
  rw[hl]at hl';cases hl'
  exact⟨R.ext.os,R.ext.tape,R.ext.output,by simpa using R.ext.size,fun k hk hO=>by
   rw[setRow_other w l.b k _ (fun e=>by subst e;rcases hbase with hbase|hbase;exact absurd hbase (by omega);exact hO hbase)];exact R.ext.block k hk hO⟩
 ·refine⟨_,T',setRow_heap w l.b _ _ T' _ hb,?_,by omega,fun i x hx=> ?_⟩
  ·simp;omega
  ·rw[p3 i]at hx
   have hcl:cur.toList.length=cur.size:=by simp
   have key:(cur.toList.take (l.off+p.2)++us++cur.toList.drop (l.off+p.2+us.length)).toArray[l.off+i]? = if p.2<=i∧i<p.2+us.length then us[i - p.2]? else cur[l.off+i]?:=by
    rw[List.getElem?_toArray,List.append_assoc]
    by_cases hi:i<p.2
    ·rw[if_neg (by omega),List.getElem?_append_left (by simp;omega),List.getElem?_take,if_pos (by omega),Array.getElem?_toList]
    ·rw[List.getElem?_append_right (by simp;omega),List.length_take]
     have e1:min (l.off+p.2) cur.toList.length=l.off+p.2:=by omega
     rw[e1]
     by_cases hi2:i<p.2+us.length
     ·rw[if_pos (by omega),List.getElem?_append_left (by omega)]
      congr 1;omega
     ·rw[if_neg (by omega),List.getElem?_append_right (by omega),List.getElem?_drop,Array.getElem?_toList]
      congr 1;omega
   by_cases hi:p.2<=i∧i<p.2+uc.length
   ·rw[if_pos hi]at hx
    obtain⟨y,hy,hr⟩:=hus.get hx
    exact⟨y,by rw[key,if_pos (by omega)];exact hy,hr,hone y (List.mem_of_getElem? hy)⟩
   ·rw[if_neg hi]at hx
    obtain⟨y,hy,hr⟩:=hcell i x hx
    exact⟨y,by rw[key,if_neg (by omega)];exact hy,hr⟩
end
end
section
section
variable {P:Program} {tb:TB} {ρ:gH} {V U W:Value} {v u t g:GV} {gs:BQ} {w0:iQ gs} {w:World} {H H':GH}
theorem FI (z:List GV):∀n,(Mq z n).length=n*z.length
 |0=>by show([]:List GV).length=_;simp
 |n+1=>by
  have:Mq z (n+1)=z++Mq z n:=rfl
  rw[this,List.length_append,FI z n,Nat.add_mul];omega
theorem Oo (z:List GV) (hz:0<z.length):∀(n i:Nat),i<n*z.length->(Mq z n)[i]? = z[i%z.length]?
 |0,i,h=>by simp at h
 |n+1,i,h=>by
  have:Mq z (n+1)=z++Mq z n:=rfl
  rw[this]
  by_cases hi:i<z.length
  ·rw[List.getElem?_append_left hi,Nat.mod_eq_of_lt hi]
  ·rw[List.getElem?_append_right (by omega),Oo z hz n (i - z.length) (by have:(n+1)*z.length=n*z.length+z.length:=Nat.succ_mul n z.length;omega),<-Nat.mod_eq_sub_mod (by omega)]
theorem FJ {zc:List GV} {z:Array Value} (hC:NJ ρ zc z) (h0:0<zc.length) (n:Nat):NJ ρ (Mq zc n) ((Array.range (n*zc.length)).map (z[· % z.size]!)):=by
 have hl:zc.length=z.size:=by have:=hC.r.len;simpa using this
 have hz:0<z.size:=by omega
 have hget:∀i,i<n*zc.length->z[i%z.size]? = some (z[i%z.size]!):=fun i _=>by
  have hm:i%z.size<z.size:=Nat.mod_lt _ hz
  rw[getElem!_pos z (i%z.size) hm];simp
 refine⟨⟨by simp[FI],fun i a b ha hb=> ?_⟩,fun x hx=> ?_⟩
 ·have hi:=bN ha
  rw[FI]at hi
  rw[Oo zc h0 n i hi]at ha
  have hb':some (z[i%z.size]!)=some b:=by
   rw[<-hb,Array.getElem?_toList]
   simp[hi]
  cases hb'
  refine hC.r.at' (i%zc.length) a _ ha ?_
  rw[Array.getElem?_toList,hl]
  exact hget i hi
 ·simp only[Array.toList_map,List.mem_map]at hx
  obtain⟨i,hi,rfl⟩:=hx
  have hi:i<n*zc.length:=by simpa using hi
  exact Kk hC.one (hget i hi)
theorem EV {sz:Nat}:∀{l:List (Nat×GV)} {r0 cs:List GV},Gn sz l r0=some cs->cs.length=r0.length
 | [],r0,cs,h=>by cases h;rfl
 |p::l,r0,cs,h=>by
  obtain⟨cc,hcc,h⟩:=aN.1 (show ob p.2.cells (fun cc=>bif Nat.beq cc.length sz then(bif Nat.beq sz 0 then none else ob (Fy cc (Nat.mul p.1 sz) r0) (Gn sz l))else none)=some cs from h)
  obtain⟨_,h⟩:=cN.1 h
  obtain⟨_,h⟩:=mP.1 h
  obtain⟨c1,hg,h⟩:=aN.1 h
  rw[EV h]
  exact(Ho hg).2.1
theorem NA (hG:fZ P tb) {T:TypeId} {n:Nat} {l:List (Nat×GV)} {parts:List (Nat×Value)} (R:jG w0 ρ H w) (hp:Wi ρ l parts) (h:AY tb T n l H=some (g,H')):JG P w0 ρ (Instr.buildSlice T n parts.toArray) w g H':=by
 obtain⟨te,hte,h⟩:=aN.1 (show ob (AH tb T) _=some (g,H')from h)
 obtain⟨zc,hz,h⟩:=aN.1 h
 obtain⟨hlen,h⟩:=cN.1 h
 obtain⟨hbig,h⟩:=cN.1 h
 obtain⟨h0,h⟩:=mP.1 h
 obtain⟨cs,hfill,h⟩:=aN.1 h
 rw[jK]at h;cases h
 obtain⟨⟨d,hd,hde⟩,hE,htab⟩:=xJ hG hte
 obtain⟨dz,hdz,_,hC⟩:=uU (ρ:=ρ) hG hz
 rw[htab]at hdz;cases hdz
 have hlen:zc.length=te.2.size:=Nat.eq_of_beq_eq_true hlen
 have h0:te.2.size≠0:=fun e=>by rw[e]at h0;cases h0
 have hbig:n*te.2.size<16777216:=by simpa [Nat.blt_eq]using hbig
 have hrep:=FJ hC (by omega) n
 rw[hlen]at hrep
 obtain⟨a',f1,f2⟩:=Ef hp hrep hfill
 obtain⟨ρ',hle,rfl,R'⟩:=R.alloc te.1 f2
 have hsz:a'.size=n*te.2.size:=by
  have e1:=f2.r.len
  have:cs.length=(Mq zc n).length:=EV hfill
  rw[this,FI,hlen]at e1
  simp at e1;omega
 refine⟨_,_,_,?_,hle,R',.sl (l:=⟨w.heap.size,0,a'.size,.cells a' te.1,.cells cs⟩) (cap:=n) (A:=⟨w.heap.size,0,none⟩) (by simp[gH.upd]) (Nat.le_refl _) (.inr ⟨rfl,by simp[hsz]⟩)⟩
 have hu:=hd.run_und w
 rw[hde]at hu
 by_cases hn:n*te.2.size=0
 ·have hz0:n=0:=by rcases Nat.mul_eq_zero.1 hn with h|h;exact h;exact absurd h h0
  subst hz0
  have e0:(Array.range (0*te.2.size)).map (te.2.zero.cells[· % te.2.zero.cells.size]!)=(#[]:Array Value):=by simp
  rw[e0]at f1
  have e1:(Array.range 0).map (fun _=>(default:Value)) = #[]:=by simp
  simp[Instr.buildSlice,hu,hE.run_size w,newRow]
  simp[e1,f1]
 ·simp[Instr.buildSlice,hu,hE.run_size w,hE.run_zero w,hn,f1,newRow,show¬(16777216<n*te.2.size) by omega]
theorem Sp (hG:fZ P tb) {T:TypeId} (R:jG w0 ρ H w) (hv:Rl ρ v V) (hu:Rl ρ u U) (h:Mb tb T v u H=some (g,H')):JG P w0 ρ (Instr.makeSlice T V U) w g H':=by
 obtain⟨te,hte,h⟩:=aN.1 (show ob (AH tb T) _=some (g,H')from h)
 obtain⟨zc,hz,h⟩:=aN.1 h
 obtain⟨k,hk,h⟩:=aN.1 h
 obtain⟨c,hc,h⟩:=aN.1 h
 obtain⟨heq,h⟩:=cN.1 h
 obtain⟨n,hn,h⟩:=aN.1 h
 obtain⟨hlen,h⟩:=cN.1 h
 obtain⟨hby,h⟩:=cN.1 h
 obtain⟨hn2,h⟩:=cN.1 h
 obtain⟨h0,h⟩:=mP.1 h
 rw[Rb,jK]at h;cases h
 obtain⟨⟨d,hd,hde⟩,hE,htab⟩:=xJ hG hte
 obtain⟨dz,hdz,_,hC⟩:=uU (ρ:=ρ) hG hz
 rw[htab]at hdz;cases hdz
 have hlen:zc.length=te.2.size:=Nat.eq_of_beq_eq_true hlen
 have h0:te.2.size≠0:=fun e=>by rw[e]at h0;cases h0
 have hby:n*te.2.bytes<16777216:=by simpa [Nat.blt_eq]using hby
 have hn2:n<16777216:=by simpa [Nat.blt_eq]using hn2
 rw[nW hk]at hv
 rw[nW hc]at hu
 rw[Gl]at heq
 have heq:=of_decide_eq_true heq
 rw[hv.int_inv,hu.int_inv,<-heq,EO hn]
 have hrep:=FJ hC (by omega) n
 rw[hlen]at hrep
 obtain⟨ρ',hle,rfl,R'⟩:=R.alloc te.1 hrep
 obtain⟨iE,hiE,hs,hb,hze⟩:=hE.info
 have hund:=hd.und
 rw[hde]at hund
 have hbb:(iE.bytes:Int)*(n:Int)<=281474976710656:=by
  have e:(te.2.bytes:Int)*(n:Int)=((n*te.2.bytes:Nat):Int):=by rw[Nat.mul_comm];simp
  rw[hb,e];omega
 have hr:=run_make (P:=P) w T te.1 iE te.2.zero hund hiE hze k.1 c.1 n n (by omega) (Int.le_refl _) hbb (by omega)
 refine⟨_,_,_,?_,hle,R',.sl (l:=⟨w.heap.size,0,((Array.range (n*te.2.size)).map (te.2.zero.cells[· % te.2.zero.cells.size]!)).size,.cells ((Array.range (n*te.2.size)).map (te.2.zero.cells[· % te.2.zero.cells.size]!)) te.1,.cells (Mq zc n)⟩) (cap:=n) (A:=⟨w.heap.size,0,none⟩) (by simp[gH.upd]) (Nat.le_refl _) (.inr ⟨rfl,by simp⟩)⟩
 rw[hr]
 simp[madeCells,hs]
theorem Un {o:Option GV} {O:Option Value} {d n:Nat} (hr:(o=none∧O=none)∨∃g x,o=some g∧O=some x∧Rl ρ g x) (h:vB o d=some n):(o=none∧O=none∧n=d)∨∃k:IntKind,O=some (.int k n):=by
 rcases hr with⟨rfl,rfl⟩|⟨g,x,rfl,rfl,hx⟩
 ·cases h;exact .inl ⟨rfl,rfl,rfl⟩
 ·obtain⟨a,ha,h⟩:=aN.1 (show ob g.asI _=some n from h)
  rw[nW ha]at hx
  exact .inr ⟨a.1,by rw[hx.int_inv,EO h]⟩
def Ww (ρ:gH) (o:Option GV) (O:Option Value):Prop:=(o=none∧O=none)∨∃g x,o=some g∧O=some x∧Rl ρ g x
theorem CL {sl:Bool} {len cap l h:Nat} {lo hi:Option GV} {LO HI:Option Value} (hlo:Ww ρ lo LO) (hhi:Ww ρ hi HI) (h1:vB lo 0=some l) (h2:vB hi len=some h) (hle:l<=h) (hc:h<=cap) (w:World):
  (Instr.sliceBounds sl len cap LO HI none).run P w = .ok (l,h,cap) w:=by
 rcases Un hlo h1 with⟨_,rfl,rfl⟩|⟨k1,rfl⟩<;>rcases Un hhi h2 with⟨_,rfl,rfl⟩|⟨k2,rfl⟩
 ·simp[Instr.sliceBounds]
 ·simp[Instr.sliceBounds,Instr.sliceBound,asIntOf,hc]
 ·simp[Instr.sliceBounds,Instr.sliceBound,asIntOf,hle]
 ·simp[Instr.sliceBounds,Instr.sliceBound,asIntOf,hle,hc]
theorem JC (hG:fZ P tb) {T:TypeId} {lo hi:Option GV} {LO HI:Option Value} (R:(∃(w0:iQ gs) (w:World),jG w0 ρ H w)∨∀t,tb T=some t->Wc t.desc=none) (hv:Rl ρ v V) (hlo:Ww ρ lo LO) (hhi:Ww ρ hi HI) (h:CU tb T v lo hi H=some g):Co P ρ (Instr.sliceAt T V LO HI none) g:=by
 obtain⟨l,hl,h⟩:=aN.1 (show ob (vB lo 0) _=some g from h)
 obtain⟨t,ht,h⟩:=aN.1 h
 have hT:=hG.tab ht
 cases hs:v.asStr with
 | some s =>
  rw[hs]at h
  obtain⟨e,he,h⟩:=aN.1 (show ob (vB hi s.2) _=some g from h)
  obtain⟨hd,h⟩:=cN.1 h
  obtain⟨hle,h⟩:=cN.1 (show(bif Nat.ble l e then _ else none)=some g from h)
  obtain⟨hlen,h⟩:=cN.1 h
  simp only[Bm]at h
  cases h
  have hle:l<=e:=by simpa using hle
  have hlen:e<=s.2:=by simpa using hlen
  rw[sZ hs]at hv
  obtain⟨r,rfl,e1,e2⟩:=hv.str_inv
  have hsz:r.size=s.2:=by rw[e2];exact Lib.size_eq r
  have hx:=Lib.extract_data r l e
  refine⟨.string (r.extract l e),?_,fun w=> ?_⟩
  ·have:Rl ρ (.str (mQ (cM (r.extract l e))) (cM (r.extract l e)).length) (.string (r.extract l e)):= .str _
   have e3:cM (r.extract l e)=((cM r).drop l).take (e - l):=hx
   rw[e3]at this
   rw[e1,QZ]
   have e4:(((cM r).drop l).take (e - l)).length=Nat.sub e l:=by
    simp only[List.length_take,List.length_drop,<-e2]
    show _=e - l
    omega
   rw[e4]at this
   exact this
  ·have hu:=hT.run_und w
   rw[Bp hd]at hu
   have hb:=CL (P:=P) (sl:=false) (cap:=s.2) hlo hhi hl he hle hlen w
   simp[Instr.sliceAt,hu,Instr.slice,hsz,hb]
 | none =>
  rw[hs]at h
  cases hS:v.asS with
  | some s =>
   simp only[hS]at h
   obtain⟨E,hE,h⟩:=aN.1 (show ob (SA t.desc) _=some g from h)
   obtain⟨te,hte,h⟩:=aN.1 h
   obtain⟨e,he,h⟩:=aN.1 h
   obtain⟨hsz,h⟩:=cN.1 (show(bif Nat.beq te.size s.2.2.2 then _ else none)=some g from h)
   obtain⟨hle,h⟩:=cN.1 h
   obtain⟨hlen,h⟩:=cN.1 h
   simp only[Bm]at h
   cases h
   have hsz:te.size=s.2.2.2:=Nat.eq_of_beq_eq_true hsz
   have hle:l<=e:=by simpa using hle
   have hlen:e<=s.2.2.1:=by simpa using hlen
   rw[Cv hS]at hv
   obtain⟨lc,cap,A,hlc,rfl,hc,ha⟩:=hv.sl_inv
   refine⟨.slice (if cap=l then some A else(some A).map (·.add (l*te.size))) (e - l) (cap - l),?_,fun w=> ?_⟩
   ·have e1:(if cap=l then some A else(some A).map (·.add (l*te.size)))=some (if cap=l then A else A.add (l*te.size)):=by split<;>rfl
    rw[e1]
    refine .sl hlc (show e - l<=cap - l by omega) ?_
    by_cases hcl:cap - l=0
    ·exact .inl hcl
    ·right
     rw[if_neg (by omega)]
     rcases ha with ha|⟨rfl,hb⟩
     ·omega
     ·rw[fM]
      refine⟨by show _=(⟨lc.b,lc.off+(s.2.1+l*te.size),none⟩:Addr);rw[Nat.add_assoc],?_⟩
      have:cap*s.2.2.2=l*te.size+(cap - l)*te.size:=by rw[<-hsz,<-Nat.add_mul];congr 1;omega
      show lc.off+(s.2.1+l*te.size)+(cap - l)*te.size<=lc.size
      omega
   ·have hu:=hT.run_und w
    rw[EZ hE]at hu
    have hb:=CL (P:=P) (sl:=true) (cap:=cap) hlo hhi hl he hle (by omega) w
    simp[Instr.sliceAt,hu,Instr.slice,hb,(hG.tab hte).run_size w]
  | none =>
   simp only[hS]at h
   cases hz:v.isSnil with
   |true=>
    rw[hz]at h
    obtain⟨E,hE,h⟩:=aN.1 (show ob (SA t.desc) _=some g from h)
    obtain⟨te,hte,h⟩:=aN.1 h
    obtain⟨e,he,h⟩:=aN.1 h
    obtain⟨h0,h⟩:=cN.1 h
    obtain⟨h1,h⟩:=cN.1 h
    cases h
    have h0:l=0:=Nat.eq_of_beq_eq_true h0
    have h1:e=0:=Nat.eq_of_beq_eq_true h1
    subst h0 h1
    rw[xL hz]at hv
    rw[hv.snil_inv]
    refine⟨_,.snil,fun w=> ?_⟩
    have hu:=hT.run_und w
    rw[EZ hE]at hu
    have hb:=CL (P:=P) (sl:=true) (len:=0) (cap:=0) hlo hhi hl he (Nat.le_refl _) (Nat.le_refl _) w
    simp[Instr.sliceAt,hu,Instr.slice,hb,(hG.tab hte).run_size w]
   |false=>
   rw[hz]at h
   obtain⟨p,hp,h⟩:=aN.1 (show ob v.asP _=some g from h)
   obtain⟨E,hE,h⟩:=aN.1 h
   obtain⟨te,hte,h⟩:=aN.1 h
   obtain⟨e,he,h⟩:=aN.1 h
   obtain⟨cs,hcs,h⟩:=aN.1 h
   obtain⟨hfit,h⟩:=cN.1 h
   obtain⟨hle,h⟩:=cN.1 (show(bif Nat.ble l e then _ else none)=some g from h)
   obtain⟨hlen,h⟩:=cN.1 h
   obtain⟨h0,h⟩:=mP.1 h
   simp only[Bm]at h
   cases h
   have hfit:p.2+E.1*te.size<=cs.length:=by simpa using hfit
   have hle:l<=e:=by simpa using hle
   have hlen:e<=E.1:=by simpa using hlen
   rw[Dp hp]at hv
   obtain⟨lc,hlc,rfl⟩:=hv.ptr_inv
   rcases R with⟨w0,w,R⟩|R
   rotate_left
   ·rw[R t ht]at hE;cases hE
   obtain⟨cur,T',hb,hcs2,hfit2,_⟩:=R.cells hcs hlc
   refine⟨.slice (some (if E.1=l then⟨lc.b,lc.off+p.2,none⟩else Addr.add ⟨lc.b,lc.off+p.2,none⟩ (l*te.size))) (e - l) (E.1 - l),?_,fun w=> ?_⟩
   ·refine .sl hlc (show e - l<=E.1 - l by omega) ?_
    by_cases hcl:E.1 - l=0
    ·exact .inl hcl
    ·right
     rw[if_neg (by omega),fM]
     refine⟨by show _=(⟨lc.b,lc.off+(p.2+l*te.size),none⟩:Addr);rw[Nat.add_assoc],?_⟩
     have:E.1*te.size=l*te.size+(E.1 - l)*te.size:=by rw[<-Nat.add_mul];congr 1;omega
     show lc.off+(p.2+l*te.size)+(E.1 - l)*te.size<=lc.size
     omega
   ·have hu:=hT.run_und w
    rw[Nw hE]at hu
    have hb:=CL (P:=P) (sl:=false) (cap:=E.1) hlo hhi hl he hle hlen w
    simp[Instr.sliceAt,hu,Instr.sureAddr,hb,(hG.tab hte).run_size w]
end
end
section
section
variable {P:Program} {tb:TB} {ρ:gH} {V U W:Value} {v u t g:GV} {gs:BQ} {w0:iQ gs} {w:World} {H H':GH}
structure OP (ρ:gH) (w:World) (sz n:Nat) (r:List GV) (V:Value) (ns:List Value):Prop where
 rel:xQ ρ r ns
 len:ns.length=n*sz
 one:∀x∈ns,Go.Sx.one x=true
 val:∃base cap,V = .slice base n cap∧n<=cap∧((base=none∧n=0∧cap=0)∨∃A,base=some A∧∀(j:Nat) x,ns[j]? = some x->w.cell? (A.add j)=some x)
theorem EQ (R:jG w0 ρ H w) {sz:Nat} {p:Nat×List GV} (hv:Rl ρ v V) (h:AQ H sz v=some p):∃ns,OP ρ w sz p.1 p.2 V ns:=by
 unfold AQ at h
 cases hz:v.isSnil with
 |true=>
  rw[hz]at h;cases h
  rw[xL hz]at hv
  exact⟨[],.nil,by simp,fun x hx=>by simp at hx,none,0,hv.snil_inv,Nat.le_refl _,.inl ⟨rfl,rfl,rfl⟩⟩
 | false =>
  rw[hz]at h
  obtain⟨s,hs,h⟩:=aN.1 (show ob v.asS _=some p from h)
  obtain⟨hsz,h⟩:=cN.1 h
  obtain⟨cs,hcs,h⟩:=aN.1 h
  obtain⟨r,hr,h⟩:=aN.1 h
  cases h
  have hsz:s.2.2.2=sz:=Nat.eq_of_beq_eq_true hsz
  obtain⟨hb,rfl⟩:=KF hr
  have hb:s.2.1+s.2.2.1*sz<=cs.length:=hb
  rw[Cv hs]at hv
  obtain⟨l,cap,A,hl,rfl,hc,ha⟩:=hv.sl_inv
  obtain⟨cur,T,hh,hsize,hfit,hcell⟩:=R.cells hcs hl
  let ns:=(cur.toList.drop (l.off+s.2.1)).take (s.2.2.1*sz)
  have hlen:ns.length=s.2.2.1*sz:=by simp[ns];omega
  have hrel:xQ ρ ((cs.drop s.2.1).take (s.2.2.1*sz)) ns:=⟨by rw[hlen];simp;omega,fun i a b hai hbi=>by
   simp only[ns]at hbi
   rw[List.getElem?_take]at hai hbi
   by_cases hi:i<s.2.2.1*sz
   ·rw[if_pos hi,List.getElem?_drop]at hai hbi
    obtain⟨x,h1,h2,_⟩:=hcell _ _ hai
    rw[Array.getElem?_toList,show l.off+s.2.1+i=l.off+(s.2.1+i) by omega,h1]at hbi
    cases hbi;exact h2
   ·rw[if_neg hi]at hai;cases hai⟩
  have hnx:∀(j:Nat) x,ns[j]? = some x->j<s.2.2.1*sz∧cur[l.off+(s.2.1+j)]? = some x:=fun j x hx=>by
   have hlt:=bN hx
   simp only[ns]at hx
   rw[List.getElem?_take,if_pos (by omega),List.getElem?_drop,Array.getElem?_toList,show l.off+s.2.1+j=l.off+(s.2.1+j) by omega]at hx
   exact⟨by omega,hx⟩
  refine⟨ns,hrel,hlen,fun x hx=> ?_,_,cap,rfl,hc,.inr ⟨A,rfl,fun j x hx=> ?_⟩⟩
  ·obtain⟨i,hi⟩:=List.mem_iff_getElem?.1 hx
   obtain⟨h1,h2⟩:=hnx i x hi
   obtain⟨y,h3,_,h4⟩:=hcell (s.2.1+i) _ (List.getElem?_eq_getElem (by omega))
   rw[h2]at h3;cases h3;exact h4
  ·obtain⟨h1,h2⟩:=hnx j x hx
   rcases ha with ha|⟨rfl,_⟩
   ·have:s.2.2.1=0:=by omega
    rw[this]at h1;simp at h1
   ·rw[fM,show l.off+s.2.1+j=l.off+(s.2.1+j) by omega]
    simp[World.cell?,hh,h2]
theorem OP.src {sz n:Nat} {r:List GV} {ns:List Value} (h:OP ρ w sz n r V ns) {T E:TypeId} (hu:P.underlying T=some (.slice E)):Src P sz T V n ns w:=by
 obtain⟨base,cap,rfl,_,hh⟩:=h.val
 have hone:∀x∈ns,x.oneCell'=true:=fun x hx=>oQ (h.one x hx)
 rcases hh with⟨rfl,rfl,rfl⟩|⟨A,rfl,hc⟩
 ·have:ns=[]:=List.eq_nil_of_length_eq_zero (by have:=h.len;simpa using this)
  subst this
  exact Src.ofNil w hu 0
 ·exact Src.ofSlice w hu A n cap ns h.len hc hone
theorem OP.old {sz n:Nat} {r:List GV} {ns:List Value} (h:OP ρ w sz n r V ns):(Builtin.firstCells sz n V).run P w.drew = .ok ns.toArray w.drew:=by
 obtain⟨base,cap,rfl,_,hh⟩:=h.val
 rcases hh with⟨rfl,rfl,rfl⟩|⟨A,rfl,hc⟩
 ·have:ns=[]:=List.eq_nil_of_length_eq_zero (by have:=h.len;simpa using this)
  subst this
  exact run_firstCells_none w.drew sz 0 0 0
 ·exact run_firstCells_some w.drew sz n A n cap ns h.len hc
theorem jG.alloc' (R:jG w0 ρ H w) {cs:List GV} {a:Array Value} (T:TypeId) (hl:cs.length<=a.size) (hr:∀(i:Nat) g,cs[i]? = some g->∃x,a[i]? = some x∧Rl ρ g x∧one x=true):
  ∃ρ',ρ.le ρ'∧ρ'=ρ.upd H.n ⟨w.heap.size,0,a.size,.cells a T,.cells cs⟩∧jG w0 ρ' (H.new (.cells cs)) (w.alloc (.cells a T)):=by
 have e:Ml w (w.alloc (.cells a T)):=(Below.refl _ _).alloc (Nat.le_refl _) _
 have h:=R.new (o:= .cells cs) (l:=⟨w.heap.size,0,a.size,.cells a T,.cells cs⟩) (R.ext.trans e) (fun h o' l' hg hl=>by
  obtain⟨l,hl',_,ho⟩:=R.live h o' hg
  rw[hl]at hl';cases hl'
  exact⟨e.block _ ho.lt,Nat.ne_of_lt ho.lt⟩) (.inl R.ext.size) (by
  refine⟨a,T,heap_alloc_new w _,rfl,by simpa using hl,fun i g hg=> ?_⟩
  obtain⟨x,hx,hrx,h1⟩:=hr i g hg
  exact⟨x,by simpa using hx,hrx.le (A_ (R.fresh _ (Nat.le_refl _))),h1⟩) (heap_alloc_new w _)
 exact⟨_,h.1,rfl,h.2⟩
theorem MP {sz:Nat} {p:Nat×List GV} {s:Nat×Nat×Nat×Nat} (h:AQ H sz v=some p) (hs:v.asS=some s):s.2.2.2=sz∧∃cs,H.cells s.1=some cs∧s.2.1+s.2.2.1*sz<=cs.length∧p.1=s.2.2.1:=by
 unfold AQ at h
 have hnz:v.isSnil=false:=by rw[Cv hs];rfl
 rw[hnz]at h
 obtain⟨s',hs',h⟩:=aN.1 (show ob v.asS _=some p from h)
 rw[hs]at hs';cases hs'
 obtain⟨hsz,h⟩:=cN.1 h
 obtain⟨cs,hcs,h⟩:=aN.1 h
 obtain⟨r,hr,h⟩:=aN.1 h
 cases h
 exact⟨Nat.eq_of_beq_eq_true hsz,cs,hcs,(KF hr).1,rfl⟩
theorem OW (R:jG w0 ρ H w) {hh off k sz m cap:Nat} {l:Mm} {cs p2 q2:List GV} {ns1 ns2:List Value} (hcs:H.cells hh=some cs) (hl:ρ hh=some l) (c1:OP ρ w sz k p2 (.slice (some ⟨l.b,l.off+off,none⟩) k cap) ns1)
  (r2:xQ ρ q2 ns2) (l2:ns2.length=m*sz) (o2:∀x∈ns2,one x=true) (hroom:k+m<=cap) (hbound:l.off+off+cap*sz<=l.size):
  ∃cur T',w.heap[l.b]? = some (.cells cur T' (0,0))∧l.off+off+cap*sz<=cur.size∧ρ.le (ρ.upd H.n ⟨l.b,l.off+off,l.size,(.cells (cur.toList.take (l.off+off+k*sz)++ns2++cur.toList.drop (l.off+off+k*sz+ns2.length)).toArray T'),.cells (p2++q2)⟩)∧
   jG w0 (ρ.upd H.n ⟨l.b,l.off+off,l.size,(.cells (cur.toList.take (l.off+off+k*sz)++ns2++cur.toList.drop (l.off+off+k*sz+ns2.length)).toArray T'),.cells (p2++q2)⟩) ((H.del hh).new (.cells (p2++q2))) (w.setRow l.b (cur.toList.take (l.off+off+k*sz)++ns2++cur.toList.drop (l.off+off+k*sz+ns2.length)).toArray):=by
 obtain⟨cur,T',hb,hsize,hfit,hcell⟩:=R.cells hcs hl
 have hmul:k*sz+m*sz<=cap*sz:=by rw[<-Nat.add_mul];exact Nat.mul_le_mul_right _ hroom
 have hcl:cur.toList.length=cur.size:=by simp
 obtain⟨l0,hl0,hbase0,_⟩:=R.live _ _ (iZ.1 hcs)
 rw[hl]at hl0;cases hl0
 have l1:=c1.len
 have e1:p2.length=k*sz:=by rw[c1.rel.len];exact l1
 have e2:q2.length=m*sz:=by rw[r2.len];exact l2
 have hnew:=(R.del hh).new (o:= .cells (p2++q2)) (l:=⟨l.b,l.off+off,l.size,(.cells (cur.toList.take (l.off+off+k*sz)++ns2++cur.toList.drop (l.off+off+k*sz+ns2.length)).toArray T'),.cells (p2++q2)⟩)
  (w':=w.setRow l.b (cur.toList.take (l.off+off+k*sz)++ns2++cur.toList.drop (l.off+off+k*sz+ns2.length)).toArray)
  ⟨R.ext.os,R.ext.tape,R.ext.output,by simpa using R.ext.size,fun k hk hO=>by
   rw[setRow_other w l.b k _ (fun e=>by subst e;rcases hbase0 with hbase|hbase;exact absurd hbase (by omega);exact hO hbase)];exact R.ext.block k hk hO⟩
  (fun h o' l' hg hl'=>by
   rw[EK]at hg
   by_cases e:h=hh
   ·rw[if_pos e]at hg;cases hg
   ·rw[if_neg e]at hg
    have hne:l'.b≠l.b:=fun e'=>e (R.inj h hh o' _ l' l hg (iZ.1 hcs) hl' hl e')
    exact⟨setRow_other w l.b l'.b _ hne,hne⟩) hbase0 (by
   refine⟨_,T',setRow_heap w l.b _ _ T' _ hb,?_,?_,fun i x hx=> ?_⟩
   ·simp;omega
   ·show l.off+off+(p2++q2).length<=l.size
    rw[List.length_append,e1,e2];omega
   ·have hle0:ρ.le (ρ.upd (H.del hh).n ⟨l.b,l.off+off,l.size,(.cells (cur.toList.take (l.off+off+k*sz)++ns2++cur.toList.drop (l.off+off+k*sz+ns2.length)).toArray T'),.cells (p2++q2)⟩):=A_ (R.fresh _ (Nat.le_refl _))
    have hil:=bN hx
    rw[List.length_append,e1,e2]at hil
    obtain⟨y,hy,hr⟩:=(c1.rel.append r2).get hx
    refine⟨y,?_,hr.le hle0,?_⟩
    ·show(cur.toList.take (l.off+off+k*sz)++ns2++cur.toList.drop (l.off+off+k*sz+ns2.length)).toArray[l.off+off+i]? = some y
     rw[List.getElem?_toArray,List.append_assoc]
     by_cases hi:i<k*sz
     ·rw[List.getElem?_append_left (by simp;omega),List.getElem?_take,if_pos (by omega),Array.getElem?_toList]
      rw[List.getElem?_append_left (by omega)]at hy
      obtain⟨base',cap2,hV2,_,hh2⟩:=c1.val
      cases hV2
      rcases hh2 with⟨h1,_⟩|⟨A,hA,hAc⟩
      ·cases h1
      ·cases hA
       have:=hAc i y hy
       rw[fM]at this
       simpa [World.cell?,hb]using this
     ·rw[List.getElem?_append_right (by simp;omega),List.length_take,show min (l.off+off+k*sz) cur.toList.length=l.off+off+k*sz by omega]
      rw[List.getElem?_append_right (by omega),l1]at hy
      rw[List.getElem?_append_left (by omega)]
      rw[<-hy];congr 1;omega
    ·rcases List.mem_append.1 (List.mem_of_getElem? hy)with hm|hm
     ·exact c1.one y hm
     ·exact o2 y hm) (setRow_heap w l.b _ _ T' _ hb)
 exact⟨cur,T',hb,by omega,hnew.1,hnew.2⟩
theorem Sf (hG:fZ P tb) {T T' ty:TypeId} (R:jG w0 ρ H w) (hv:Rl ρ v V) (hu:Rl ρ u U) (h:Se tb T T' v u H=some (g,H')):JG P w0 ρ (Builtin.append_ #[T,T'] ty #[V,U]) w g H':=by
 unfold Se at h
 obtain⟨hvz,h⟩:=cN.1 h
 obtain⟨te,hte,h⟩:=aN.1 h
 obtain⟨t',ht',h⟩:=aN.1 h
 obtain⟨kn,hkn,h⟩:=aN.1 h
 obtain⟨zc,hz,h⟩:=aN.1 h
 obtain⟨k,hk,h⟩:=aN.1 h
 obtain⟨n,hn,h⟩:=aN.1 h
 obtain⟨hlen,h⟩:=cN.1 h
 obtain⟨hby,h⟩:=cN.1 h
 obtain⟨h0,h⟩:=mP.1 h
 obtain⟨hn0,h⟩:=mP.1 h
 rw[Rb,jK]at h;cases h
 obtain⟨⟨d,hd,hde⟩,hE,htab⟩:=xJ hG hte
 obtain⟨dz,hdz,_,hC⟩:=uU (ρ:=ρ) hG hz
 rw[htab]at hdz;cases hdz
 have hlen:zc.length=te.2.size:=Nat.eq_of_beq_eq_true hlen
 have h0:te.2.size≠0:=fun e=>by rw[e]at h0;cases h0
 have hn0:n≠0:=fun e=>by rw[e]at hn0;cases hn0
 have hby:n*(te.2.bytes+1)<16777216:=by simpa [Nat.blt_eq]using hby
 have hb1:n*te.2.bytes+n<16777216:=by rw[Nat.mul_add,Nat.mul_one]at hby;exact hby
 rw[xL hvz]at hv
 have hV:=hv.snil_inv
 subst hV
 rw[nW hk]at hu
 rw[hu.int_inv,EO hn]
 obtain⟨iE,hiE,hs,hb,hze⟩:=hE.info
 have hund:=hd.und
 rw[hde]at hund
 have hund':=(hG.tab ht').und
 rw[EY hkn]at hund'
 have hr:=Lib.run_append_nil_zeros (P:=P) w T T' ty te.1 iE te.2.zero k.1 kn hund hund' hiE hze n (by omega) (by omega) (by omega) (by rw[hb];omega)
 have hzs:te.2.zero.cells.size=te.2.size:=by have:=hC.r.len;simp at this;omega
 have hge:=grownCap_ge w n 0 te.1
 have hrep:=FJ hC (by omega) n
 have hrl:=hrep.r.len
 have hx:Builtin.zeroCells te.2.zero.cells n=(Array.range (n*zc.length)).map (te.2.zero.cells[· % te.2.zero.cells.size]!):=by
  unfold Builtin.zeroCells
  rw[hzs,hlen]
 rw[<-hx]at hrep hrl
 obtain⟨ρ',hle,rfl,R'⟩:=R.alloc' (cs:=Mq zc n) (a:=Builtin.zeroCells te.2.zero.cells n++Builtin.zeroCells te.2.zero.cells (grownCap w n 0 te.1 - n)) te.1 (by
   simp only[Array.size_append];have:(Mq zc n).length=(Builtin.zeroCells te.2.zero.cells n).size:=by simpa using hrl
   omega) (fun i x hxi=>by
  obtain⟨y,hy,hry⟩:=hrep.r.get hxi
  have hy':(Builtin.zeroCells te.2.zero.cells n)[i]? = some y:=by simpa using hy
  exact⟨y,by rw[Array.getElem?_append_left (by simpa using bN hy)];exact hy',hry,hrep.one y (by simpa using List.mem_of_getElem? hy)⟩)
 refine⟨_,_,_,hr,hle,R'.ext' ((Below.refl _ _).drew),?_⟩
 refine .sl (l:=⟨w.heap.size,0,(Builtin.zeroCells te.2.zero.cells n++Builtin.zeroCells te.2.zero.cells (grownCap w n 0 te.1 - n)).size,.cells (Builtin.zeroCells te.2.zero.cells n++Builtin.zeroCells te.2.zero.cells (grownCap w n 0 te.1 - n)) te.1,.cells (Mq zc n)⟩) (by simp[gH.upd]) hge (.inr ⟨rfl,?_⟩)
 simp only[Array.size_append,size_zeroCells,hzs]
 have:grownCap w n 0 te.1*te.2.size=n*te.2.size+(grownCap w n 0 te.1 - n)*te.2.size:=by
  rw[<-Nat.add_mul];congr 1;omega
 omega
theorem jG.put (R:jG w0 ρ H w) {hh o:Nat} {cs uc c1:List GV} {l:Mm} {us:List Value} (hcs:H.cells hh=some cs) (hl:ρ hh=some l) (hus:xQ ρ uc us) (hone:∀x∈us,one x=true) (hput:Fy uc o cs=some c1) (hne:uc≠[]):
  ∃cur T',w.heap[l.b]? = some (.cells cur T' (0,0))∧l.off+o+us.length<=cur.size∧∃ρ',ρ.le ρ'∧jG w0 ρ' (H.set hh (.cells c1)) (w.setRow l.b (cur.toList.take (l.off+o)++us++cur.toList.drop (l.off+o+us.length)).toArray):=by
 obtain⟨cur,T',hb,hsz,hfit,hcell⟩:=R.cells hcs hl
 have hul:uc.length=us.length:=hus.len
 obtain⟨p1,p2,p3⟩:=Ho hput
 have p1:=p1 hne
 refine⟨cur,T',hb,by omega,_,R.set (iZ.1 hcs) hl ?_ (fun k hk=>setRow_other w l.b k _ hk) ?_ (setRow_heap w l.b _ _ T' _ hb)⟩
 ·obtain⟨l',hl',hbase,_⟩:=R.live _ _ (iZ.1 hcs)
  rw[hl]at hl';cases hl'
  exact⟨R.ext.os,R.ext.tape,R.ext.output,by simpa using R.ext.size,fun k hk hO=>by
   rw[setRow_other w l.b k _ (fun e=>by subst e;rcases hbase with hbase|hbase;exact absurd hbase (by omega);exact hO hbase)];exact R.ext.block k hk hO⟩
 ·refine⟨_,T',setRow_heap w l.b _ _ T' _ hb,?_,by omega,fun i x hx=> ?_⟩
  ·simp;omega
  ·rw[p3 i]at hx
   have hcl:cur.toList.length=cur.size:=by simp
   have key:(cur.toList.take (l.off+o)++us++cur.toList.drop (l.off+o+us.length)).toArray[l.off+i]? = if o<=i∧i<o+us.length then us[i - o]? else cur[l.off+i]?:=by
    rw[List.getElem?_toArray,List.append_assoc]
    by_cases hi:i<o
    ·rw[if_neg (by omega),List.getElem?_append_left (by simp;omega),List.getElem?_take,if_pos (by omega),Array.getElem?_toList]
    ·rw[List.getElem?_append_right (by simp;omega),List.length_take]
     have e1:min (l.off+o) cur.toList.length=l.off+o:=by omega
     rw[e1]
     by_cases hi2:i<o+us.length
     ·rw[if_pos (by omega),List.getElem?_append_left (by omega)]
      congr 1;omega
     ·rw[if_neg (by omega),List.getElem?_append_right (by omega),List.getElem?_drop,Array.getElem?_toList]
      congr 1;omega
   by_cases hi:o<=i∧i<o+uc.length
   ·rw[if_pos hi]at hx
    obtain⟨y,hy,hr⟩:=hus.get hx
    exact⟨y,by rw[key,if_pos (by omega)];exact hy,hr,hone y (List.mem_of_getElem? hy)⟩
   ·rw[if_neg hi]at hx
    obtain⟨y,hy,hr⟩:=hcell i x hx
    exact⟨y,by rw[key,if_neg (by omega)];exact hy,hr⟩
theorem Sm (hG:fZ P tb) {T T' ty:TypeId} (R:jG w0 ρ H w) (hv:Rl ρ v V) (hu:Rl ρ u U) (h:Sk tb T v u H=some (g,H')):JG P w0 ρ (Builtin.copy_ #[T,T'] ty #[V,U]) w g H':=by
 obtain⟨s,hs,h⟩:=aN.1 (show ob v.asS _=some (g,H')from h)
 obtain⟨r,hr,h⟩:=aN.1 h
 obtain⟨te,hte,h⟩:=aN.1 h
 obtain⟨hs1,h⟩:=cN.1 h
 obtain⟨hr1,h⟩:=cN.1 h
 obtain⟨hlen,h⟩:=cN.1 h
 obtain⟨cs,hcs,h⟩:=aN.1 h
 obtain⟨xs,hxs,h⟩:=aN.1 h
 obtain⟨ds,hds,h⟩:=aN.1 h
 have hs1:s.2.2.2=te.2.size:=Nat.eq_of_beq_eq_true hs1
 have hr1:r.2.2.2=te.2.size:=Nat.eq_of_beq_eq_true hr1
 have hlen:r.2.2.1=s.2.2.1:=Nat.eq_of_beq_eq_true hlen
 cases xs with
 |nil=>cases h
 | cons x0 xs0 =>
  obtain⟨c1,hput,h⟩:=aN.1 (show ob (Fy (x0::xs0) s.2.1 ds) _=some (g,H')from h)
  rw[zH]at h
  cases h
  have hcont:AQ H te.2.size u=some (r.2.2.1,x0::xs0):=by
   unfold AQ
   rw[Cv hr]
   have hb:Nat.beq te.2.size te.2.size=true:=by simp
   show ob (some r) (fun s=>bif Nat.beq s.2.2.2 te.2.size then _ else none)=_
   show(bif Nat.beq r.2.2.2 te.2.size then ob (H.cells r.1) (fun cs=>ob (Wq cs r.2.1 (Nat.mul r.2.2.1 te.2.size)) fun q=>some (r.2.2.1,q))else none)=_
   rw[hr1,hb,cond_true,hcs]
   show ob (Wq cs r.2.1 (Nat.mul r.2.2.1 te.2.size)) _=_
   rw[hxs];rfl
  obtain⟨ns,c2⟩:=EQ R hu hcont
  obtain⟨⟨d,hd,hde⟩,hE,htab⟩:=xJ hG hte
  rw[Cv hs]at hv
  obtain⟨l,cap,A,hl,rfl,hc,ha⟩:=hv.sl_inv
  have hne:x0::xs0≠[]:=by simp
  obtain⟨cur,T2,hb,hfit,ρ',hle,R'⟩:=R.put hds hl c2.rel c2.one hput hne
  have hnsl:=c2.len
  have hns0:ns.length≠0:=by have:=c2.rel.len;simp at this;omega
  have hA:A=⟨l.b,l.off+s.2.1,none⟩:=by
   rcases ha with ha|⟨e,_⟩
   ·exfalso
    have:s.2.2.1=0:=by omega
    rw[hlen,this]at hnsl;simp at hnsl;exact hns0 (by simp[hnsl])
   ·exact e
  subst hA
  have hund:=hd.und
  rw[hde]at hund
  have hst:=run_storeCells_at P l.b (l.off+s.2.1) T2 ns 0 cur w hb (by simpa using hfit) (fun x hx=>oQ (c2.one x hx))
  simp only[Nat.add_zero]at hst
  obtain⟨base,cap2,hV2,hcap2,hh2⟩:=c2.val
  subst hV2
  rcases hh2 with⟨_,h0,_⟩|⟨A2,rfl,hcell⟩
  ·exfalso;rw[h0]at hnsl;simp at hnsl;exact hns0 (by simp[hnsl])
  have hld:=run_firstCells_some (P:=P) w te.2.size r.2.2.1 A2 r.2.2.1 cap2 ns hnsl hcell
  have hru:=hd.run_und w
  rw[hde]at hru
  refine⟨_,_,ρ',?_,hle,R',.int _ _⟩
  have hmin:Nat.min r.2.2.1 s.2.2.1=r.2.2.1:=by rw[hlen];exact Nat.min_self _
  simp[Builtin.copy_,hru,Builtin.lenOf,hE.run_size w,hmin,hld,hst,goInt]
theorem TQ (hG:fZ P tb) {T T' ty:TypeId} (R:jG w0 ρ H w) (hv:Rl ρ v V) (hu:Rl ρ u U) (h:PK tb T T' v u H=some (g,H')):JG P w0 ρ (Builtin.append_ #[T,T'] ty #[V,U]) w g H':=by
 unfold PK at h
 cases hTT:Nat.beq T T' with
 |false=>rw[hTT]at h;exact Sf hG R hv hu h
 |true=>
 rw[hTT]at h
 have hTT:T=T':=Nat.eq_of_beq_eq_true hTT
 subst hTT
 rw[cond_true]at h
 obtain⟨te,hte,h⟩:=aN.1 h
 obtain⟨h0,h⟩:=mP.1 h
 obtain⟨zc,hz,h⟩:=aN.1 h
 obtain⟨hzl,h⟩:=cN.1 h
 obtain⟨p,hp,h⟩:=aN.1 h
 obtain⟨q,hq,h⟩:=aN.1 h
 obtain⟨⟨d,hd,hde⟩,hE,htab⟩:=xJ hG hte
 obtain⟨dz,hdz,_,hC⟩:=uU (ρ:=ρ) hG hz
 rw[htab]at hdz;cases hdz
 have hzl:zc.length=te.2.size:=Nat.eq_of_beq_eq_true hzl
 have hzs:te.2.zero.cells.size=te.2.size:=by have:=hC.r.len;simp at this;omega
 have h0:te.2.size≠0:=fun e=>by rw[e]at h0;cases h0
 obtain⟨ns1,c1⟩:=EQ R hv hp
 obtain⟨ns2,c2⟩:=EQ R hu hq
 have hund:=hd.und
 rw[hde]at hund
 have src:=c2.src (P:=P) (T:=T) hund
 obtain⟨base,cap,hV,hcap,hbase⟩:=c1.val
 cases hq1:q.1 with
 |zero=>
  rw[hq1]at h
  cases h
  rw[hq1]at src
  have hns:ns2=[]:=List.eq_nil_of_length_eq_zero (by have:=c2.len;rw[hq1]at this;simpa using this)
  subst hns
  refine⟨V,w,ρ,?_,gH.le_refl _,R,hv⟩
  have hru:=hd.run_und w
  rw[hde]at hru
  have hlen:=src.len w
  have hcl:=src.cells
  subst hV
  cases base with
  |none=>simp[Builtin.append_,hru,hE.run_size w,hlen,hcl,hcap]
  |some A=>simp[Builtin.append_,hru,hE.run_size w,hlen,hcl,hcap,storeCells]
 | succ m =>
  rw[hq1]at h
  simp only[Bm]at h
  obtain⟨hbig,h⟩:=cN.1 h
  rw[Vz,QT,jK]at h
  cases h
  have hbig:(p.1+q.1)*(te.2.bytes+1)<16777216:=by rw[hq1];simpa [Nat.blt_eq]using hbig
  have hb1:(p.1+q.1)*te.2.bytes+(p.1+q.1)<16777216:=by rw[Nat.mul_add,Nat.mul_one]at hbig;exact hbig
  have hq1':Nat.add p.1 (m+1)=p.1+q.1:=by rw[hq1];rfl
  have hrell:xQ ρ (p.2++q.2) (ns1++ns2):=c1.rel.append c2.rel
  have hlen12:(p.2++q.2).length=(p.1+q.1)*te.2.size:=by
   rw[hrell.len,List.length_append,c1.len,c2.len,<-Nat.add_mul]
  have hone12:∀x∈ns1++ns2,one x=true:=fun x hx=>by
   rcases List.mem_append.1 hx with hx|hx
   ·exact c1.one x hx
   ·exact c2.one x hx
  by_cases hroom:p.1+q.1<=cap
  ·
   have hvs:∃s,v.asS=some s:=by
    cases hzz:v.isSnil with
    |true=>
     rw[xL hzz]at hv
     have:=hv.snil_inv
     rw[hV]at this
     injection this with _ _ e3
     omega
    |false=>
     unfold AQ at hp
     rw[hzz]at hp
     obtain⟨s,hs,_⟩:=aN.1 (show ob v.asS _=some p from hp)
     exact⟨s,hs⟩
   obtain⟨s,hs⟩:=hvs
   obtain⟨hsz,cs,hcs,hbb,hp1⟩:=MP hp hs
   rw[Cv hs]at hv
   obtain⟨l,cap',A,hl,hV',hc,ha⟩:=hv.sl_inv
   rw[hV]at hV'
   injection hV' with e1 e2 e3
   subst e1 e3
   rcases ha with ha|⟨rfl,hbound⟩
   ·omega
   rw[hsz]at hbound
   have c1':=c1
   rw[hV]at c1'
   obtain⟨cur,T',hh,hcs2,hle,R'⟩:=OW R hcs hl c1' c2.rel c2.len c2.one hroom hbound
   have hr:=LR (P:=P) (ty:=ty) hd hde hE hh src hroom hcs2
   have hdel:MQ H v=H.del s.1:=by unfold MQ;rw[hs]
   rw[hdel,hV]
   refine⟨_,_,_,hr,hle,R',?_⟩
   rw[hq1']
   exact .sl (l:=⟨l.b,l.off+s.2.1,l.size,_,_⟩) (by show(if H.n=H.n then _ else _)=_;exact if_pos rfl) hroom (.inr ⟨rfl,by show l.off+s.2.1+0+cap*te.2.size<=l.size;omega⟩)
  ·
   have hR':jG w0 ρ (MQ H v) w.drew:=by
    have:jG w0 ρ (MQ H v) w:=by
     unfold MQ
     cases v.asS with
     |none=>exact R
     |some s=>exact R.del s.1
    exact this.ext' ((Below.refl _ _).drew)
   have hr:=LP (P:=P) (ty:=ty) hd hde hE (base:=base) (by rw[<-hV];exact c1.old) src (by omega) (by omega) (by omega)
   have hge:=grownCap_ge w (p.1+q.1) cap te.1
   have hn1:(ns1++ns2).length=(p.1+q.1)*te.2.size:=by rw[<-hrell.len];exact hlen12
   obtain⟨ρ',hle,rfl,R'⟩:=hR'.alloc' (cs:=p.2++q.2) (a:=(ns1++ns2).toArray++Builtin.zeroCells te.2.zero.cells (grownCap w (p.1+q.1) cap te.1 - (p.1+q.1))) te.1 (by simp only[Array.size_append,List.size_toArray];omega) (fun i x hx=>by
    obtain⟨y,hy,hr⟩:=hrell.get hx
    exact⟨y,by rw[Array.getElem?_append_left (by simpa using bN hy)];simpa using hy,hr,hone12 y (List.mem_of_getElem? hy)⟩)
   rw[hV]
   refine⟨_,_,_,hr,hle,R',?_⟩
   rw[hq1']
   refine .sl (l:=⟨w.heap.size,0,((ns1++ns2).toArray++Builtin.zeroCells te.2.zero.cells (grownCap w (p.1+q.1) cap te.1 - (p.1+q.1))).size,.cells ((ns1++ns2).toArray++Builtin.zeroCells te.2.zero.cells (grownCap w (p.1+q.1) cap te.1 - (p.1+q.1))) te.1,.cells (p.2++q.2)⟩) (by simp[gH.upd]) hge (.inr ⟨rfl,?_⟩)
   simp only[Array.size_append,List.size_toArray,size_zeroCells,hzs,hn1]
   have:grownCap w (p.1+q.1) cap te.1*te.2.size=(p.1+q.1)*te.2.size+(grownCap w (p.1+q.1) cap te.1 - (p.1+q.1))*te.2.size:=by
    rw[<-Nat.add_mul];congr 1;omega
   omega
end
end
section
section
variable {P:Program} {tb:TB} {ρ:gH} {V U W X:Value} {v u t g:GV} {gs:BQ} {w0:iQ gs} {w:World} {H H':GH}
theorem Mc {T:TypeId} (R:jG w0 ρ H w) (h:Cm H=some (g,H')):JG P w0 ρ (Instr.makeMap T none) w g H':=by
 unfold Cm at h
 rw[jK]at h;cases h
 have e:Ml w (w.alloc (.map #[] 0)):=(Below.refl _ _).alloc (Nat.le_refl _) _
 have hn:=R.new (o:= .mp []) (l:=⟨w.heap.size,0,0,.map #[] 0,.mp []⟩) (R.ext.trans e) (fun h o' l' hg hl=>by
  obtain⟨l,hl',_,ho⟩:=R.live h o' hg
  rw[hl]at hl';cases hl'
  exact⟨e.block _ ho.lt,Nat.ne_of_lt ho.lt⟩) (.inl R.ext.size) ⟨#[],0,heap_alloc_new w _,rfl,fun i x hx=>by simp at hx⟩ (heap_alloc_new w _)
 refine⟨_,_,_,?_,hn.1,hn.2,.map (l:=⟨w.heap.size,0,0,.map #[] 0,.mp []⟩) (by simp[gH.upd])⟩
 simp[Instr.makeMap]
theorem Vo (s r:ByteArray):Sw (mQ (cM s),(cM s).length) (mQ (cM r),(cM r).length)=(s.toList==r.toList):=by
 rw[Lib.toList_data,Lib.toList_data]
 unfold Sw
 by_cases hl:(cM s).length=(cM r).length
 ·have hb:Nat.beq (cM r).length (cM r).length=true:=by simp
  rw[hl,hb,cond_true]
  by_cases he:mQ (cM s)=mQ (cM r)
  ·have:=Fu hl he
   unfold cM at this
   rw[he,this];simp
  ·rw[nX he]
   symm
   rw[beq_eq_false_iff_ne]
   intro hh;exact he (by unfold cM;rw[hh])
 ·rw[nX hl,cond_false]
  symm
  rw[beq_eq_false_iff_ne]
  intro hh;exact hl (by unfold cM;rw[hh])
theorem Ns {t:Ty} {a b:GV} {A B:Value} {c:Bool} (hk:HX t a=true) (ha:Rl ρ a A) (hb:Rl ρ b B) (h:Od a b=some c):Instr.sameNow t.desc A B=some c:=by
 unfold Od at h
 unfold HX at hk
 cases hi:a.asI with
 | some x =>
  rw[hi]at h hk
  obtain⟨y,hy,h⟩:=aN.1 (show ob b.asI _=some c from h)
  obtain⟨he,h⟩:=cN.1 h
  cases h
  rw[nW hi]at ha
  rw[nW hy]at hb
  rw[ha.int_inv,hb.int_inv]
  cases hd:Sy t.desc with
  |none=>simp only[hd]at hk;cases hk
  |some k=>
   rw[EY hd]
   have:=HP he
   simp only[Instr.sameNow,this,if_true,Gl]
   congr 1
 |none=>
  rw[hi]at h hk
  obtain⟨x,hx,h⟩:=aN.1 (show ob a.asStr _=some c from h)
  obtain⟨y,hy,h⟩:=aN.1 h
  cases h
  rw[hx]at hk
  rw[sZ hx]at ha
  rw[sZ hy]at hb
  obtain⟨s,rfl,e1,e2⟩:=ha.str_inv
  obtain⟨r,rfl,e3,e4⟩:=hb.str_inv
  rw[Bp hk]
  show some (s==r)=_
  rw[beq_toListBytes,<-Vo]
  cases x;cases y;simp only at e1 e2 e3 e4;rw[e1,e2,e3,e4]
theorem Ib {t:Ty} {k:GV} {K:Value} (hk:HX t k=true) (hK:Rl ρ k K):∀{es:List (GV×GV)} {en:List MapEntry} {r:Option GV} (i:Nat),en.length=es.length->(∀(i:Nat) e,es[i]? = some e->∃m,en[i]? = some m∧Rl ρ e.1 m.key∧Rl ρ e.2 m.val)->Lz k es=some r->
  (r=none∧Instr.findNow t.desc K en i=some none)∨∃g j x,r=some g∧Rl ρ g x∧Instr.findNow t.desc K en i=some (some (j,x))
 | [],en,r,i,hl,_,h=>by
  cases h
  have:en=[]:=List.eq_nil_of_length_eq_zero (by simpa using hl)
  subst this;exact .inl ⟨rfl,rfl⟩
 | e :: es, en, r, i, hl, hr, h => by
  obtain⟨b,hb,h⟩:=aN.1 (show ob (Od k e.1) (fun b=>bif b then some (some e.2)else Lz k es)=some r from h)
  cases en with
  |nil=>simp at hl
  | cons m en =>
   obtain⟨m',hm,h1,h2⟩:=hr 0 e rfl
   simp at hm;subst hm
   have hs:=Ns hk hK h1 hb
   cases b with
   |true=>
    cases h
    exact .inr ⟨e.2,i,m.val,rfl,h2,by simp[Instr.findNow,hs]⟩
   |false=>
    have:=Ib (r:=r) hk hK (i+1) (by simpa using hl) (fun i e' he=>by have:=hr (i+1) e' (by simpa using he);simpa using this) (show Lz k es=some r from h)
    simpa [Instr.findNow,hs]using this
theorem Ly (hG:fZ P tb) {T:TypeId} {t:Ty×Ty} (h:Rq tb T=some t):∃d k e,sT P T d∧d.desc = .map k e∧sT P k t.1∧sT P e t.2:=by
 obtain⟨d,hd,h⟩:=aN.1 (show ob (tb T) _=some t from h)
 obtain⟨kv,hkv,h⟩:=aN.1 h
 obtain⟨tk,htk,h⟩:=aN.1 h
 obtain⟨tv,htv,h⟩:=aN.1 h
 cases h
 exact⟨d,kv.1,kv.2,hG.tab hd,Wd hkv,hG.tab htk,hG.tab htv⟩
theorem FP {K:TypeId} {t:Ty} {b:Bool} (hT:sT P K t) (hk:HX t u=true) (hu:Rl ρ u U) (w:World):(Instr.checkKey b 10000 K U).run P w = .ok () w:=by
 have hund:=hT.run_und w
 unfold HX at hk
 have key:∀n:Nat,(Instr.checkKey b (n+1) K U).run P w = .ok () w:=fun n=>by
  unfold Instr.checkKey
  cases hi:u.asI with
  |some x=>
   rw[hi]at hk
   rw[nW hi]at hu
   rw[hu.int_inv]
   cases hd:Sy t.desc with
   |none=>simp only[hd]at hk;cases hk
   |some k=>rw[EY hd]at hund;simp[hund]
  | none =>
   rw[hi]at hk
   cases hs:u.asStr with
   |none=>simp only[hs]at hk;cases hk
   |some x=>
    simp only[hs]at hk
    rw[sZ hs]at hu
    obtain⟨s,rfl,_,_⟩:=hu.str_inv
    rw[Bp hk]at hund
    simp[hund]
 exact key 9999
theorem jG.map (R:jG w0 ρ H w) {h:Nat} {es:List (GV×GV)} (hc:H.get h=some (.mp es)) {l:Mm} (hl:ρ h=some l):CV ρ w l (.mp es)∧w0.mine l.b:=by
 obtain⟨l',hl',hb,ho⟩:=R.live h _ hc
 rw[hl]at hl';cases hl';exact⟨ho,hb⟩
theorem So (hG:fZ P tb) {T:TypeId} {ok:Bool} (R:jG w0 ρ H w) (hv:Rl ρ v V) (hu:Rl ρ u U) (h:OI tb T ok v u H=some g):∃x,Rl ρ g x∧(Instr.lookup T V U ok).run P w = .ok x w:=by
 obtain⟨m,hm,h⟩:=aN.1 (show ob v.asM _=some g from h)
 obtain⟨o,ho,h⟩:=aN.1 h
 obtain⟨es,hes,h⟩:=aN.1 h
 obtain⟨t,ht,h⟩:=aN.1 h
 obtain⟨hk,h⟩:=cN.1 h
 obtain⟨r,hr,h⟩:=aN.1 h
 obtain⟨z,hz,h⟩:=aN.1 h
 rw[asM_eq hm]at hv
 obtain⟨l,hl,rfl⟩:=hv.map_inv
 rw[GO.asM_eq hes]at ho
 obtain⟨⟨en,cl,hb,hlen,hent⟩,_⟩:=R.map ho hl
 obtain⟨d,k,e,hd,hde,hK,hE⟩:=Ly hG ht
 have hund:=hd.run_und w
 rw[hde]at hund
 have hck:=FP (P:=P) (b:=en.isEmpty) hK hk hu w
 have hget:(getObj l.b).run P w = .ok (.map en cl) w:=by simp[getObj,Sem.run,hb]
 have hkund:=hK.run_und w
 have hf:=Ib hk hu (en:=en.toList) (r:=r) 0 (by simpa using hlen) (fun i e' he=>by
  obtain⟨m',h1,h2⟩:=hent i e' he
  exact⟨m',by rw[Array.getElem?_toList];exact h1,h2⟩) hr
 have hz':=Nk (ρ:=ρ) hz
 rcases hf with⟨rfl,hf⟩|⟨g',j,x,rfl,hx,hf⟩
 ·cases ok with
  |false=>cases h;exact⟨_,hz',by simp[Instr.lookup,hund,hget,hck,Instr.findKey,hkund,hf,hE.run_zero w]⟩
  |true=>cases h;exact⟨.tuple #[t.2.zero,.bool false],Hh (.cons hz' (.cons (.bool _) .nil)),by simp[Instr.lookup,hund,hget,hck,Instr.findKey,hkund,hf,hE.run_zero w]⟩
 ·cases ok with
  |false=>cases h;exact⟨x,hx,by simp[Instr.lookup,hund,hget,hck,Instr.findKey,hkund,hf]⟩
  |true=>cases h;exact⟨.tuple #[x,.bool true],Hh (.cons hx (.cons (.bool _) .nil)),by simp[Instr.lookup,hund,hget,hck,Instr.findKey,hkund,hf]⟩
theorem PM (hG:fZ P tb) {T:TypeId} (R:jG w0 ρ H w) (hv:Rl ρ v V) (hu:Rl ρ u U) (hx:Rl ρ t X) (h:KO tb T v u t H=some (g,H')):g = .un∧∃w' ρ',(Instr.mapUpdate T V U X).run P w = .ok () w'∧ρ.le ρ'∧jG w0 ρ' H' w':=by
 obtain⟨m,hm,h⟩:=aN.1 (show ob v.asM _=some (g,H')from h)
 obtain⟨o,ho,h⟩:=aN.1 h
 obtain⟨es,hes,h⟩:=aN.1 h
 obtain⟨ty,ht,h⟩:=aN.1 h
 obtain⟨hk,h⟩:=cN.1 h
 obtain⟨r,hr,h⟩:=aN.1 h
 rw[asM_eq hm]at hv
 obtain⟨l,hl,rfl⟩:=hv.map_inv
 rw[GO.asM_eq hes]at ho
 obtain⟨⟨en,cl,hb,hlen,hent⟩,hbase⟩:=R.map ho hl
 obtain⟨d,k,e,hd,hde,hK,hE⟩:=Ly hG ht
 have hund:=hd.run_und w
 rw[hde]at hund
 have hck:=FP (P:=P) (b:=false) hK hk hu w
 have hget:(getObj l.b).run P w = .ok (.map en cl) w:=by simp[getObj,Sem.run,hb]
 have hkund:=hK.run_und w
 have hf:=Ib hk hu (en:=en.toList) (r:=r) 0 (by simpa using hlen) (fun i e' he=>by
  obtain⟨m',h1,h2⟩:=hent i e' he
  exact⟨m',by rw[Array.getElem?_toList];exact h1,h2⟩) hr
 rcases hf with⟨rfl,hf⟩|⟨g',j,x,rfl,hx',hf⟩
 ·simp only[zH]at h
  cases h
  refine⟨rfl,{w with heap:=w.heap.setIfInBounds l.b (.map (en.push {key:=U,val:=X,born:=cl}) (cl+1))},_,?_,R.set (X:= .map (en.push {key:=U,val:=X,born:=cl}) (cl+1)) ho hl ?_ ?_ ?_ ?_⟩
  ·simp[Instr.mapUpdate,hund,hget,hck,Instr.findKey,hkund,hf,setObj,Sem.run,hb]
  ·exact⟨R.ext.os,R.ext.tape,R.ext.output,by simpa using R.ext.size,fun i hi hO=>by
    show(w.heap.setIfInBounds l.b _)[i]? = _
    rw[Array.getElem?_setIfInBounds_ne (fun e=>by subst e;rcases hbase with hbase|hbase;exact absurd hbase (by omega);exact hO hbase)];exact R.ext.block i hi hO⟩
  ·intro i hi
   show(w.heap.setIfInBounds l.b _)[i]? = _
   rw[Array.getElem?_setIfInBounds_ne (Ne.symm hi)]
  ·have hlt:l.b<w.heap.size:=(Array.getElem?_eq_some_iff.1 hb).1
   refine⟨en.push {key:=U,val:=X,born:=cl},cl+1,by show(w.heap.setIfInBounds l.b _)[l.b]? = _;rw[Array.getElem?_setIfInBounds_self_of_lt hlt],by simp[hlen],fun i e' he=> ?_⟩
   by_cases hi:i<es.length
   ·rw[List.getElem?_append_left hi]at he
    obtain⟨m',h1,h2⟩:=hent i e' he
    exact⟨m',by rw[Array.getElem?_push,if_neg (by omega)];exact h1,h2⟩
   ·rw[List.getElem?_append_right (by omega)]at he
    have:i=es.length:=by
     have:=bN he
     simp at this;omega
    subst this
    simp at he;subst he
    exact⟨⟨U,X,cl⟩,by rw[Array.getElem?_push,if_pos (by omega)],hu,hx⟩
  ·have hlt:l.b<w.heap.size:=(Array.getElem?_eq_some_iff.1 hb).1
   show(w.heap.setIfInBounds l.b _)[l.b]? = _
   rw[Array.getElem?_setIfInBounds_self_of_lt hlt]
 ·cases h
end
end
section
section
variable {P:Program} {tb:TB} {ρ:gH} {gs:BQ} {w0:iQ gs} {w:World} {H H':GH} {n:Nat} {σ:GF} {a:Act} {R:Type}
def wB (P:Program) {gs:BQ} (w0:iQ gs) (ρ:gH) (f:Nat) (vs:List Value) (w:World) (g:GV) (H':GH):Prop:=
 (∃v w' ρ',(callFunc f vs.toArray).run P w = .ok (.value v) w'∧ρ.le ρ'∧jG w0 ρ' H' w'∧Rl ρ' g v)∨
 ((callFunc f vs.toArray).run P w = .ok (.enter f vs.toArray) w∧Calls P f vs.toArray w fun e w'=>∃v ρ',e = .returned v∧ρ.le ρ'∧jG w0 ρ' H' w'∧Rl ρ' g v)
def sU (P:Program) {gs:BQ} (w0:iQ gs) (ih:CH):Prop:=∀f us H g H',ih f us H=some (g,H')->∀ρ w vs,jG w0 ρ H w->xQ ρ us vs->wB P w0 ρ f vs w g H'
def BX (P:Program) {gs:BQ} (w0:iQ gs) (ρ:gH) (σ:GF) (a:Act) (w:World) (o:Oper) (g:GV) (H H':GH):Prop:=
 (fK o.op=false∧nY o.op=false∧Kl o.op=false∧H'=H∧∃v,Rl ρ g v∧∀w,(execOp a.eval o).run P w = .ok (.value v) w)∨
 (fK o.op=false∧nY o.op=true∧H'=H∧∃v h l,Tz σ o.op=some h∧ρ h=some l∧(∃x,H.get h=some x)∧Rl ρ g v∧∀w',w'.heap[l.b]? = w.heap[l.b]? -> (execOp a.eval o).run P w' = .ok (.value v) w')∨
 (fK o.op=false∧Kl o.op=true∧H'=H∧∃v,Rl ρ g v∧(execOp a.eval o).run P w = .ok (.value v) w)∨
 (fK o.op=true∧∀K:Act->World->Prop,(∀ρ' w' v,ρ.le ρ'->jG w0 ρ' H' w'->Rl ρ' g v->K (a.put o.dst v) w')->o.wp P a w K Mz)
theorem BX.comp {o:Oper} {g:GV} {s:Sem Value} (hl:fK o.op=false) (h:Co P ρ s g) (he:∀w v,s.run P w = .ok v w->(execOp a.eval o).run P w = .ok (.value v) w) (h1:nY o.op=false:=by rfl) (h2:Kl o.op=false:=by rfl):BX P w0 ρ σ a w o g H H:=
 let ⟨v,hv,hr⟩:=h;.inl ⟨hl,h1,h2,rfl,v,hv,fun w=>he w v (hr w)⟩
theorem BX.read {o:Oper} {g:GV} {s:Sem Value} (hl:fK o.op=false) (hr:Kl o.op=true) (h:∃x,Rl ρ g x∧s.run P w = .ok x w) (he:∀v,s.run P w = .ok v w->(execOp a.eval o).run P w = .ok (.value v) w):BX P w0 ρ σ a w o g H H:=
 let ⟨v,hv,hr'⟩:=h;.inr (.inr (.inl ⟨hl,hr,rfl,v,hv,he v hr'⟩))
theorem BX.does {o:Oper} {g:GV} {s:Sem Value} (hl:fK o.op=true) (h:JG P w0 ρ s w g H') (he:∀v w',s.run P w = .ok v w'->(execOp a.eval o).run P w = .ok (.value v) w'):BX P w0 ρ σ a w o g H H':=by
 obtain⟨v,w',ρ',hr,hle,R',hv⟩:=h
 refine .inr (.inr (.inr ⟨hl,fun K hK=> ?_⟩))
 simp only[Oper.wp,he v w' hr,Oper.upon]
 exact hK ρ' w' v hle R' hv
theorem BX.act {o:Oper} {g:GV} {s:Sem Unit} (hl:fK o.op=true) (h:g = .un∧∃w' ρ',s.run P w = .ok () w'∧ρ.le ρ'∧jG w0 ρ' H' w') (he:∀w',s.run P w = .ok () w'->(execOp a.eval o).run P w = .ok .skip w'):BX P w0 ρ σ a w o g H H':=by
 obtain⟨rfl,w',ρ',hr,hle,R'⟩:=h
 refine .inr (.inr (.inr ⟨hl,fun K hK=> ?_⟩))
 simp only[Oper.wp,he w' hr,Oper.upon]
 exact hK ρ' w' undef hle R' .un
theorem Hn (F:kU ρ n σ a) {o:Option Operand} {g:Option GV} (h:Gm σ o=some g):Ww ρ g (o.map a.eval):=by
 cases o with
 |none=>cases h;exact .inl ⟨rfl,rfl⟩
 |some x=>
  obtain⟨v,hv,h⟩:=aN.1 (show ob (kB σ x) _=some g from h)
  cases h;exact .inr ⟨v,_,rfl,rfl,dH F hv⟩
theorem Ej {α:Type} {xs:Array α} {x y:α} (h:xs.toList=[x,y]):xs = #[x,y]:=by
 cases xs;simp at h;rw[h]
theorem Hw {α:Type} {xs:Array α} {x:α} (h:xs.toList=[x]):xs = #[x]:=by
 cases xs;simp at h;rw[h]
theorem CE {f:Operand->KT R} {k:GV->GH->Option R} {r:R}:∀{xs:List Operand},HW xs f σ H k=some r->∃x,xs=[x]∧f x σ H k=some r
 | [],h=>by cases h
 | [x],h=>⟨x,rfl,h⟩
 |_::_::_,h=>by cases h
theorem zK {f:Operand->Operand->KT R} {k:GV->GH->Option R} {r:R}:∀{xs:List Operand},Dx xs f σ H k=some r->∃x y,xs=[x,y]∧f x y σ H k=some r
 | [],h=>by cases h
 | [_],h=>by cases h
 | [x,y],h=>⟨x,y,rfl,h⟩
 |_::_::_::_,h=>by cases h
theorem mA {o:OR} {k:GV->GH->Option R} {r:R} (h:f_ o k=some r):∃g H',o=some (g,H')∧k g H'=some r:=by
 obtain⟨⟨g,H'⟩,h1,h2⟩:=aN.1 (show ob o _=some r from h)
 exact⟨g,H',h1,h2⟩
theorem Tu (hG:fZ P tb) (F:kU ρ n σ a) (Rr:jG w0 ρ H w) {b:Builtin} {xs:Array Operand} {ts:Array TypeId} {k:GV->GH->Option R} {r:R} {d:Option Tmp} {ty:TypeId} {pos:String} {aft:Array Edge} {gd:Option (Nat×Bool)} (hlen:ts.size=xs.size)
  (h:Nb tb xs ts b σ H k=some r):∃g H',k g H'=some r∧BX P w0 ρ σ a w ⟨d,.call ⟨.builtin b,xs,ts⟩,ty,pos,aft,gd⟩ g H H':=by
 cases b with
 | len =>
  obtain⟨x,hx,h⟩:=CE (show HW xs.toList (Ps tb ts.toList) σ H k=some r from h)
  obtain⟨T,hT,h⟩:=aN.1 (show ob (Ga ts.toList 0) _=some r from h)
  obtain⟨v,hv,h⟩:=aN.1 h
  obtain⟨g,hg,hk⟩:=aN.1 h
  have ex:=Hw hx
  subst ex
  have et:ts = #[T]:=by
   rw[uY]at hT
   obtain⟨l⟩:=ts
   match l,hlen with
   | [t],_=>simp at hT;subst hT;rfl
  subst et
  exact⟨g,H,hk,.comp rfl (OH hG (ty:=ty) (dH F hv) hg) (fun w v hr=>by simp[execOp,resolve,invoke,builtin,hr])⟩
 | max =>
  obtain⟨x,y,hx,h⟩:=zK (show Dx xs.toList (fun x y=>k2 x y Sq) σ H k=some r from h)
  obtain⟨v,hv,h⟩:=aN.1 (show ob (kB σ x) _=some r from h)
  obtain⟨u,hu,h⟩:=aN.1 h
  obtain⟨g,hg,hk⟩:=aN.1 h
  have ex:=Ej hx
  subst ex
  obtain⟨t1,t2,et⟩:∃t1 t2,ts = #[t1,t2]:=by
   obtain⟨l⟩:=ts
   match l,hlen with
   | [t,t'],_=>exact⟨t,t',rfl⟩
  subst et
  exact⟨g,H,hk,.comp rfl (OJ (t1:=t1) (t2:=t2) (ty:=ty) (dH F hv) (dH F hu) hg) (fun w v hr=>by simp[execOp,resolve,invoke,builtin,hr])⟩
 | min =>
  obtain⟨x,y,hx,h⟩:=zK (show Dx xs.toList (fun x y=>k2 x y TW) σ H k=some r from h)
  obtain⟨v,hv,h⟩:=aN.1 (show ob (kB σ x) _=some r from h)
  obtain⟨u,hu,h⟩:=aN.1 h
  obtain⟨g,hg,hk⟩:=aN.1 h
  have ex:=Ej hx
  subst ex
  obtain⟨t1,t2,et⟩:∃t1 t2,ts = #[t1,t2]:=by
   obtain⟨l⟩:=ts
   match l,hlen with
   | [t,t'],_=>exact⟨t,t',rfl⟩
  subst et
  exact⟨g,H,hk,.comp rfl (OK (t1:=t1) (t2:=t2) (ty:=ty) (dH F hv) (dH F hu) hg) (fun w v hr=>by simp[execOp,resolve,invoke,builtin,hr])⟩
 | append =>
  obtain⟨x,y,hx,h⟩:=zK (show Dx xs.toList (Rj tb ts.toList) σ H k=some r from h)
  obtain⟨T,hT,h⟩:=aN.1 (show ob (Ga ts.toList 0) _=some r from h)
  obtain⟨T',hT',h⟩:=aN.1 h
  obtain⟨v,hv,h⟩:=aN.1 h
  obtain⟨u,hu,h⟩:=aN.1 h
  obtain⟨g,H',hg,hk⟩:=mA h
  have ex:=Ej hx
  subst ex
  have et:ts = #[T,T']:=by
   rw[uY]at hT hT'
   obtain⟨l⟩:=ts
   match l,hlen with
   | [t,t'],_=>simp at hT hT';subst hT hT';rfl
  subst et
  exact⟨g,H',hk,.does rfl (TQ hG (ty:=ty) Rr (dH F hv) (dH F hu) hg) (fun v w' hr=>by simp[execOp,resolve,invoke,builtin,hr])⟩
 | copy =>
  obtain⟨x,y,hx,h⟩:=zK (show Dx xs.toList (Lt tb ts.toList) σ H k=some r from h)
  obtain⟨T,hT,h⟩:=aN.1 (show ob (Ga ts.toList 0) _=some r from h)
  obtain⟨v,hv,h⟩:=aN.1 h
  obtain⟨u,hu,h⟩:=aN.1 h
  obtain⟨g,H',hg,hk⟩:=mA h
  have ex:=Ej hx
  subst ex
  obtain⟨T',et⟩:∃T',ts = #[T,T']:=by
   rw[uY]at hT
   obtain⟨l⟩:=ts
   match l,hlen with
   | [t,t'],_=>simp at hT;subst hT;exact⟨t',rfl⟩
  subst et
  exact⟨g,H',hk,.does rfl (Sm hG (T':=T') (ty:=ty) Rr (dH F hv) (dH F hu) hg) (fun v w' hr=>by simp[execOp,resolve,invoke,builtin,hr])⟩
 | cap =>
  obtain⟨x,hx,h⟩:=CE (show HW xs.toList (Pq tb ts.toList) σ H k=some r from h)
  obtain⟨T,hT,h⟩:=aN.1 (show ob (Ga ts.toList 0) _=some r from h)
  obtain⟨v,hv,h⟩:=aN.1 h
  obtain⟨g,hg,hk⟩:=aN.1 h
  have ex:=Hw hx
  subst ex
  have et:ts = #[T]:=by
   rw[uY]at hT
   obtain⟨l⟩:=ts
   match l,hlen with
   | [t],_=>simp at hT;subst hT;rfl
  subst et
  exact⟨g,H,hk,.comp rfl (OF hG (ty:=ty) (dH F hv) hg) (fun w v hr=>by simp[execOp,resolve,invoke,builtin,hr])⟩
 |_=>cases h
theorem Pp {ih:CH} (hih:sU P w0 ih) (F:kU ρ n σ a) (Rr:jG w0 ρ H w) {f:Operand} {xs:Array Operand} {ts:Array TypeId} {k:GV->GH->Option R} {r:R} {d:Option Tmp} {ty:TypeId} {pos:String} {aft:Array Edge} {gd:Option (Nat×Bool)}
  (h:Rk ih xs f σ H k=some r):∃g H',k g H'=some r∧BX P w0 ρ σ a w ⟨d,.call ⟨.value f,xs,ts⟩,ty,pos,aft,gd⟩ g H H':=by
 obtain⟨v,hv,h⟩:=aN.1 (show ob (kB σ f) _=some r from h)
 obtain⟨p,hp,h⟩:=aN.1 h
 obtain⟨us,hus,h⟩:=aN.1 h
 obtain⟨g,H',hc,h⟩:=mA h
 refine⟨g,H',h,.inr (.inr (.inr ⟨rfl,fun K hK=> ?_⟩))⟩
 have hf:=dH F hv
 rw[Qq hp]at hf
 obtain⟨fs,cs,ef,hfs,hcs⟩:=hf.fn_inv
 have harg:=Ee F hus
 have hall:=(hfs.append harg).append hcs
 have hrun:∀nx w',(callFunc p.1 (fs++xs.toList.map a.eval++cs).toArray).run P w = .ok nx w'->(execOp a.eval ⟨d,.call ⟨.value f,xs,ts⟩,ty,pos,aft,gd⟩).run P w = .ok nx w':=fun nx w' hr=>by
  have e1:(fs++xs.toList.map a.eval++cs).toArray=fs.toArray++(xs.map a.eval++cs.toArray):=by
   apply Array.toList_inj.1;simp
  rw[e1]at hr
  simp[execOp,resolve,ef,Deferred.ofValue,invoke,hr]
 rcases hih _ _ _ _ _ hc ρ w _ Rr hall with⟨v',w',ρ',hr,hle,R',hv'⟩|⟨hr,hcalls⟩
 ·simp only[Oper.wp,hrun _ _ hr,Oper.upon]
  exact hK ρ' w' v' hle R' hv'
 ·simp only[Oper.wp,hrun _ _ hr,Oper.upon]
  refine hcalls.mono ?_
  rintro e w' ⟨v',ρ',rfl,hle,R',hv'⟩
  exact hK ρ' w' v' hle R' hv'
def Ig:Op->Bool
 | .call c=>Nat.beq c.argTypes.size c.args.size
 |_=>true
theorem MY (hG:fZ P tb) {ih:CH} (hih:sU P w0 ih) (F:kU ρ n σ a) (Rr:jG w0 ρ H w) {o:Oper} {k:GV->GH->Option R} {r:R} (hoa:Ig o.op=true∨∃c f,o.op = .call c∧c.callee = .value f) (h:KR tb ih o.op σ H k=some r):
  ∃g H',k g H'=some r∧BX P w0 ρ σ a w o g H H':=by
 obtain⟨d,op,ty,pos,aft,gd⟩:=o
 cases op with
 |move x=>
  obtain⟨v,hv,h⟩:=aN.1 (show ob (kB σ x) _=some r from h)
  exact⟨v,H,h,.inl ⟨rfl,rfl,rfl,rfl,_,dH F hv,fun w=>by simp[execOp]⟩⟩
 |assign x=>
  obtain⟨v,hv,h⟩:=aN.1 (show ob (kB σ x) _=some r from h)
  exact⟨v,H,h,.inl ⟨rfl,rfl,rfl,rfl,_,dH F hv,fun w=>by simp[execOp]⟩⟩
 |pick c x y=>
  obtain⟨v,hv,h⟩:=aN.1 (show ob (kB σ c) _=some r from h)
  obtain⟨u,hu,h⟩:=aN.1 h
  obtain⟨t,ht,h⟩:=aN.1 h
  obtain⟨g,hg,h⟩:=aN.1 h
  obtain⟨b,hb,hg⟩:=aN.1 (show ob v.asB _=some g from hg)
  have hc:=dH F hv
  rw[Do hb]at hc
  cases b with
  |true=>cases hg;exact⟨_,H,h,.inl ⟨rfl,rfl,rfl,rfl,_,dH F hu,fun w=>by simp[execOp,hc.bool_inv,asBool]⟩⟩
  |false=>cases hg;exact⟨_,H,h,.inl ⟨rfl,rfl,rfl,rfl,_,dH F ht,fun w=>by simp[execOp,hc.bool_inv,asBool]⟩⟩
 |alloc T=>
  obtain⟨g,H',hg,h⟩:=mA (show f_ (sN tb T H) k=some r from h)
  exact⟨g,H',h,.does rfl (GC hG Rr hg) (fun v w' hr=>by simp[execOp,hr])⟩
 |box T x=>
  obtain⟨v,hv,h⟩:=aN.1 (show ob (kB σ x) _=some r from h)
  obtain⟨g,H',hg,h⟩:=mA h
  exact⟨g,H',h,.does rfl (TS (T:=T) Rr (dH F hv) hg) (fun v w' hr=>by simp[execOp,hr])⟩
 | build T ps =>
  obtain⟨vs,hvs,h⟩:=aN.1 (show ob (uX σ ps.toList) _=some r from h)
  obtain⟨g,hg,h⟩:=aN.1 h
  exact⟨g,H,h,.comp rfl (Jz hG (Ca F hvs) hg) (fun w v hr=>by
   have e:(ps.toList.map fun p=>(p.1,a.eval p.2)).toArray=ps.map fun p=>(p.1,a.eval p.2):=by apply Array.toList_inj.1;simp
   rw[e]at hr
   simp[execOp,hr])⟩
 | buildSlice T m ps =>
  obtain⟨vs,hvs,h⟩:=aN.1 (show ob (uX σ ps.toList) _=some r from h)
  obtain⟨g,H',hg,h⟩:=mA h
  exact⟨g,H',h,.does rfl (NA hG Rr (Ca F hvs) hg) (fun v w' hr=>by
   have e:(ps.toList.map fun p=>(p.1,a.eval p.2)).toArray=ps.map fun p=>(p.1,a.eval p.2):=by apply Array.toList_inj.1;simp
   rw[e]at hr
   simp[execOp,hr])⟩
 |load T x=>
  obtain⟨v,hv,h⟩:=aN.1 (show ob (kB σ x) _=some r from h)
  obtain⟨g,hg,h⟩:=aN.1 h
  obtain⟨x',p,l,he,hl,hgt,hx',hr⟩:=IB (P:=P) hG Rr (dH F hv) hg
  exact⟨g,H,h,.inr (.inl ⟨rfl,rfl,rfl,x',p.1,l,by show ob (kB σ x) _=_;rw[hv,he];rfl,hl,hgt,hx',fun w' hw'=>by have:=hr w' hw';simp[execOp,this]⟩)⟩
 |store T x y=>
  obtain⟨v,hv,h⟩:=aN.1 (show ob (kB σ x) _=some r from h)
  obtain⟨u,hu,h⟩:=aN.1 h
  obtain⟨g,H',hg,h⟩:=mA h
  exact⟨g,H',h,.act rfl (GD hG Rr (dH F hv) (dH F hu) hg) (fun w' hr=>by simp[execOp,hr])⟩
 |nilCheck x=>
  obtain⟨v,hv,h⟩:=aN.1 (show ob (kB σ x) _=some r from h)
  obtain⟨g,hg,hk⟩:=aN.1 h
  obtain⟨rfl,hr⟩:=LA (P:=P) (dH F hv) hg
  exact⟨_,H,hk,.inl ⟨rfl,rfl,rfl,rfl,_,dH F hv,fun w=>hr _ x a.eval rfl rfl w⟩⟩
 | binOp op T x y T' =>
  obtain⟨v,hv,h⟩:=aN.1 (show ob (kB σ x) _=some r from h)
  obtain⟨u,hu,h⟩:=aN.1 h
  obtain⟨g,hg,h⟩:=aN.1 h
  exact⟨g,H,h,.comp rfl (OE hG x y (dH F hv) (dH F hu) hg) (fun w v hr=>by
   simp only[execOp]
   simp at hr ⊢
   cases hq:Sem.run P (eqGuard op T x y (a.eval x) (a.eval y)) w with
   |ok u w1=>rw[hq]at hr;simp at hr;simp[hr]
   |halt h1 w1=>rw[hq]at hr;cases hr)⟩
 |unOp op T x=>
  obtain⟨v,hv,h⟩:=aN.1 (show ob (kB σ x) _=some r from h)
  obtain⟨g,hg,h⟩:=aN.1 h
  exact⟨g,H,h,.comp rfl (Sr (dH F hv) hg) (fun w v hr=>by simp[execOp,hr])⟩
 |convert S D x=>
  obtain⟨v,hv,h⟩:=aN.1 (show ob (kB σ x) _=some r from h)
  obtain⟨g,hg,h⟩:=aN.1 h
  exact⟨g,H,h,.comp rfl (Ma hG (dH F hv) hg) (fun w v hr=>by simp[execOp,hr])⟩
 | makeFunc fn first caps =>
  cases fn with
  |func f=>
   obtain⟨us,hus,h⟩:=aN.1 (show ob (EU σ first.toList) _=some r from h)
   obtain⟨vs,hvs,h⟩:=aN.1 h
   refine⟨_,H,h,.inl ⟨rfl,rfl,rfl,rfl,_,MC (Ee F hus) (Ee F hvs),fun w=> ?_⟩⟩
   have e1:(first.toList.map a.eval).toArray=first.map a.eval:=by apply Array.toList_inj.1;simp
   have e2:(caps.toList.map a.eval).toArray=caps.map a.eval:=by apply Array.toList_inj.1;simp
   rw[e1,e2]
   simp[execOp,Instr.makeFunc]
  |_=>cases h
 | makeMap T q =>
  cases q with
  |none=>
   obtain⟨g,H',hg,h⟩:=mA (show f_ (Cm H) k=some r from h)
   exact⟨g,H',h,.does rfl (Mc (T:=T) Rr hg) (fun v w' hr=>by simp[execOp,hr])⟩
  |some x=>cases h
 |makeSlice T x y=>
  obtain⟨v,hv,h⟩:=aN.1 (show ob (kB σ x) _=some r from h)
  obtain⟨u,hu,h⟩:=aN.1 h
  obtain⟨g,H',hg,h⟩:=mA h
  exact⟨g,H',h,.does rfl (Sp hG Rr (dH F hv) (dH F hu) hg) (fun v w' hr=>by simp[execOp,hr])⟩
 | slice T x lo hi mx =>
  cases mx with
  |none=>
   obtain⟨v,hv,h⟩:=aN.1 (show ob (kB σ x) _=some r from h)
   obtain⟨l,hl,h⟩:=aN.1 h
   obtain⟨e,he,h⟩:=aN.1 h
   obtain⟨g,hg,h⟩:=aN.1 h
   exact⟨g,H,h,.comp rfl (JC hG (.inl ⟨_,_,Rr⟩) (dH F hv) (Hn F hl) (Hn F he) hg) (fun w v hr=>by simp[execOp,hr])⟩
  |some y=>cases h
 |fieldAddr T x f=>
  obtain⟨v,hv,h⟩:=aN.1 (show ob (kB σ x) _=some r from h)
  obtain⟨g,hg,h⟩:=aN.1 h
  exact⟨g,H,h,.comp rfl (JA hG (dH F hv) hg) (fun w v hr=>by simp[execOp,hr])⟩
 |field T x f=>
  obtain⟨v,hv,h⟩:=aN.1 (show ob (kB σ x) _=some r from h)
  obtain⟨g,hg,h⟩:=aN.1 h
  exact⟨g,H,h,.comp rfl (Md hG (dH F hv) hg) (fun w v hr=>by simp[execOp,hr])⟩
 |indexAddr T x y=>
  obtain⟨v,hv,h⟩:=aN.1 (show ob (kB σ x) _=some r from h)
  obtain⟨u,hu,h⟩:=aN.1 h
  obtain⟨g,hg,h⟩:=aN.1 h
  exact⟨g,H,h,.comp rfl (JB hG (dH F hv) (dH F hu) hg) (fun w v hr=>by simp[execOp,hr])⟩
 |index T x y=>
  obtain⟨v,hv,h⟩:=aN.1 (show ob (kB σ x) _=some r from h)
  obtain⟨u,hu,h⟩:=aN.1 h
  obtain⟨g,hg,h⟩:=aN.1 h
  exact⟨g,H,h,.comp rfl (Sg hG (dH F hv) (dH F hu) hg) (fun w v hr=>by simp[execOp,hr])⟩
 |lookup T x y ok=>
  obtain⟨v,hv,h⟩:=aN.1 (show ob (kB σ x) _=some r from h)
  obtain⟨u,hu,h⟩:=aN.1 h
  obtain⟨g,hg,h⟩:=aN.1 h
  exact⟨g,H,h,.read rfl rfl (So hG Rr (dH F hv) (dH F hu) hg) (fun v hr=>by simp[execOp,hr])⟩
 |mapUpdate T x y z=>
  obtain⟨v,hv,h⟩:=aN.1 (show ob (kB σ x) _=some r from h)
  obtain⟨u,hu,h⟩:=aN.1 h
  obtain⟨t,ht,h⟩:=aN.1 h
  obtain⟨g,H',hg,h⟩:=mA h
  exact⟨g,H',h,.act rfl (PM hG Rr (dH F hv) (dH F hu) (dH F ht) hg) (fun w' hr=>by simp[execOp,hr])⟩
 |extract x i=>
  obtain⟨v,hv,h⟩:=aN.1 (show ob (kB σ x) _=some r from h)
  obtain⟨g,hg,h⟩:=aN.1 h
  exact⟨g,H,h,.comp rfl (OG (dH F hv) hg) (fun w v hr=>by simp[execOp,hr])⟩
 | call c =>
  obtain⟨cal,xs,ts⟩:=c
  cases cal with
  |value f=>exact Pp hih F Rr h
  |invoke x m=>cases h
  |builtin b=>
   refine Tu hG F Rr ?_ h
   rcases hoa with hoa|⟨c,f,e1,e2⟩
   ·exact Nat.eq_of_beq_eq_true hoa
   ·cases e1;cases e2
 |_=>cases h
end
end
section
theorem CQ {R:Type}:∀(ks:List Nat) (vs:List GV) (f:GF->Option R),jS ks vs f=ob (jS ks vs some) f
 | [],[],f=>rfl
 | [],_::_,f=>rfl
 |key::ks,[],f=>rfl
 |key::ks,v::vs,f=>by
  show jS ks vs (fun σ=>f ((key,v)::σ))=ob (jS ks vs fun σ=>some ((key,v)::σ)) f
  rw[CQ ks vs (fun σ=>f ((key,v)::σ)),CQ ks vs (fun σ=>some ((key,v)::σ))]
  cases jS ks vs some<;>rfl
theorem q_ {R:Type} {ks:List Nat} {vs:List GV} {f:GF->Option R} {r:R} (h:jS ks vs f=some r):∃σ,jS ks vs some=some σ∧f σ=some r:=by
 rw[CQ]at h;exact aN.1 h
theorem Hr {ρ:gH} {n:Nat} {σ:GF} {a:Act} (F:kU ρ n σ a):∀{ks:List Nat} {σ':GF},jS ks (Ce σ ks) some=some σ'->kU ρ n σ' a
 | [],σ',h=>by cases h;exact⟨F.defers,F.size,fun t g hg=>by cases hg⟩
 | key :: ks, σ', h => by
  have h':jS ks (Ce σ ks) (fun σ'=>some ((key,Option.casesOn (motive:=fun _=>GV) (Eo σ key) .bad (fun v=>v))::σ'))=some σ':=h
  obtain⟨s,h1,h2⟩:=q_ h'
  cases h2
  have ih:=Hr F h1
  refine⟨F.defers,F.size,fun t g hg=> ?_⟩
  rw[Bd]at hg
  by_cases e:t=key
  ·subst e
   rw[if_pos rfl]at hg
   cases hk:Eo σ t with
   |none=>rw[hk]at hg;cases hg;exact .bad _
   |some v=>rw[hk]at hg;cases hg;exact F.slot t v hk
  ·rw[if_neg e]at hg;exact ih.slot t g hg
theorem Kw (σ:GF):∀ks:List Nat,∃σ',jS ks (Ce σ ks) some=some σ'
 | []=>⟨[],rfl⟩
 |key::ks=>by
  obtain⟨σ',h⟩:=Kw σ ks
  refine⟨(key,Option.casesOn (motive:=fun _=>GV) (Eo σ key) .bad (fun v=>v))::σ',?_⟩
  show jS ks (Ce σ ks) (fun σ'=>some ((key,Option.casesOn (motive:=fun _=>GV) (Eo σ key) .bad (fun v=>v))::σ'))=_
  rw[CQ,h];rfl
theorem HF:∀{m i:Nat} {us:List GV} {σ:GF},jS (List.range' i m) us some=some σ->us.length=m
 |0,i,[],σ,h=>rfl
 |0,i,_::_,σ,h=>by cases h
 |m+1,i,[],σ,h=>by cases h
 |m+1,i,u::us,σ,h=>by
  obtain⟨s,h3,_⟩:=q_ (show jS (List.range' (i+1) m) us (fun σ=>some ((i,u)::σ))=some σ from h)
  simp[HF h3]
theorem JQ {ρ:gH} {n:Nat} {a:Act} (hd:a.defers=[]) (hs:a.tmps.size=n):∀{m i:Nat} {us:List GV} {vs:lR} {σ:GF},xQ ρ us vs->(∀j v,vs[j]? = some v->a.tmps[i+j]? = some v)->jS (List.range' i m) us some=some σ->kU ρ n σ a
 |0,i,[],vs,σ,_,_,h=>by cases h;exact⟨hd,hs,fun t g hg=>by cases hg⟩
 |0,i,_::_,vs,σ,_,_,h=>by cases h
 |m+1,i,[],vs,σ,_,_,h=>by cases h
 | m + 1, i, u :: us, vs, σ, hr, ha, h => by
  obtain⟨v,vs,rfl,h1,h2⟩:=hr.of_cons
  have h':jS (List.range' (i+1) m) us (fun σ=>some ((i,u)::σ))=some σ:=h
  obtain⟨s,h3,h4⟩:=q_ h'
  cases h4
  have ih:=JQ hd hs h2 (fun j v hv=>by have:=ha (j+1) v (by simpa using hv);rwa[show i+(j+1)=i+1+j by omega]at this) h3
  refine⟨hd,hs,fun t g hg=> ?_⟩
  rw[Bd]at hg
  by_cases e:t=i
  ·subst e;rw[if_pos rfl]at hg;cases hg
   have:=ha 0 v rfl
   simp[Act.eval,show a.tmps[t]? = some v by simpa using this,h1]
  ·rw[if_neg e]at hg;exact ih.slot t g hg
def Gs (n:Nat) (o:Oper):Bool:=iS o&&(match o.dst with|none=>true|some d=>Nat.blt d n)&&(Ig o.op||(match o.op with|.call c=>(match c.callee with|.value _=>true|_=>false)|_=>false))
section
variable {P:Program} {tb:TB} {gs:BQ} {w0:iQ gs}
theorem uO {n:Nat} {o:Oper} (h:Gs n o=true):iS o=true∧(∀d,o.dst=some d->d<n)∧(Ig o.op=true∨∃c f,o.op = .call c∧c.callee = .value f):=by
 unfold Gs at h
 simp only[Bool.and_eq_true,Bool.or_eq_true]at h
 obtain⟨⟨h1,h2⟩,h3⟩:=h
 refine⟨h1,fun d hd=> ?_,?_⟩
 ·rw[hd]at h2;simpa [Nat.blt_eq]using h2
 ·rcases h3 with h3|h3
  ·exact .inl h3
  ·right
   cases ho:o.op with
   |call c=>
    rw[ho]at h3
    cases hc:c.callee with
    |value f=>exact⟨c,f,rfl,hc⟩
    |invoke x m=>simp only[hc]at h3;cases h3
    |builtin b=>simp only[hc]at h3;cases h3
   |_=>rw[ho]at h3;cases h3
theorem kU.putD {ρ:gH} {n:Nat} {σ:GF} {a:Act} (F:kU ρ n σ a) {d:Option Nat} (hd:∀x,d=some x->x<n) {g:GV} {v:Value} (hv:Rl ρ g v):kU ρ n (putD d g σ) (a.put d v):=by
 cases d with
 |none=>exact⟨F.defers,F.size,F.slot⟩
 |some d=>exact F.put (hd d rfl) hv
theorem Tm {ih:CH} (hG:fZ P tb) (hih:sU P w0 ih) {all:List Oper} {n:Nat} {o:Oper} {k:GS->RS} {s:GS} {out:Lc} {ρ:gH} {a:Act} {w:World} (ho:Gs n o=true) (F:kU ρ n s.σ a) (R:jG w0 ρ s.H w) (h:HQ tb ih all o k s=some out):
  (Region.wanted o (yielded all.toArray a.tmps)=true∧∃g H',k ⟨putD o.dst g s.σ,H'⟩=some out∧BX P w0 ρ s.σ a w o g s.H H')∨
  (Region.wanted o (yielded all.toArray a.tmps)=false∧k ⟨putD o.dst .un s.σ,s.H⟩=some out):=by
 obtain⟨h1,h2,h3⟩:=uO ho
 unfold HQ at h
 cases hg:o.guard with
 |none=>
  rw[hg]at h
  obtain⟨g,H',hk,hs⟩:=MY hG hih F R h3 (show KR tb ih o.op s.σ s.H (FD o.dst s k)=some out from h)
  exact .inl ⟨by simp[Region.wanted,hg],g,H',hk,hs⟩
 | some gd =>
  rw[hg]at h
  obtain⟨oj,hoj,h⟩:=aN.1 (show ob (Ga all gd.1) _=some out from h)
  obtain⟨dj,hdj,h⟩:=aN.1 h
  obtain⟨v,hv,h⟩:=aN.1 h
  obtain⟨g,H',hgv,hkk⟩:=mA h
  have hslot:=F.slot dj v hv
  rw[uY]at hoj
  have hy:yielded all.toArray a.tmps gd.1=(match a.tmps[dj]? with|some (.bool b)=>some b|_=>none):=by
   unfold yielded
   have:(all.toArray[gd.1]?).bind (·.dst)=some dj:=by simp[hoj,hdj]
   rw[this];rfl
  cases v with
  | bool q =>
   have he:=hslot.bool_inv
   have hq:a.tmps[dj]? = some (.bool q):=by
    simp only[Act.eval,Array.getD_eq_getD_getElem?]at he
    cases hx:a.tmps[dj]? with
    |none=>rw[hx]at he;cases he
    |some z=>rw[hx]at he;simp at he;rw[he]
   rw[hq]at hy
   have hgv':Bool.casesOn (motive:=fun _=>OR) (NV q gd.2) (some (.un,s.H)) (KR tb ih o.op s.σ s.H EA)=some (g,H'):=hgv
   rw[ER]at hgv'
   have hw:Region.wanted o (yielded all.toArray a.tmps)=(q==gd.2):=by
    simp only[Region.wanted,hg]
    rw[hy]
    cases q<;>cases gd.2<;>rfl
   cases hqb:(q==gd.2)with
   |true=>
    rw[hqb]at hgv'
    obtain⟨g',H'',hk,hs⟩:=MY hG hih F R h3 (show KR tb ih o.op s.σ s.H EA=some (g,H')from hgv')
    cases hk
    exact .inl ⟨by rw[hw,hqb],g,H',hkk,hs⟩
   |false=>
    rw[hqb]at hgv'
    cases hgv'
    exact .inr ⟨by rw[hw,hqb],hkk⟩
  | un =>
   have he:=hslot.un_inv
   cases hgv
   refine .inr ⟨?_,hkk⟩
   simp only[Region.wanted,hg]
   rw[hy]
   have:(match a.tmps[dj]? with|some (.bool b)=>some b|_=>none)=(none:Option Bool):=by
    simp only[Act.eval,Array.getD_eq_getD_getElem?]at he
    cases hx:a.tmps[dj]? with
    |none=>rfl
    |some z=>rw[hx]at he;simp at he;rw[he];rfl
   rw[this];rfl
  |_=>cases hgv
theorem Fw {ih:CH} (hG:fZ P tb) (hih:sU P w0 ih) {all:List Oper} {n:Nat} {k:GS->RS} {out:Lc} {Q:Exit->Act->World->Prop}:∀(l:List Oper) (s:GS) (ρ:gH) (a:Act) (w:World),l.all (Gs n)=true->kU ρ n s.σ a->jG w0 ρ s.H w->Ev tb ih all k l s=some out->
  (∀s' ρ' a' w',k s'=some out->ρ.le ρ'->kU ρ' n s'.σ a'->jG w0 ρ' s'.H w'->Q .normal a' w')->Sx.wpList P all.toArray Q l a w
 | [],s,ρ,a,w,_,F,R,h,hk=>hk s ρ a w h (gH.le_refl _) F R
 | o :: l, s, ρ, a, w, hl, F, R, h, hk => by
  simp only[List.all_cons,Bool.and_eq_true]at hl
  obtain⟨_,hdst,_⟩:=uO hl.1
  rcases Tm hG hih hl.1 F R (show HQ tb ih all o (Ev tb ih all k l) s=some out from h)with⟨hw,g,H',hk',hs⟩|⟨hw,hk'⟩
  ·refine mO hw ?_
   have fin:∀ρ' w' v,ρ.le ρ'->jG w0 ρ' H' w'->Rl ρ' g v->Sx.wpList P all.toArray Q l (a.put o.dst v) w':=fun ρ' w' v hle R' hv=>
    Fw hG hih l ⟨putD o.dst g s.σ,H'⟩ ρ' _ w' hl.2 ((F.le hle).putD hdst hv) R' hk' (fun s' ρ'' a' w'' h1 h2 h3 h4=>hk s' ρ'' a' w'' h1 (gH.le_trans hle h2) h3 h4)
   rcases hs with⟨_,_,_,rfl,v,hv,hr⟩|⟨_,_,rfl,v,_,_,_,_,_,hv,hr⟩|⟨_,_,rfl,v,hv,hr⟩|⟨_,hr⟩
   ·simp only[Oper.wp,hr w,Oper.upon];exact fin ρ w v (gH.le_refl _) R hv
   ·simp only[Oper.wp,hr w rfl,Oper.upon];exact fin ρ w v (gH.le_refl _) R hv
   ·simp only[Oper.wp,hr,Oper.upon];exact fin ρ w v (gH.le_refl _) R hv
   ·exact If (hr _ fin)
  ·unfold Sx.wpList
   rw[if_neg (by rw[hw];simp)]
   exact Fw hG hih l ⟨putD o.dst .un s.σ,s.H⟩ ρ _ w hl.2 (F.putD hdst .un) R hk' hk
theorem FE {l:List Oper} {p:Op->Bool} (h:Eg l p=true) {i j:Nat} {oi oj:Oper} (hi:l[i]? = some oi) (hj:l[j]? = some oj) (hr:p oi.op=true) (hl:fK oj.op=true):before (pI l) i j=true∨before (pI l) j i=true:=by
 unfold Eg at h
 have h1:=List.all_eq_true.1 h i (List.mem_range.2 (bN hi))
 simp only[hi,hr,Bool.not_true,Bool.false_or]at h1
 have h2:=List.all_eq_true.1 h1 j (List.mem_range.2 (bN hj))
 simp only[hj,hl,Bool.not_true,Bool.false_or,Bool.or_eq_true]at h2
 exact h2
theorem Me {α:Type} {H:GH} {h v:Nat} {k:Option α} {out:α} (x:XE H h v k=some out):H.ver h=some v∧k=some out:=by
 obtain⟨u,hu,x⟩:=aN.1 (show ob (H.ver h) _=some out from x)
 cases hb:Nat.beq u v with
 |false=>rw[hb]at x;cases x
 |true=>rw[hb]at x;rw[hu,Nat.eq_of_beq_eq_true hb];exact⟨rfl,x⟩
theorem Ds {m:List Nat} {i:Nat} {H:GH} {u:Unit}:∀{pr:List (Nat×Option (Nat×Nat))},HL m i H pr=some u->∀p∈pr,before m i p.1=false->∀hv,p.2=some hv->H.ver hv.1=some hv.2
 | [],h=>fun p hp=>by simp at hp
 | p :: pr, h => by
  have h':Bool.casesOn (motive:=fun _=>Option Unit) (before m i p.1) (pck H p.2 (HL m i H pr)) (HL m i H pr)=some u:=h
  intro q hq hbq hv he
  cases hb:before m i p.1 with
  | false =>
   rw[hb]at h'
   have h2:(∀hv,p.2=some hv->H.ver hv.1=some hv.2)∧HL m i H pr=some u:=by
    cases hp2:p.2 with
    |none=>rw[hp2]at h';exact⟨fun _ h=>(by cases h),h'⟩
    |some x=>rw[hp2]at h';obtain⟨h1,h3⟩:=Me (show XE H x.1 x.2 _=some u from h');exact⟨fun y hy=>by cases hy;exact h1,h3⟩
   rcases List.mem_cons.1 hq with rfl|hq
   ·exact h2.1 hv he
   ·exact Ds h2.2 q hq hbq hv he
  |true=>
   rw[hb]at h'
   rcases List.mem_cons.1 hq with rfl|hq
   ·rw[hb]at hbq;cases hbq
   ·exact Ds h' q hq hbq hv he
theorem Dt {m:List Nat} {i h v:Nat} {e:Option (Nat×Nat)}:∀{hs:List (Nat×GH)},HM m i h v hs=some e->e=some (h,v)∧∀q∈hs,before m i q.1=false->q.2.ver h=some v
 | [],x=>by cases x;exact⟨rfl,fun p hp=>by simp at hp⟩
 | q :: hs, x => by
  have x':Bool.casesOn (motive:=fun _=>Option (Option (Nat×Nat))) (before m i q.1) (XE q.2 h v (HM m i h v hs)) (HM m i h v hs)=some e:=x
  cases hb:before m i q.1 with
  |false=>
   rw[hb]at x'
   obtain⟨h1,h2⟩:=Me x'
   obtain⟨h3,h4⟩:=Dt h2
   refine⟨h3,fun p hp hbp=> ?_⟩
   rcases List.mem_cons.1 hp with rfl|hp
   ·exact h1
   ·exact h4 p hp hbp
  |true=>
   rw[hb]at x'
   obtain⟨h3,h4⟩:=Dt x'
   refine⟨h3,fun p hp hbp=> ?_⟩
   rcases List.mem_cons.1 hp with rfl|hp
   ·rw[hb]at hbp;cases hbp
   ·exact h4 p hp hbp
end
end
end Go.Gx
end
