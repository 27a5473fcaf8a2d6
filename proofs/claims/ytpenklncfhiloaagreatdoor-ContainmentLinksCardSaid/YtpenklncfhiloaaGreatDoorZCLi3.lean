/- Models and proofs. Conditions: none. -/
import Derived.Test.YtpenklncfhiloaaGreatDoorZCLi2
import Derived.Lib.Strings
import Derived.Lib.AppendZeros
import Derived.Laws.CopyRow
import Derived.Laws.StructEq
set_option linter.unusedVariables false
set_option linter.unusedSimpArgs false
set_option maxHeartbeats 4000000
set_option maxRecDepth 20000
section
namespace Go.Gx
open Go Go.Sx
section
noncomputable section
inductive GV where
 |int (k:IntKind) (n:Int)
 |bool (b:Bool)
 |str (n len:Nat)
 |ptr (h off:Nat)
 |pnil
 |sl (h off len sz:Nat)
 |snil
 |map (h:Nat)
 |fn (f:FuncId) (first caps:List GV)
 |fnil
 |inil
 |agg (cs:List GV)
 |tup (vs:List GV)
 |un
 |bad
 |opn (h:Nat)
inductive GO where
 |cells (cs:List GV)
 |mp (es:List (GV×GV))
inductive Tr (α:Type) where
 |lf
 |nd (a:Option α) (l r:Tr α)
def ob {b a:Type} (o:Option b) (f:b->Option a):Option a:=Option.casesOn (motive:=fun _=>Option a) o none f
def Tr.get {b:Type} (t:Tr b):Nat->Option b:=Tr.rec (motive:=fun _=>Nat->Option b) (fun _=>none) (fun a _ _ c gr n=>Bool.casesOn (motive:=fun _=>Option b) (Nat.beq n 0) (Bool.casesOn (motive:=fun _=>Option b) (Nat.beq (Nat.mod n 2) 1) (gr (Nat.sub (Nat.div n 2) 1)) (c (Nat.div n 2))) a) t
def AJ {a:Type} (x:Option a) (f:Nat):Nat->Tr a:=Nat.rec (motive:=fun _=>Nat->Tr a) (fun _=> .lf) (fun _ b n=>bif Nat.beq n 0 then .nd x .lf .lf else bif Nat.beq (Nat.mod n 2) 1 then .nd none (b (Nat.div n 2)) .lf else .nd none .lf (b (Nat.sub (Nat.div n 2) 1))) f
def Tr.set {b:Type} (x:Option b) (t:Tr b):Nat->Tr b:=Tr.rec (motive:=fun _=>Nat->Tr b) (fun n=>AJ x (Nat.succ n) n) (fun a l r sl c n=>Bool.casesOn (motive:=fun _=>Tr b) (Nat.beq n 0) (Bool.casesOn (motive:=fun _=>Tr b) (Nat.beq (Nat.mod n 2) 1) (.nd a l (c (Nat.sub (Nat.div n 2) 1))) (.nd a (sl (Nat.div n 2)) r)) (.nd x l r)) t
def DV {a R:Type} (x:Option a) (f:Nat):Nat->(Tr a->R)->R:=Nat.rec (motive:=fun _=>Nat->(Tr a->R)->R) (fun _ k=>k .lf) (fun _ b n k=>Bool.casesOn (motive:=fun _=>R) (Nat.beq n 0) (Bool.casesOn (motive:=fun _=>R) (Nat.beq (Nat.mod n 2) 1) (b (Nat.sub (Nat.div n 2) 1) fun t=>k (.nd none .lf t)) (b (Nat.div n 2) fun t=>k (.nd none t .lf))) (k (.nd x .lf .lf))) f
def Tr.setK {b R:Type} (x:Option b) (t:Tr b):Nat->(Tr b->R)->R:=Tr.rec (motive:=fun _=>Nat->(Tr b->R)->R) (fun n k=>DV x (Nat.succ n) n k) (fun a l r sl c n k=>Bool.casesOn (motive:=fun _=>R) (Nat.beq n 0) (Bool.casesOn (motive:=fun _=>R) (Nat.beq (Nat.mod n 2) 1) (c (Nat.sub (Nat.div n 2) 1) fun t=>k (.nd a l t)) (sl (Nat.div n 2) fun t=>k (.nd a t r))) (k (.nd x l r))) t
def sn {a:Type} (n:Nat) (f:Nat->a):a:=Nat.rec (motive:=fun _=>a) (f 0) (fun m _=>f (Nat.succ m)) n
def fi {b:Type} (z:Int) (f:Int->b):b:=Int.casesOn (motive:=fun _=>b) z (fun a=>sn a fun a=>f (.ofNat a)) (fun a=>sn a fun a=>f (.negSucc a))
def fb (b:Bool):Option GV:=Bool.casesOn (motive:=fun _=>Option GV) b (some (.bool false)) (some (.bool true))
structure GH where
 n:Nat
 t:Tr (Nat×GO)
def GH.get (H:GH) (h:Nat):Option GO:=ob (H.t.get h) fun p=>some p.2
def GH.ver (H:GH) (h:Nat):Option Nat:=ob (H.t.get h) fun p=>some p.1
def GH.set (H:GH) (h:Nat) (o:GO):GH:=⟨Nat.succ H.n,H.t.set (some (H.n,o)) h⟩
def GH.del (H:GH) (h:Nat):GH:=⟨H.n,H.t.set none h⟩
def GH.newK {a:Type} (H:GH) (o:GO) (f:Nat->GH->a):a:=sn H.n fun n=>H.t.setK (some (n,o)) n fun t=>sn (Nat.succ n) fun m=>f n ⟨m,t⟩
def GH.setK {a:Type} (H:GH) (h:Nat) (o:GO) (f:GH->a):a:=sn H.n fun n=>H.t.setK (some (n,o)) h fun t=>sn (Nat.succ n) fun m=>f ⟨m,t⟩
def GH.delK {a:Type} (H:GH) (h:Nat) (f:GH->a):a:=H.t.setK none h fun t=>f ⟨H.n,t⟩
def Xu (o:GO):Option (List GV):=GO.casesOn (motive:=fun _=>Option (List GV)) o (fun cs=>some cs) (fun _=>none)
def GO.asM (o:GO):Option (List (GV×GV)):=GO.casesOn (motive:=fun _=>Option (List (GV×GV))) o (fun _=>none) (fun a=>some a)
def GH.cells (H:GH) (h:Nat):Option (List GV):=ob (H.get h) Xu
abbrev GF:=List (Nat×GV)
def CN (σ:GF) (t:Nat):Option GV:=List.rec (motive:=fun _=>Option GV) none (fun p _ a=>Bool.casesOn (motive:=fun _=>Option GV) (Nat.beq t p.1) a (some p.2)) σ
def YQ (a b:Int):Bool:=Int.casesOn (motive:=fun _=>Bool) a (fun a=>Int.casesOn (motive:=fun _=>Bool) b (fun b=>Nat.blt a b) (fun _=>false)) (fun a=>Int.casesOn (motive:=fun _=>Bool) b (fun _=>true) (fun b=>Nat.blt b a))
def Zq (a b:Int):Bool:=Int.casesOn (motive:=fun _=>Bool) a (fun a=>Int.casesOn (motive:=fun _=>Bool) b (fun b=>Nat.beq a b) (fun _=>false)) (fun a=>Int.casesOn (motive:=fun _=>Bool) b (fun _=>false) (fun b=>Nat.beq a b))
def XG (a:Int):Option Nat:=Int.casesOn (motive:=fun _=>Option Nat) a (fun a=>some a) (fun _=>none)
def Nh (a b:Nat×Nat):Bool:=bif Nat.beq a.2 b.2 then Nat.beq a.1 b.1 else false
def Pg (a b:Bool):Bool:=Bool.casesOn (motive:=fun _=>Bool) a (Bool.casesOn (motive:=fun _=>Bool) b true false) b
def EI {a:Type} (l:List a):Nat->Option a:=List.rec (motive:=fun _=>Nat->Option a) (fun _=>none) (fun x _ b n=>Nat.casesOn (motive:=fun _=>Option a) n (some x) b) l
def Wv {a:Type} (v:a) (l:List a):Nat->Option (List a):=List.rec (motive:=fun _=>Nat->Option (List a)) (fun _=>none) (fun x r b n=>Nat.casesOn (motive:=fun _=>Option (List a)) n (some (v::r)) (fun n=>ob (b n) fun c=>some (x::c))) l
def Ef (vs:List GV):Nat->List GV->Option (List GV):=List.rec (motive:=fun _=>Nat->List GV->Option (List GV)) (fun _ cs=>some cs) (fun v _ b o cs=>ob (Wv v cs o) fun a=>sn (Nat.succ o) fun c=>b c a) vs
def tk {a:Type} (l:List a):Nat->Option (List a):=List.rec (motive:=fun _=>Nat->Option (List a)) (fun n=>Nat.casesOn (motive:=fun _=>Option (List a)) n (some []) (fun _=>none)) (fun x _ b n=>Nat.casesOn (motive:=fun _=>Option (List a)) n (some []) (fun n=>ob (b n) fun r=>some (x::r))) l
def dp {a:Type} (l:List a):Nat->Option (List a):=List.rec (motive:=fun _=>Nat->Option (List a)) (fun n=>Nat.casesOn (motive:=fun _=>Option (List a)) n (some []) (fun _=>none)) (fun x r b n=>Nat.casesOn (motive:=fun _=>Option (List a)) n (some (x::r)) b) l
def ZA {a:Type} (l:List a) (o n:Nat):Option (List a):=ob (dp l o) fun r=>tk r n
def kD (l:List UInt8):Nat:=List.rec (motive:=fun _=>Nat) 0 (fun b _ a=>Nat.add b.toNat (Nat.mul 256 a)) l
def bE (s:ByteArray):List UInt8:=s.data.toList
def GV.asI (v:GV):Option (IntKind×Int):=GV.casesOn (motive_1:=fun _=>Option (IntKind×Int)) v (fun a b=>some (a,b)) (fun _=>none) (fun _ _=>none) (fun _ _=>none) none (fun _ _ _ _=>none) none (fun _=>none) (fun _ _ _=>none) none none (fun _=>none) (fun _=>none) none none (fun _=>none)
def GV.asB (v:GV):Option (Bool):=GV.casesOn (motive_1:=fun _=>Option (Bool)) v (fun _ _=>none) (fun a=>some a) (fun _ _=>none) (fun _ _=>none) none (fun _ _ _ _=>none) none (fun _=>none) (fun _ _ _=>none) none none (fun _=>none) (fun _=>none) none none (fun _=>none)
def GV.asP (v:GV):Option (Nat×Nat):=GV.casesOn (motive_1:=fun _=>Option (Nat×Nat)) v (fun _ _=>none) (fun _=>none) (fun _ _=>none) (fun a b=>some (a,b)) none (fun _ _ _ _=>none) none (fun _=>none) (fun _ _ _=>none) none none (fun _=>none) (fun _=>none) none none (fun _=>none)
def GV.asS (v:GV):Option (Nat×Nat×Nat×Nat):=GV.casesOn (motive_1:=fun _=>Option (Nat×Nat×Nat×Nat)) v (fun _ _=>none) (fun _=>none) (fun _ _=>none) (fun _ _=>none) none (fun a b c d=>some (a,b,c,d)) none (fun _=>none) (fun _ _ _=>none) none none (fun _=>none) (fun _=>none) none none (fun _=>none)
def GV.asF (v:GV):Option (Nat×List GV×List GV):=GV.casesOn (motive_1:=fun _=>Option (Nat×List GV×List GV)) v (fun _ _=>none) (fun _=>none) (fun _ _=>none) (fun _ _=>none) none (fun _ _ _ _=>none) none (fun _=>none) (fun a b c=>some (a,b,c)) none none (fun _=>none) (fun _=>none) none none (fun _=>none)
def GV.asT (v:GV):Option (List GV):=GV.casesOn (motive_1:=fun _=>Option (List GV)) v (fun _ _=>none) (fun _=>none) (fun _ _=>none) (fun _ _=>none) none (fun _ _ _ _=>none) none (fun _=>none) (fun _ _ _=>none) none none (fun _=>none) (fun a=>some a) none none (fun _=>none)
def GV.asStr (v:GV):Option (Nat×Nat):=GV.casesOn (motive_1:=fun _=>Option (Nat×Nat)) v (fun _ _=>none) (fun _=>none) (fun a b=>some (a,b)) (fun _ _=>none) none (fun _ _ _ _=>none) none (fun _=>none) (fun _ _ _=>none) none none (fun _=>none) (fun _=>none) none none (fun _=>none)
def GV.asM (v:GV):Option (Nat):=GV.casesOn (motive_1:=fun _=>Option (Nat)) v (fun _ _=>none) (fun _=>none) (fun _ _=>none) (fun _ _=>none) none (fun _ _ _ _=>none) none (fun a=>some a) (fun _ _ _=>none) none none (fun _=>none) (fun _=>none) none none (fun _=>none)
def GV.asA (v:GV):Option (List GV):=GV.casesOn (motive_1:=fun _=>Option (List GV)) v (fun _ _=>none) (fun _=>none) (fun _ _=>none) (fun _ _=>none) none (fun _ _ _ _=>none) none (fun _=>none) (fun _ _ _=>none) none none (fun a=>some a) (fun _=>none) none none (fun _=>none)
def GV.cells (v:GV):Option (List GV):=GV.casesOn (motive_1:=fun _=>Option (List GV)) v (fun a b=>some [GV.int a b]) (fun a=>some [GV.bool a]) (fun a b=>some [GV.str a b]) (fun a b=>some [GV.ptr a b]) (some [GV.pnil]) (fun a b c d=>some [GV.sl a b c d]) (some [GV.snil]) (fun a=>some [GV.map a]) (fun a b c=>some [GV.fn a b c]) (some [GV.fnil]) (some [GV.inil]) (fun a=>some a) (fun a=>none) (none) (none) (fun a=>none)
def GV.isSnil (v:GV):Bool:=GV.casesOn (motive_1:=fun _=>Bool) v (fun _ _=>false) (fun _=>false) (fun _ _=>false) (fun _ _=>false) (false) (fun _ _ _ _=>false) (true) (fun _=>false) (fun _ _ _=>false) (false) (false) (fun _=>false) (fun _=>false) (false) (false) (fun _=>false)
def GV.isInil (v:GV):Bool:=GV.casesOn (motive_1:=fun _=>Bool) v (fun _ _=>false) (fun _=>false) (fun _ _=>false) (fun _ _=>false) (false) (fun _ _ _ _=>false) (false) (fun _=>false) (fun _ _ _=>false) (false) (true) (fun _=>false) (fun _=>false) (false) (false) (fun _=>false)
def GV.nilck (v:GV):Option GV:=GV.casesOn (motive_1:=fun _=>Option GV) v (fun a b=>none) (fun a=>none) (fun a b=>none) (fun a b=>some (GV.ptr a b)) (none) (fun a b c d=>none) (none) (fun a=>none) (fun a b c=>some (GV.fn a b c)) (none) (none) (fun a=>none) (fun a=>none) (none) (none) (fun a=>none)
def tdE (d:TypeDesc):Bool:=TypeDesc.casesOn (motive:=fun _=>Bool) d false false (fun _=>false) (fun _=>false) (fun _=>false) false false (fun _=>false) (fun _=>false) (fun _ _=>false) (fun _ _=>false) (fun _ _=>false) (fun _=>false) (fun _ _ _=>false) (fun a=>Nat.beq (Array.size a) 0) (fun _=>false) (fun _ _=>false)
def UW (d:TypeDesc):Option TypeId:=TypeDesc.casesOn (motive:=fun _=>Option TypeId) d none none (fun _=>none) (fun _=>none) (fun _=>none) none none (fun _=>none) (fun a=>some a) (fun _ _=>none) (fun _ _=>none) (fun _ _=>none) (fun _=>none) (fun _ _ _=>none) (fun _=>none) (fun _=>none) (fun _ _=>none)
def Zh (d:TypeDesc):Option (Nat×TypeId):=TypeDesc.casesOn (motive:=fun _=>Option (Nat×TypeId)) d none none (fun _=>none) (fun _=>none) (fun _=>none) none none (fun _=>none) (fun _=>none) (fun a b=>some (a,b)) (fun _ _=>none) (fun _ _=>none) (fun _=>none) (fun _ _ _=>none) (fun _=>none) (fun _=>none) (fun _ _=>none)
def tdF (d:TypeDesc):Option (Array Field):=TypeDesc.casesOn (motive:=fun _=>Option (Array Field)) d none none (fun _=>none) (fun _=>none) (fun _=>none) none none (fun _=>none) (fun _=>none) (fun _ _=>none) (fun _ _=>none) (fun _ _=>none) (fun a=>some a) (fun _ _ _=>none) (fun _=>none) (fun _=>none) (fun _ _=>none)
def UV (d:TypeDesc):Option IntKind:=TypeDesc.casesOn (motive:=fun _=>Option IntKind) d none none (fun a=>some a) (fun _=>none) (fun _=>none) none none (fun _=>none) (fun _=>none) (fun _ _=>none) (fun _ _=>none) (fun _ _=>none) (fun _=>none) (fun _ _ _=>none) (fun _=>none) (fun _=>none) (fun _ _=>none)
def F_ (d:TypeDesc):Bool:=TypeDesc.casesOn (motive:=fun _=>Bool) d false false (fun _=>false) (fun _=>false) (fun _=>false) (true) false (fun _=>false) (fun _=>false) (fun _ _=>false) (fun _ _=>false) (fun _ _=>false) (fun _=>false) (fun _ _ _=>false) (fun _=>false) (fun _=>false) (fun _ _=>false)
def tdB (d:TypeDesc):Bool:=TypeDesc.casesOn (motive:=fun _=>Bool) d false (true) (fun _=>false) (fun _=>false) (fun _=>false) false false (fun _=>false) (fun _=>false) (fun _ _=>false) (fun _ _=>false) (fun _ _=>false) (fun _=>false) (fun _ _ _=>false) (fun _=>false) (fun _=>false) (fun _ _=>false)
def tdM (d:TypeDesc):Option (TypeId×TypeId):=TypeDesc.casesOn (motive:=fun _=>Option (TypeId×TypeId)) d none none (fun _=>none) (fun _=>none) (fun _=>none) none none (fun _=>none) (fun _=>none) (fun _ _=>none) (fun a b=>some (a,b)) (fun _ _=>none) (fun _=>none) (fun _ _ _=>none) (fun _=>none) (fun _=>none) (fun _ _=>none)
def Q_:Value->Option GV
 | .int k n=>some (.int k n)
 | .bool b=>some (.bool b)
 | .slice none 0 0=>some .snil
 | .pointer none=>some .pnil
 | .nilFunc=>some .fnil
 | .nilIface=>some .inil
 | .string s=>sn (kD (bE s)) fun n=>sn (bE s).length fun l=>some (.str n l)
 |_=>none
def Wz:dO->Option (List GV)
 | []=>some []
 |v::vs=>ob (Q_ v) fun x=>ob (Wz vs) fun xs=>some (x::xs)
def ofV:Value->Option GV
 | .agg cs=>ob (Wz cs.toList) fun xs=>some (.agg xs)
 |v=>Q_ v
def Fw (s:Sem Value):Option GV:=match s with
 | .pure v=>Q_ v
 |_=>none
def TG (z:Int):Bool:=Int.casesOn (motive:=fun _=>Bool) z (fun a=>Nat.blt a 9223372036854775808) (fun a=>Nat.blt a 9223372036854775808)
def Xg (k:IntKind):Bool:=IntKind.casesOn (motive:=fun _=>Bool) k false false false true false false false false
def gw (k:IntKind) (z:Int):Option GV:=fi z fun z=>bif Xg k then(bif TG z then some (.int k z)else none)else fi (k.wrap z) fun z=>some (.int k z)
def YA (a b:IntKind):Bool:=decide (a=b)
def ZT (c:BinOp) (k:IntKind) (a b:Int):Option GV:=BinOp.casesOn (motive:=fun _=>Option GV) c (gw k (a+b)) (gw k (a - b)) (Fw (binOp .mul 0 (.int k a) (.int k b))) (Fw (binOp .quo 0 (.int k a) (.int k b))) (Fw (binOp .rem 0 (.int k a) (.int k b))) (Fw (binOp .and 0 (.int k a) (.int k b))) (Fw (binOp .or 0 (.int k a) (.int k b))) (Fw (binOp .xor 0 (.int k a) (.int k b))) (Fw (binOp .shl 0 (.int k a) (.int k b))) (Fw (binOp .shr 0 (.int k a) (.int k b))) (Fw (binOp .andNot 0 (.int k a) (.int k b))) (fb (Zq a b)) (fb (!Zq a b)) (fb (YQ a b)) (fb (!YQ b a)) (fb (YQ b a)) (fb (!YQ a b))
def GC (a:BinOp):Bool:=BinOp.casesOn (motive:=fun _=>Bool) a false false false false false false false false true true false false false false false false false
def Yp (a b:Nat×Nat):Option GV:=bif Nat.blt (Nat.add a.2 b.2) 16777216 then sn (Nat.add a.1 (Nat.mul (Nat.pow 2 (Nat.mul 8 a.2)) b.1)) fun n=>sn (Nat.add a.2 b.2) fun l=>some (.str n l)else none
def abd (c:BinOp) (a b:Nat×Nat):Option GV:=BinOp.casesOn (motive:=fun _=>Option GV) c (Yp a b) none none none none none none none none none none (fb (Nh a b)) (fb (!Nh a b)) none none none none
def abc (a:BinOp):Option GV:=BinOp.casesOn (motive:=fun _=>Option GV) a none none none none none none none none none none none (some (.bool true)) (some (.bool false)) none none none none
def Vt (c:BinOp) (a b:Bool):Option GV:=BinOp.casesOn (motive:=fun _=>Option GV) c none none none none none none none none none none none (fb (Pg a b)) (fb (!Pg a b)) none none none none
def i_ (σ:GF) (o:Operand):Option GV:=Operand.casesOn (motive:=fun _=>Option GV) o (fun t=>CN σ t) ofV (fun _=>none) (fun f=>some (.fn f [] []))
def Dt (σ:GF) (l:List Operand):Option (List GV):=List.rec (motive:=fun _=>Option (List GV)) (some []) (fun x _ a=>ob (i_ σ x) fun v=>ob a fun vs=>some (v::vs)) l
def sB (σ:GF) (l:List (Nat×Operand)):Option (List (Nat×GV)):=List.rec (motive:=fun _=>Option (List (Nat×GV))) (some []) (fun p _ a=>ob (i_ σ p.2) fun v=>ob a fun vs=>some ((p.1,v)::vs)) l
abbrev TB:=Nat->Option Ty
def yF (tb:TB) (T:TypeId):Option (TypeId×Ty):=ob (tb T) fun t=>ob (UW t.desc) fun e=>ob (tb e) fun a=>some (e,a)
def KD (tb:TB) (l:List Field):Option (List (Nat×Nat)):=List.rec (motive:=fun _=>Option (List (Nat×Nat))) (some []) (fun f _ a=>ob (tb f.type) fun t=>ob a fun r=>some ((f.offset,t.size)::r)) l
def pJ (tb:TB) (T:TypeId):Option (List Field):=ob (tb T) fun t=>ob (tdF t.desc) fun a=>some a.toList
def Mn (tb:TB) (T:TypeId):Option (List (Nat×Nat)):=ob (pJ tb T) fun a=>KD tb a

abbrev OR:=Option (GV×GH)
def EE (c a b:GV):Option GV:=ob c.asB fun q=>Bool.casesOn (motive:=fun _=>Option GV) q (some b) (some a)
def Wh (v:GV):Option Nat:=bif v.isSnil then some 0 else ob v.asS fun s=>some s.2.2.1
def NY (t:Ty) (a b:GV):Option Bool:=Option.casesOn (motive:=fun _=>Option Bool) a.asI (Option.casesOn (motive:=fun _=>Option Bool) a.asStr (ob a.asB fun x=>ob b.asB fun y=>bif tdB t.desc then some (Pg x y)else none) fun x=>ob b.asStr fun y=>bif F_ t.desc then some (Nh x y)else none) fun x=>ob b.asI fun y=>ob (UV t.desc) fun _=>bif YA x.1 y.1 then some (Zq x.2 y.2)else none
def VZ (tb:TB) (cs c:List GV) (d:List Field):Option Bool:=List.rec (motive:=fun _=>Option Bool) (some true) (fun f _ e=>ob (tb f.type) fun t=>ob (EI cs f.offset) fun a=>ob (EI c f.offset) fun b=>ob (NY t a b) fun q=>bif q then e else some false) d
def CX (t:Ty):Bool:=bif tdB t.desc then true else bif F_ t.desc then true else Option.casesOn (motive:=fun _=>Bool) (UV t.desc) false fun _=>true
def uL (tb:TB) (a:List Field):Bool:=List.rec (motive:=fun _=>Bool) true (fun f _ b=>Option.casesOn (motive:=fun _=>Bool) (tb f.type) false fun t=>bif CX t then b else false) a
def Jb (T:Nat):Bool:=bif Nat.blt 31 T then Nat.blt T 512 else false
def UF (tb:TB) (b:BinOp) (T:TypeId) (v u:GV):Option GV:=Option.casesOn (motive:=fun _=>Option GV) v.asA (bif u.isSnil then ob (Wh v) fun _=>ob (tb T) fun t=>ob (UW t.desc) fun _=>Vt b v.isSnil true else none) fun cs=>ob u.asA fun c=>bif Jb T then ob (pJ tb T) fun a=>bif uL tb a then ob (VZ tb cs c a) fun q=>Vt b q true else none else none
def KQ (tb:TB) (c:BinOp) (T:TypeId) (v u:GV):Option GV:=
 Option.casesOn (motive:=fun _=>Option GV) v.asI
  (Option.casesOn (motive:=fun _=>Option GV) v.asStr (Option.casesOn (motive:=fun _=>Option GV) v.asB (bif v.isInil then(bif u.isInil then ob (tb T) fun t=>bif tdE t.desc then abc c else none else none)else UF tb c T v u) fun a=>ob u.asB fun b=>ob (tb T) fun t=>bif tdB t.desc then Vt c a b else none) fun a=>ob u.asStr fun b=>abd c a b)
  fun a=>ob u.asI fun b=>bif GC c then Fw (binOp c 0 (.int a.1 a.2) (.int b.1 b.2))else bif YA a.1 b.1 then ZT c a.1 a.2 b.2 else none
def WZ (c:UnOp) (v:GV):Option GV:=UnOp.casesOn (motive:=fun _=>Option GV) c (ob v.asI fun a=>gw a.1 (0 - a.2)) none (ob v.asB fun b=>fb (!b)) none
def Xp (tb:TB) (S D:TypeId) (v:GV):Option GV:=ob v.asI fun a=>ob (tb S) fun s=>ob (UV s.desc) fun _=>ob (tb D) fun t=>ob (UV t.desc) fun k=>fi (k.wrap a.2) fun z=>some (.int k z)
def vB (o:Option GV) (d:Nat):Option Nat:=Option.casesOn (motive:=fun _=>Option Nat) o (some d) fun v=>ob v.asI fun a=>XG a.2
def WY (s:Nat×Nat) (l h:Nat):Option GV:=bif Nat.ble l h then(bif Nat.ble h s.2 then sn (Nat.mod (Nat.shiftRight s.1 (Nat.mul 8 l)) (Nat.pow 2 (Nat.mul 8 (Nat.sub h l)))) fun n=>sn (Nat.sub h l) fun k=>some (.str n k)else none)else none
def WW (s:Nat×Nat×Nat×Nat) (a l h:Nat):Option GV:=bif Nat.beq a s.2.2.2 then(bif Nat.ble l h then(bif Nat.ble h s.2.2.1 then sn (Nat.add s.2.1 (Nat.mul l a)) fun o=>sn (Nat.sub h l) fun k=>some (.sl s.1 o k a)else none)else none)else none
def WX (p:Nat×Nat) (n a l h:Nat):Option GV:=bif Nat.ble l h then(bif Nat.ble h n then(bif Nat.beq a 0 then none else sn (Nat.add p.2 (Nat.mul l a)) fun o=>sn (Nat.sub h l) fun k=>some (.sl p.1 o k a))else none)else none
def DI (tb:TB) (T:TypeId) (v:GV) (c b:Option GV) (H:GH):Option GV:=ob (vB c 0) fun l=>ob (tb T) fun t=>
 Option.casesOn (motive:=fun _=>Option GV) v.asStr
  (Option.casesOn (motive:=fun _=>Option GV) v.asS
   (Bool.casesOn (motive:=fun _=>Option GV) v.isSnil (ob v.asP fun p=>ob (Zh t.desc) fun e=>ob (tb e.2) fun a=>ob (vB b e.1) fun h=>ob (H.cells p.1) fun cs=>bif Nat.ble (Nat.add p.2 (Nat.mul e.1 a.size)) cs.length then WX p e.1 a.size l h else none) (ob (UW t.desc) fun e=>ob (tb e) fun a=>ob (vB b 0) fun h=>bif Nat.beq l 0 then(bif Nat.beq h 0 then some .snil else none)else none))
   fun s=>ob (UW t.desc) fun e=>ob (tb e) fun a=>ob (vB b s.2.2.1) fun h=>WW s a.size l h)
  fun s=>ob (vB b s.2) fun h=>bif F_ t.desc then WY s l h else none
def DG (tb:TB) (T:TypeId) (f:Nat) (v:GV):Option GV:=ob v.asP fun p=>ob (pJ tb T) fun a=>ob (EI a f) fun q=>ob (tb q.type) fun b=>bif Nat.beq b.size 0 then none else sn (Nat.add p.2 q.offset) fun o=>some (.ptr p.1 o)
def zI (t:Ty) (cs:List GV) (o:Nat):Option GV:=bif uA t.desc then ob (ZA cs o t.size) fun r=>some (.agg r)else EI cs o
def Xs (tb:TB) (T:TypeId) (f:Nat) (v:GV):Option GV:=ob v.asA fun cs=>ob (pJ tb T) fun a=>ob (EI a f) fun q=>ob (tb q.type) fun b=>zI b cs q.offset
def WV (tb:TB) (T:TypeId) (s:Nat×Nat×Nat×Nat) (i:Nat):Option GV:=ob (yF tb T) fun a=>bif Nat.blt i s.2.2.1 then sn (Nat.add s.2.1 (Nat.mul i a.2.size)) fun o=>some (.ptr s.1 o)else none
def WU (tb:TB) (T:TypeId) (p:Nat×Nat) (i:Nat):Option GV:=ob (tb T) fun t=>ob (Zh t.desc) fun e=>ob (tb e.2) fun a=>bif Nat.blt i e.1 then sn (Nat.add p.2 (Nat.mul i a.size)) fun o=>some (.ptr p.1 o)else none
def Ir (tb:TB) (T:TypeId) (v w:GV):Option GV:=ob w.asI fun n=>ob (XG n.2) fun n=>Option.casesOn (motive:=fun _=>Option GV) v.asP (ob v.asS fun s=>WV tb T s n) fun p=>WU tb T p n
def vAt (tb:TB) (T:TypeId) (v w:GV):Option GV:=ob v.asStr fun s=>ob w.asI fun n=>ob (XG n.2) fun n=>ob (tb T) fun t=>bif F_ t.desc then(bif Nat.blt n s.2 then sn (Nat.mod (Nat.shiftRight s.1 (Nat.mul 8 n)) 256) fun b=>some (.int .u8 (.ofNat b))else none)else none
def Zl (i:Nat) (v:GV):Option GV:=ob v.asT fun vs=>EI vs i
def NP (ps:List (Nat×Nat)) (l:List (Nat×GV)):List GV->Option (List GV):=List.rec (motive:=fun _=>List GV->Option (List GV)) (fun cs=>some cs) (fun p _ a cs=>ob (EI ps p.1) fun q=>ob p.2.cells fun cc=>bif Nat.beq cc.length q.2 then(bif Nat.beq q.2 0 then none else ob (Ef cc q.1 cs) a)else none) l
def Fe (a:Nat) (l:List (Nat×GV)):List GV->Option (List GV):=List.rec (motive:=fun _=>List GV->Option (List GV)) (fun cs=>some cs) (fun p _ b cs=>ob p.2.cells fun cc=>bif Nat.beq cc.length a then(bif Nat.beq a 0 then none else ob (Ef cc (Nat.mul p.1 a) cs) b)else none) l
def Ac (tb:TB) (T:TypeId):Option (List GV):=ob (tb T) fun t=>ob (ofV t.zero) fun z=>z.cells
def UH (tb:TB) (T:TypeId) (vs:List (Nat×GV)):Option GV:=ob (tb T) fun t=>ob (Ac tb T) fun a=>Option.casesOn (motive:=fun _=>Option GV) (tdF t.desc) (ob (Zh t.desc) fun e=>ob (tb e.2) fun c=>ob (Fe c.size vs a) fun cs=>some (.agg cs)) fun _=>ob (Mn tb T) fun b=>ob (NP b vs a) fun cs=>some (.agg cs)
def UJ (tb:TB) (T:TypeId) (v:GV):Option GV:=ob (tb T) fun t=>Option.casesOn (motive:=fun _=>Option GV) v.asStr (ob (UW t.desc) fun _=>ob (Wh v) fun n=>some (.int .i64 (.ofNat n))) fun s=>bif F_ t.desc then some (.int .i64 (.ofNat s.2))else none
def aaJ (tb:TB) (T:TypeId) (v:GV):Option GV:=ob (tb T) fun t=>ob (UW t.desc) fun _=>bif v.isSnil then some (.int .i64 (.ofNat 0))else none
def UM (v u:GV):Option GV:=ob v.asI fun a=>ob u.asI fun b=>bif YA a.1 b.1 then(bif YQ a.2 b.2 then some u else some v)else none
def UN (v u:GV):Option GV:=ob v.asI fun a=>ob u.asI fun b=>bif YA a.1 b.1 then(bif YQ b.2 a.2 then some u else some v)else none

def vA (tb:TB) (T:TypeId) (v:GV) (H:GH):Option GV:=ob v.asP fun p=>ob (H.cells p.1) fun cs=>ob (tb T) fun t=>zI t cs p.2
def sE (tb:TB) (T:TypeId) (v u:GV) (H:GH):OR:=ob v.asP fun p=>ob (H.cells p.1) fun cs=>ob (tb T) fun t=>ob u.cells fun b=>bif Nat.beq b.length t.size then bif Nat.beq t.size 0 then none else ob (Ef b p.2 cs) fun a=>H.setK p.1 (.cells a) fun H'=>some (.un,H')else none
def Ox (v:GV) (H:GH):OR:=ob v.cells fun a=>H.newK (.cells a) fun h H'=>some (.ptr h 0,H')
def u_ (tb:TB) (T:TypeId) (H:GH):OR:=ob (Ac tb T) fun a=>H.newK (.cells a) fun h H'=>some (.ptr h 0,H')
def Ni (z:List GV) (n:Nat):List GV:=Nat.rec (motive:=fun _=>List GV) [] (fun _ a=>z++a) n
def fc {R:Type} (a:List GV):(List GV->R)->R:=List.rec (motive:=fun _=>(List GV->R)->R) (fun k=>k []) (fun x _ b k=>b fun r=>k (x::r)) a
def CG (tb:TB) (T:TypeId) (n:Nat) (vs:List (Nat×GV)) (H:GH):OR:=ob (yF tb T) fun a=>ob (Ac tb a.1) fun b=>bif Nat.beq b.length a.2.size then(bif Nat.blt (Nat.mul n a.2.size) 16777216 then(bif Nat.beq a.2.size 0 then none else ob (Fe a.2.size vs (Ni b n)) fun cs=>H.newK (.cells cs) fun h H'=>some (.sl h 0 n a.2.size,H'))else none)else none
def PZ (tb:TB) (T:TypeId) (v u:GV) (H:GH):OR:=ob (yF tb T) fun a=>ob (Ac tb a.1) fun b=>ob v.asI fun k=>ob u.asI fun c=>bif Zq k.2 c.2 then ob (XG k.2) fun k=>(bif Nat.beq b.length a.2.size then(bif Nat.blt (Nat.mul k a.2.bytes) 16777216 then(bif Nat.blt k 16777216 then(bif Nat.beq a.2.size 0 then none else fc (Ni b k) fun l=>H.newK (.cells l) fun h H'=>some (.sl h 0 k a.2.size,H'))else none)else none)else none)else none
def lap {R:Type} (a b:List GV):(List GV->R)->R:=List.rec (motive:=fun _=>(List GV->R)->R) (fun k=>k b) (fun x _ c k=>c fun r=>k (x::r)) a
def rF (H:GH) (a:Nat) (v:GV):Option (Nat×List GV):=bif v.isSnil then some (0,[])else ob v.asS fun s=>bif Nat.beq s.2.2.2 a then ob (H.cells s.1) fun cs=>ob (ZA cs s.2.1 (Nat.mul s.2.2.1 a)) fun r=>some (s.2.2.1,r)else none
def NK (H:GH) (v:GV):GH:=Option.casesOn (motive:=fun _=>GH) v.asS H fun s=>H.del s.1
def Te (H:GH) (v:GV) (f:GH->OR):OR:=Option.casesOn (motive:=fun _=>OR) v.asS (f H) fun s=>H.delK s.1 f
def UC (tb:TB) (T T':TypeId) (v u:GV) (H:GH):OR:=bif v.isSnil then ob (yF tb T) fun a=>ob (tb T') fun c=>ob (UV c.desc) fun _=>ob (Ac tb a.1) fun b=>ob u.asI fun k=>ob (XG k.2) fun n=>bif Nat.beq b.length a.2.size then(bif Nat.blt (Nat.mul n (Nat.add a.2.bytes 1)) 16777216 then(bif Nat.beq a.2.size 0 then none else(bif Nat.beq n 0 then none else fc (Ni b n) fun l=>H.newK (.cells l) fun h H'=>some (.sl h 0 n a.2.size,H')))else none)else none else none
def UB (tb:TB) (T T':TypeId) (v u:GV) (H:GH):OR:=bif Nat.beq T T' then ob (yF tb T) fun a=>bif Nat.beq a.2.size 0 then none else ob (Ac tb a.1) fun c=>bif Nat.beq c.length a.2.size then ob (rF H a.2.size v) fun p=>ob (rF H a.2.size u) fun q=>Nat.casesOn (motive:=fun _=>OR) q.1 (some (v,H)) (fun _=>sn (Nat.add p.1 q.1) fun n=>bif Nat.blt (Nat.mul n (Nat.add a.2.bytes 1)) 16777216 then lap p.2 q.2 fun l=>Te H v fun b=>b.newK (.cells l) fun h H'=>some (.sl h 0 n a.2.size,H')else none)else none else UC tb T T' v u H
def Xq (tb:TB) (T:TypeId) (v u:GV) (H:GH):OR:=ob v.asS fun s=>ob u.asS fun r=>ob (yF tb T) fun b=>bif Nat.beq s.2.2.2 b.2.size then(bif Nat.beq r.2.2.2 b.2.size then(bif Nat.beq r.2.2.1 s.2.2.1 then ob (H.cells r.1) fun cs=>ob (ZA cs r.2.1 (Nat.mul r.2.2.1 b.2.size)) fun xs=>ob (H.cells s.1) fun c=>List.casesOn (motive:=fun _=>OR) xs none (fun _ _=>ob (Ef xs s.2.1 c) fun a=>H.setK s.1 (.cells a) fun H'=>some (.int .i64 (.ofNat r.2.2.1),H'))else none)else none)else none
def AA (H:GH):OR:=H.newK (.mp []) fun h H'=>some (.map h,H')
def Pt (a b:GV):Option Bool:=Option.casesOn (motive:=fun _=>Option Bool) a.asI (ob a.asStr fun x=>ob b.asStr fun y=>some (Nh x y)) fun x=>ob b.asI fun y=>bif YA x.1 y.1 then some (Zq x.2 y.2)else none
def Me (k:GV) (a:List (GV×GV)):Option (Option GV):=List.rec (motive:=fun _=>Option (Option GV)) (some none) (fun e _ c=>ob (Pt k e.1) fun b=>bif b then some (some e.2)else c) a
def HM (t:Ty) (k:GV):Bool:=Option.casesOn (motive:=fun _=>Bool) k.asI (Option.casesOn (motive:=fun _=>Bool) k.asStr false (fun _=>F_ t.desc)) (fun x=>Option.casesOn (motive:=fun _=>Bool) (UV t.desc) false (fun _=>true))
def TP (tb:TB) (T:TypeId):Option (Ty×Ty):=ob (tb T) fun t=>ob (tdM t.desc) fun a=>ob (tb a.1) fun b=>ob (tb a.2) fun c=>some (b,c)
def PY (tb:TB) (T:TypeId) (a:Bool) (v k:GV) (H:GH):Option GV:=ob v.asM fun h=>ob (H.get h) fun o=>ob o.asM fun b=>ob (TP tb T) fun t=>bif HM t.1 k then ob (Me k b) fun r=>ob (ofV t.2.zero) fun z=>Option.casesOn (motive:=fun _=>Option GV) r (bif a then some (.tup [z,.bool false])else some z) (fun g=>bif a then some (.tup [g,.bool true])else some g)else none
def KR (tb:TB) (T:TypeId) (v k u:GV) (H:GH):OR:=ob v.asM fun h=>ob (H.get h) fun o=>ob o.asM fun a=>ob (TP tb T) fun t=>bif HM t.1 k then ob (Me k a) fun r=>Option.casesOn (motive:=fun _=>OR) r (H.setK h (.mp (a++[(k,u)])) fun H'=>some (.un,H')) (fun _=>none)else none

section
variable {R:Type}
abbrev KT (R:Type):=GF->GH->(GV->GH->Option R)->Option R
def k1 (x:Operand) (f:GV->Option GV):KT R:=fun σ H k=>ob (some x) fun x=>ob (i_ σ x) fun v=>ob (f v) fun g=>k g H
def k2 (x y:Operand) (f:GV->GV->Option GV):KT R:=fun σ H k=>ob (some x) fun x=>ob (i_ σ x) fun v=>ob (i_ σ y) fun u=>ob (f v u) fun g=>k g H
def k3 (x y z:Operand) (f:GV->GV->GV->Option GV):KT R:=fun σ H k=>ob (some x) fun x=>ob (i_ σ x) fun v=>ob (i_ σ y) fun u=>ob (i_ σ z) fun t=>ob (f v u t) fun g=>k g H
def FS (x:Operand):KT R:=fun σ H k=>ob (some x) fun x=>ob (i_ σ x) fun v=>k v H
def kFn (fn:Fn) (first a:Array Operand):KT R:=match fn with
 | .func f=>fun σ H k=>ob (Dt σ first.toList) fun us=>ob (Dt σ a.toList) fun vs=>k (.fn f us vs) H
 |_=>fun _ _ _=>none
def Fc (σ:GF) (o:Option Operand):Option (Option GV):=Option.casesOn (motive:=fun _=>Option (Option GV)) o (some none) fun x=>ob (i_ σ x) fun v=>some (some v)
def YM (tb:TB) (T:TypeId) (x:Operand) (b a c:Option Operand):KT R:=Option.casesOn (motive:=fun _=>KT R) c (fun σ H k=>ob (some x) fun x=>ob (i_ σ x) fun v=>ob (Fc σ b) fun l=>ob (Fc σ a) fun h=>ob (DI tb T v l h H) fun g=>k g H) (fun _ _ _ _=>none)
def YL (tb:TB) (T:TypeId) (ps:List (Nat×Operand)):KT R:=fun σ H k=>ob (sB σ ps) fun vs=>ob (UH tb T vs) fun g=>k g H
def kS (r:OR) (k:GV->GH->Option R):Option R:=ob r fun p=>Prod.casesOn (motive:=fun _=>Option R) p fun g h=>k g h
def Pq (tb:TB) (T:TypeId) (x:Operand):KT R:=fun σ H k=>ob (some x) fun x=>ob (i_ σ x) fun v=>ob (vA tb T v H) fun g=>k g H
def Kp (tb:TB) (T:TypeId) (x y:Operand):KT R:=fun σ H k=>ob (some x) fun x=>ob (i_ σ x) fun v=>ob (i_ σ y) fun u=>kS (sE tb T v u H) k
def Wo (x:Operand):KT R:=fun σ H k=>ob (some x) fun x=>ob (i_ σ x) fun v=>kS (Ox v H) k
def YK (tb:TB) (T:TypeId):KT R:=fun σ H k=>kS (u_ tb T H) k
def Wq (tb:TB) (T:TypeId) (n:Nat) (ps:List (Nat×Operand)):KT R:=fun σ H k=>ob (sB σ ps) fun vs=>kS (CG tb T n vs H) k
def Ps (tb:TB) (T:TypeId) (x y:Operand):KT R:=fun σ H k=>ob (some x) fun x=>ob (i_ σ x) fun v=>ob (i_ σ y) fun u=>kS (PZ tb T v u H) k
def TK (r:Option Operand):KT R:=Option.casesOn (motive:=fun _=>KT R) r (fun σ H k=>kS (AA H) k) (fun _ _ _ _=>none)
def Pr (tb:TB) (T:TypeId) (x y:Operand) (a:Bool):KT R:=fun σ H k=>ob (some x) fun x=>ob (i_ σ x) fun v=>ob (i_ σ y) fun u=>ob (PY tb T a v u H) fun g=>k g H
def Ko (tb:TB) (T:TypeId) (x y z:Operand):KT R:=fun σ H k=>ob (some x) fun x=>ob (i_ σ x) fun v=>ob (i_ σ y) fun u=>ob (i_ σ z) fun t=>kS (KR tb T v u t H) k
def HL (xs:List Operand) (f:Operand->KT R):KT R:=List.casesOn (motive:=fun _=>KT R) xs (fun _ _ _=>none) fun x r=>List.casesOn (motive:=fun _=>KT R) r (f x) (fun _ _ _ _ _=>none)
def BM (xs:List Operand) (f:Operand->Operand->KT R):KT R:=List.casesOn (motive:=fun _=>KT R) xs (fun _ _ _=>none) fun x r=>List.casesOn (motive:=fun _=>KT R) r (fun _ _ _=>none) fun y r=>List.casesOn (motive:=fun _=>KT R) r (f x y) (fun _ _ _ _ _=>none)
def TI (tb:TB) (a:List TypeId) (x y:Operand):KT R:=fun σ H k=>ob (EI a 0) fun T=>ob (EI a 1) fun T'=>ob (i_ σ x) fun v=>ob (i_ σ y) fun u=>kS (UB tb T T' v u H) k
def LZ (tb:TB) (a:List TypeId) (x y:Operand):KT R:=fun σ H k=>ob (EI a 0) fun T=>ob (i_ σ x) fun v=>ob (i_ σ y) fun u=>kS (Xq tb T v u H) k
def QS (tb:TB) (a:List TypeId) (x:Operand):KT R:=fun σ H k=>ob (EI a 0) fun T=>ob (i_ σ x) fun v=>ob (aaJ tb T v) fun g=>k g H
def QT (tb:TB) (a:List TypeId) (x:Operand):KT R:=fun σ H k=>ob (EI a 0) fun T=>ob (i_ σ x) fun v=>ob (UJ tb T v) fun g=>k g H
def NW (tb:TB) (xs:Array Operand) (a:Array TypeId):Builtin->KT R
 | .len=>HL xs.toList (QT tb a.toList)
 | .max=>BM xs.toList fun x y=>k2 x y UM
 | .min=>BM xs.toList fun x y=>k2 x y UN
 | .append=>BM xs.toList (TI tb a.toList)
 | .copy=>BM xs.toList (LZ tb a.toList)
 | .cap=>HL xs.toList (QS tb a.toList)
 |_=>fun _ _ _=>none
abbrev CH:=Nat->List GV->GH->OR
def TJ (a:CH) (xs:Array Operand) (f:Operand):KT R:=fun σ H k=>ob (i_ σ f) fun v=>ob v.asF fun g=>ob (Dt σ xs.toList) fun us=>kS (a g.1 (g.2.1++us++g.2.2) H) k
def aap (tb:TB) (a:CH) (c:Call):KT R:=Callee.casesOn (motive:=fun _=>KT R) c.callee (TJ a c.args) (fun _ _ _ _ _=>none) (NW tb c.args c.argTypes)
end
def KU {R:Type} (tb:TB) (f:CH) (o:Op):KT R:=Op.casesOn (motive:=fun _=>KT R) o (fun a=>FS a) (fun a=>FS a) (fun a b c=>k3 a b c EE) (fun a=>YK tb a) (fun _ b=>Wo b) (fun a b=>YL tb a b.toList) (fun a b c=>Wq tb a b c.toList) (fun _ _ _ _=>fun _ _ _=>none) (fun a b=>Pq tb a b) (fun a b c=>Kp tb a b c) (fun _=>fun _ _ _=>none) (fun _=>fun _ _ _=>none) (fun a=>k1 a GV.nilck) (fun a b c d _=>k2 c d (KQ tb a b)) (fun a _ c=>k1 c (WZ a)) (fun a b c=>k1 c (Xp tb a b)) (fun _ _=>fun _ _ _=>none) (fun _ _=>fun _ _ _=>none) (fun a b c=>kFn a b c) (fun _ b=>TK b) (fun _ _=>fun _ _ _=>none) (fun a b c=>Ps tb a b c) (fun a b c d e=>YM tb a b c d e) (fun a b c=>k1 b (DG tb a c)) (fun a b c=>k1 b (Xs tb a c)) (fun a b c=>k2 b c (Ir tb a)) (fun a b c=>k2 b c (vAt tb a)) (fun a b c d=>Pr tb a b c d) (fun a b c d=>Ko tb a b c d) (fun _ _ _=>fun _ _ _=>none) (fun _ _ _ _=>fun _ _ _=>none) (fun _ _=>fun _ _ _=>none) (fun _ _=>fun _ _ _=>none) (fun _=>fun _ _ _=>none) (fun _ _ _ _=>fun _ _ _=>none) (fun a b=>k1 a (Zl b)) (fun a=>aap tb f a) (fun _=>fun _ _ _=>none) (fun _=>fun _ _ _=>none) (fun _=>fun _ _ _=>none) (fun _ _=>fun _ _ _=>none) (fun _ _ _=>fun _ _ _=>none) (fun _ _=>fun _ _ _=>none)

def aaH (x:Operand):Nat:=Operand.casesOn (motive:=fun _=>Nat) x (fun t=>Nat.shiftLeft 1 t) (fun _=>0) (fun _=>0) (fun _=>0)
def aaG (all:List Oper) (o:Oper):Nat:=Nat.lor (o.op.operands.toList.foldl (fun m x=>Nat.lor m (aaH x)) 0) (match o.guard with
 |none=>0
 |some g=>match EI all g.1 with
  |some a=>(match a.dst with|some d=>Nat.shiftLeft 1 d|none=>0)
  |none=>0)
def acW (m:Nat) (d:Option Nat):Nat:=match d with
 |none=>m
 |some d=>bif Nat.testBit m d then Nat.sub m (Nat.shiftLeft 1 d)else m
def Wu (all:List Oper) (l:List Oper) (m:Nat):Nat:=l.foldr (fun o m=>Nat.lor (acW m o.dst) (aaG all o)) m
structure Cx where
 res:List ResultVar
 retm:Nat
 env:List (Nat×Nat)
def zS (e:List (Nat×Nat)) (id:Nat):Nat:=List.rec (motive:=fun _=>Nat) 0 (fun p _ a=>bif Nat.beq p.1 id then p.2 else a) e
def aas (c:Code) (b:Nat):Nat->List (Nat×Nat)->Nat:=Code.rec (motive:=fun _=>Nat->List (Nat×Nat)->Nat)
 (fun m _=>m) (fun _ ops _ m _=>Wu ops.toList ops.toList m) (fun _ _ d a m e=>d (a m e) e) (fun x _ _ d a m e=>Nat.lor (aaH x) (Nat.lor (d m e) (a m e))) (fun id _ a m e=>a m ((id,m)::e))
 (fun _ a _ e=>Nat.lor (a 0 e) (a (a 0 e) e)) (fun _ _ _ _ _ _ _ _=>0) (fun id _ e=>zS e id) (fun _ _ _ _=>0) (fun _ _ _=>0) (fun _ _ _=>0) (fun _ _=>b) (fun _ _ _=>0) c
def live (c:Code) (m:Nat) (a:Cx):Nat:=aas c a.retm m a.env
def aaq (f m:Nat):Nat->List Nat:=Nat.rec (motive:=fun _=>Nat->List Nat) (fun _=>[]) (fun _ a i=>bif Nat.testBit m i then i::a (Nat.succ i)else a (Nat.succ i)) f
def jZ (m:Nat):List Nat:=aaq (Nat.succ (Nat.log2 m)) m 0
def Au (σ:GF) (b:List Nat):List GV:=List.rec (motive:=fun _=>List GV) [] (fun k _ a=>Option.casesOn (motive:=fun _=>GV) (CN σ k) .bad (fun v=>v)::a) b
def iN {R:Type} (c:List Nat):List GV->(GF->Option R)->Option R:=List.rec (motive:=fun _=>List GV->(GF->Option R)->Option R) (fun vs k=>List.casesOn (motive:=fun _=>Option R) vs (k []) fun _ _=>none) (fun a _ b vs k=>List.casesOn (motive:=fun _=>Option R) vs none fun v r=>b r fun σ=>k ((a,v)::σ)) c

inductive Ex where
 |normal
 |exit (id:Nat)
 |ret
inductive XB where
 |fn (f:Nat)
 |loop (b:Code) (cx:Cx)
structure GS where
 σ:GF
 H:GH
structure Lj where
 e:Ex
 vs:List GV
 H:GH
abbrev RS:=Option Lj
abbrev QH0:=List GV->GH->RS
abbrev QH:=Nat->List GV->GH->RS
abbrev IH:=XB->List GV->GH->RS
def Za (tb:TB) (s:GS) (r:ResultVar):Option GV:=ResultVar.casesOn (motive:=fun _=>Option GV) r (fun t=>CN s.σ t) fun a T=>ob (CN s.σ a) fun v=>vA tb T v s.H
def Mw (tb:TB) (s:GS) (l:List ResultVar):Option (List GV):=List.rec (motive:=fun _=>Option (List GV)) (some []) (fun r _ a=>ob (Za tb s r) fun v=>ob a fun vs=>some (v::vs)) l
def GJ (l:List ResultVar):Nat:=List.rec (motive:=fun _=>Nat) 0 (fun r _ b=>Nat.lor (ResultVar.casesOn (motive:=fun _=>Nat) r (fun t=>Nat.shiftLeft 1 t) (fun a _=>Nat.shiftLeft 1 a)) b) l
def Rc (vs:List GV):GV:=List.casesOn (motive:=fun _=>GV) vs (.tup []) (fun v r=>List.casesOn (motive:=fun _=>GV) r v (fun _ _=> .tup vs))
def putD (d:Option Nat) (v:GV) (σ:GF):GF:=Option.casesOn (motive:=fun _=>GF) d σ fun d=>(d,v)::σ
def Eo (a:List Nat) (s:GS):RS:=some ⟨.normal,Au s.σ a,s.H⟩
def Oh (tb:TB) (a:Cx) (s:GS):RS:=ob (Mw tb s a.res) fun vs=>some ⟨.ret,vs,s.H⟩
def Xh (a:List Nat) (k:GS->RS) (r:RS):RS:=ob r fun o=>Ex.casesOn (motive:=fun _=>RS) o.e (iN a o.vs fun σ=>k ⟨σ,o.H⟩) (fun _=>some o) (some o)
def nB (id:Nat) (r:RS):RS:=ob r fun o=>Ex.casesOn (motive:=fun _=>RS) o.e (some o) (fun i=>Bool.casesOn (motive:=fun _=>RS) (Nat.beq i id) (some o) (some ⟨.normal,o.vs,o.H⟩)) (some o)
def Gg (g:GV) (H:GH):OR:=some (g,H)
def opK (d:Option Nat) (s:GS) (k:GS->RS) (g:GV) (H:GH):RS:=k ⟨putD d g s.σ,H⟩
def Zr (tb:TB) (a:CH) (o:Oper) (s:GS) (b:Bool) (v:GV):OR:=GV.casesOn (motive_1:=fun _=>OR) v (fun _ _=>none) (fun q=>Bool.casesOn (motive:=fun _=>OR) (Pg q b) (some (.un,s.H)) (KU tb a o.op s.σ s.H Gg)) (fun _ _=>none) (fun _ _=>none) none (fun _ _ _ _=>none) none (fun _=>none) (fun _ _ _=>none) none none (fun _=>none) (fun _=>none) (some (.un,s.H)) none (fun _=>none)
def HA (tb:TB) (a:CH) (all:List Oper) (o:Oper) (k:GS->RS) (s:GS):RS:=Option.casesOn (motive:=fun _=>RS) o.guard (KU tb a o.op s.σ s.H (opK o.dst s k)) fun g=>ob (EI all g.1) fun c=>ob c.dst fun b=>ob (CN s.σ b) fun v=>kS (Zr tb a o s g.2 v) (opK o.dst s k)
def CW (tb:TB) (b:CH) (all:List Oper) (k:GS->RS) (l:List Oper):GS->RS:=List.rec (motive:=fun _=>GS->RS) k (fun o _ a s=>HA tb b all o a s) l

def kZ:Op->Bool
 | .load .. => true
 |_=>false
def Kn:Op->Bool
 | .lookup .. => true
 |_=>false
def Ws (σ:GF):Op->Option Nat
 | .load _ x=>ob (some x) fun x=>ob (i_ σ x) fun v=>ob v.asP fun p=>some p.1
 |_=>none
def vck {a:Type} (H:GH) (h v:Nat) (k:Option a):Option a:=ob (H.ver h) fun u=>Bool.casesOn (motive:=fun _=>Option a) (Nat.beq u v) none k
def pck (H:GH) (e:Option (Nat×Nat)) (k:Option Unit):Option Unit:=Option.casesOn (motive:=fun _=>Option Unit) e k fun p=>vck H p.1 p.2 k
def Hr (m:List Nat) (i:Nat) (H:GH) (b:List (Nat×Option (Nat×Nat))):Option Unit:=List.rec (motive:=fun _=>Option Unit) (some ()) (fun p _ a=>Bool.casesOn (motive:=fun _=>Option Unit) (before m i p.1) (pck H p.2 a) a) b
def Hs (m:List Nat) (i h v:Nat) (b:List (Nat×GH)):Option (Option (Nat×Nat)):=List.rec (motive:=fun _=>Option (Option (Nat×Nat))) (some (some (h,v))) (fun q _ a=>Bool.casesOn (motive:=fun _=>Option (Option (Nat×Nat))) (before m i q.1) (vck q.2 h v a) a) b
def ldV (m:List Nat) (i:Nat) (a:List (Nat×GH)) (H:GH) (l:Option Nat):Option (Option (Nat×Nat)):=Option.casesOn (motive:=fun _=>Option (Option (Nat×Nat))) l (some none) fun h=>ob (H.ver h) fun v=>Hs m i h v a
abbrev WT:=Nat->List (Nat×Option (Nat×Nat))->List (Nat×GH)->GS->RS
def Tn (tb:TB) (ch:CH) (all:List Oper) (m:List Nat) (o:Oper) (K:WT):WT:=fun i b a s=>
 Bool.casesOn (motive:=fun _=>RS) (dX o.op)
  (Bool.casesOn (motive:=fun _=>RS) (kZ o.op) (HA tb ch all o (K (Nat.succ i) b a) s)
   (HA tb ch all o (fun c=>ob (ldV m i a s.H (Ws s.σ o.op)) fun e=>K (Nat.succ i) ((i,e)::b) a c) s))
  (HA tb ch all o (fun c=>ob (Hr m i c.H b) fun _=>K (Nat.succ i) b ((i,s.H)::a) c) s)
def Zt (tb:TB) (ch:CH) (all:List Oper) (m:List Nat) (k:GS->RS) (l:List Oper):WT:=List.rec (motive:=fun _=>WT) (fun _ _ _ s=>k s) (fun o _ a=>Tn tb ch all m o a) l
def Cy (l:List Oper) (p:Op->Bool):Bool:=(List.range l.length).all fun i=>match l[i]? with
 |none=>true
 |some o=> !p o.op||(List.range l.length).all fun j=>match l[j]? with
  |none=>true
  |some a=> !dX a.op||before (nP l) i j||before (nP l) j i
def Zo (a:Bool) (l:List Oper):Bool:=Bool.casesOn (motive:=fun _=>Bool) a false (!Cy l kZ)
def Js (r:RS):OR:=ob r fun o=>Ex.casesOn (motive:=fun _=>OR) o.e none (fun _=>none) (some (Rc o.vs,o.H))
structure GP where
 tab:TB
 cat:Nat
 ext:Nat->List GV->GH->Option (GV×GH)
 exn:Nat->List GV->Option GV
def vE:GV:= .int .i64 (.ofNat 0)
def aaa (l:CH) (us:List GV) (H:GH):OR:=List.casesOn (motive:=fun _=>OR) us none fun u r=>List.casesOn (motive:=fun _=>OR) r (ob u.asF fun g=>H.newK (.cells [vE]) fun a c=>c.newK (.cells [vE]) fun b d=>ob (l g.1 (g.2.1++g.2.2) d) fun x=>ob (x.2.cells a) fun j=>ob (x.2.cells b) fun k=>
 bif Nat.beq j.length 1 then(bif Nat.beq k.length 1 then x.2.setK a (.cells [vE]) fun e=>e.setK b (.cells [vE]) fun f=>f.delK a fun h=>h.delK b fun i=>some (.tup [vE,vE],i)else none)else none) (fun _ _=>none)
def Z_ (a:IH):CH:=fun f us H=>Js (a (.fn f) us H)
def callQ (G:GP) (q:QH):CH:=fun f us H=>Bool.casesOn (motive:=fun _=>OR) (Nat.beq f G.cat) (Option.casesOn (motive:=fun _=>OR) (G.ext f us H) (Option.casesOn (motive:=fun _=>OR) (G.exn f us) (Js (q f us H)) fun g=>some (g,H)) fun r=>some r) (aaa (fun f us H=>Js (q f us H)) us H)
def BC (G:GP) (a:IH):CH:=callQ G fun f us H=>a (.fn f) us H
abbrev ET:=Nat->Cx->(GS->RS)->GS->RS
abbrev LH:=Code->Cx->QH0
def V_ (tb:TB) (ch:CH) (lp:LH) (c:Code):ET:=Code.rec (motive:=fun _=>ET)
 (fun _ _ k s=>k s)
 (fun _ ops f _ _ k s=>Bool.casesOn (motive:=fun _=>RS) (Zo f ops.toList) (CW tb ch ops.toList k ops.toList s) (Zt tb ch ops.toList (nP ops.toList) k ops.toList 0 [] [] s))
 (fun _ b e d m a k s=>e (live b m a) a (d m a k) s)
 (fun x _ _ e d m a k s=>ob (i_ s.σ x) fun v=>ob v.asB fun q=>Xh (jZ m) k (Bool.casesOn (motive:=fun _=>RS) q (d m a (Eo (jZ m)) s) (e m a (Eo (jZ m)) s)))
 (fun id _ d m a k s=>Xh (jZ m) k (nB id (d m ⟨a.res,a.retm,(id,m)::a.env⟩ (Eo (jZ m)) s)))
 (fun b _ _ a _ s=>lp b a (Au s.σ (jZ (live (.loop b) 0 a))) s.H)
 (fun _ _ _ _ _ _ _ _ _ _=>none)
 (fun id _ a _ s=>some ⟨.exit id,Au s.σ (jZ (zS a.env id)),s.H⟩)
 (fun _ _ _ _ _ _=>none) (fun _ _ _ _ _=>none) (fun _ _ _ _ _=>none)
 (fun _ a _ s=>Oh tb a s)
 (fun _ _ _ _ _=>none) c
def Tl (tb:TB) (ch:CH) (lp:LH) (fn:Func) (us:List GV) (H:GH):RS:=ob fn.body fun a=>iN (List.range (Nat.add fn.params.size fn.nfree)) us fun σ=>V_ tb ch lp a (GJ fn.results.toList) ⟨fn.results.toList,GJ fn.results.toList,[]⟩ (Oh tb ⟨fn.results.toList,GJ fn.results.toList,[]⟩) ⟨σ,H⟩
def Zs (tb:TB) (ch:CH) (lp:LH) (b:Code) (a:Cx) (us:List GV) (H:GH):RS:=iN (jZ (live (.loop b) 0 a)) us fun σ=>ob (V_ tb ch lp b (live (.loop b) 0 a) a (Eo (jZ (live (.loop b) 0 a))) ⟨σ,H⟩) fun o=>Ex.casesOn (motive:=fun _=>RS) o.e (lp b a o.vs o.H) (fun _=>some o) (some o)
abbrev FT:=Nat->Option Func
def step (G:GP) (d:FT) (a:IH) (t:XB):List GV->GH->RS:=XB.casesOn (motive:=fun _=>List GV->GH->RS) t (fun f us H=>ob (d f) fun fn=>Tl G.tab (BC G a) (fun b c=>a (.loop b c)) fn us H) (Zs G.tab (BC G a) fun b c=>a (.loop b c))
def run (G:GP) (a:FT) (fuel:Nat):IH:=Nat.rec (motive:=fun _=>IH) (fun _ _ _=>none) (fun _ b=>step G a b) fuel
def OU (G:GP) (a:FT) (fuel:Nat) (f:FuncId) (args:List GV) (H:GH):OR:=BC G (run G a fuel) f args H
def H0:GH:=⟨0,.lf⟩
end
end
section
section
variable {α β:Type}
theorem aD {o:Option α} {f:α->Option β} {r:β}:ob o f=some r↔∃x,o=some x∧f x=some r:=by
 cases o<;>simp[ob]
theorem bI {b:Bool} {x:Option α} {r:α}:(bif b then x else none)=some r↔b=true∧x=some r:=by
 cases b<;>simp
theorem jL {b:Bool} {x:Option α} {r:α}:(bif b then none else x)=some r↔b=false∧x=some r:=by
 cases b<;>simp
theorem tY (n:Nat) (f:Nat->α):sn n f=f n:=by cases n<;>rfl
theorem Je (z:Int) (f:Int->α):fi z f=f z:=by cases z<;>simp[fi,tY]
theorem sC (l:List α):∀n,EI l n=l[n]?:=by
 induction l with
 |nil=>intro n;rfl
 |cons x l a=>intro n;cases n with
  |zero=>rfl
  |succ n=>exact a n
theorem Ww {v:α}:∀{l a:List α} {n:Nat},Wv v l n=some a->n<l.length∧a=l.set n v:=by
 intro l
 induction l with
 |nil=>intro a n h;cases h
 | cons x l ih => intro a n h; cases n with
  |zero=>cases h;simp
  |succ n=>
   obtain⟨r,b,c⟩:=aD.1 (show ob (Wv v l n) (fun f=>some (x::f))=some a from h)
   obtain⟨d,e⟩:=ih b
   cases c;simp[d,e]
theorem aaF:∀{l r:List α} {n:Nat},tk l n=some r->n<=l.length∧r=l.take n:=by
 intro l
 induction l with
 |nil=>intro r n h;cases n with
  |zero=>cases h;simp
  |succ n=>cases h
 | cons x l ih => intro r n h; cases n with
  |zero=>cases h;simp
  |succ n=>
   obtain⟨q,a,b⟩:=aD.1 (show ob (tk l n) (fun r=>some (x::r))=some r from h)
   obtain⟨c,d⟩:=ih a
   cases b;simp[c,d]
theorem aad:∀{l r:List α} {n:Nat},dp l n=some r->n<=l.length∧r=l.drop n:=by
 intro l
 induction l with
 |nil=>intro r n h;cases n with
  |zero=>cases h;simp
  |succ n=>cases h
 |cons x l a=>intro r n h;cases n with
  |zero=>cases h;simp
  |succ n=>have:=a (show dp l n=some r from h);simpa using this
theorem KE {l r:List α} {o n:Nat} (h:ZA l o n=some r):o+n<=l.length∧r=(l.drop o).take n:=by
 obtain⟨q,a,b⟩:=aD.1 h
 obtain⟨d,rfl⟩:=aad a
 obtain⟨c,rfl⟩:=aaF b
 simp at c
 exact⟨by omega,rfl⟩
def wr (vs:List α) (o:Nat) (cs:List α):List α:=cs.take o++vs++cs.drop (o+vs.length)
end
theorem GB:∀{vs cs a:List GV} {o:Nat},Ef vs o cs=some a->(vs≠[]->o+vs.length<=cs.length)∧a.length=cs.length∧∀i,a[i]? = if o<=i∧i<o+vs.length then vs[i - o]? else cs[i]?:=by
 intro vs
 induction vs with
 |nil=>
  intro cs a o h
  cases h
  refine⟨fun h=>absurd rfl h,rfl,fun i=> ?_⟩
  rw[if_neg (by simp)]
 | cons v vs ih =>
  intro cs a o h
  obtain⟨m,j,c⟩:=aD.1 (show ob (Wv v cs o) (fun a=>sn (Nat.succ o) fun l=>Ef vs l a)=some a from h)
  rw[tY]at c
  obtain⟨k,rfl⟩:=Ww j
  obtain⟨d,f,g⟩:=ih c
  simp only[List.length_set,Nat.succ_eq_add_one]at d f g
  refine⟨fun _=> ?_,f,fun i=> ?_⟩
  ·cases vs with
   |nil=>simp;omega
   |cons y ys=>have:=d (by simp);simp at this ⊢;omega
  rw[g i]
  by_cases e:i=o
  ·subst e
   rw[if_neg (by omega),if_pos (by simp),List.getElem?_set_self k];simp
  ·by_cases b:o+1<=i∧i<o+1+vs.length
   ·rw[if_pos b,if_pos (by simp;omega)]
    have:i - o=(i - (o+1))+1:=by omega
    rw[this,List.getElem?_cons_succ]
   ·rw[if_neg b,if_neg (by simp;omega),List.getElem?_set_ne (Ne.symm e)]
theorem Ls {α:Type} (x:Option α):∀(f n m:Nat),n<f->(AJ x f n).get m=if m=n then x else none:=by
 intro f
 induction f with
 |zero=>intro n m h;omega
 | succ f ih =>
  intro n m h
  show Tr.get (bif Nat.beq n 0 then .nd x .lf .lf else bif Nat.beq (Nat.mod n 2) 1 then .nd none (AJ x f (Nat.div n 2)) .lf else .nd none .lf (AJ x f (Nat.sub (Nat.div n 2) 1))) m=_
  have hg:∀(a:Option α) (l r:Tr α),Tr.get (.nd a l r) m=if m=0 then a else if m%2=1 then l.get (m / 2)else r.get (m / 2 - 1):=fun a l r=>by
   show Bool.casesOn (motive:=fun _=>Option α) (Nat.beq m 0) (Bool.casesOn (motive:=fun _=>Option α) (Nat.beq (Nat.mod m 2) 1) (r.get (Nat.sub (Nat.div m 2) 1)) (l.get (Nat.div m 2))) a=_
   by_cases h0:m=0
   ·subst h0;rfl
   ·rw[if_neg h0,lL h0]
    by_cases h1:m%2=1
    ·rw[if_pos h1]
     have:Nat.beq (Nat.mod m 2) 1=true:=by rw[show Nat.mod m 2=1 from h1];rfl
     rw[this];rfl
    ·rw[if_neg h1]
     have:Nat.beq (Nat.mod m 2) 1=false:=lL h1
     rw[this];rfl
  have hlf:∀k,(Tr.lf:Tr α).get k=none:=fun _=>rfl
  have hd:Nat.div n 2=n / 2:=rfl
  have hs:Nat.sub (Nat.div n 2) 1=n / 2 - 1:=rfl
  by_cases h0:n=0
  ·subst h0
   show Tr.get (.nd x .lf .lf) m=_
   simp only[hg,hlf]
   by_cases hm:m=0<;>simp[hm]
  ·rw[lL h0]
   by_cases h1:n%2=1
   ·have:Nat.beq (Nat.mod n 2) 1=true:=by rw[show Nat.mod n 2=1 from h1];rfl
    simp only[this,cond_true,cond_false,hg,hlf,hd]
    rw[ih _ _ (by omega)]
    by_cases hm:m=0
    ·rw[if_pos hm,if_neg (by omega)]
    ·rw[if_neg hm]
     by_cases h2:m%2=1
     ·rw[if_pos h2];by_cases h3:m=n
      ·subst h3;simp
      ·rw[if_neg h3,if_neg (by omega)]
     ·rw[if_neg h2,if_neg (by intro e;subst e;exact h2 h1)]
   ·have:Nat.beq (Nat.mod n 2) 1=false:=lL h1
    simp only[this,cond_true,cond_false,hg,hlf,hs]
    rw[ih _ _ (by omega)]
    by_cases hm:m=0
    ·rw[if_pos hm,if_neg (by omega)]
    ·rw[if_neg hm]
     by_cases h2:m%2=1
     ·rw[if_pos h2,if_neg (by intro e;subst e;exact h1 h2)]
     ·rw[if_neg h2];by_cases h3:m=n
      ·subst h3;simp
      ·rw[if_neg h3,if_neg (by omega)]
theorem qS {f:Type} (x:Option f):∀(t:Tr f) (n m:Nat),(t.set x n).get m=if m=n then x else t.get m:=by
 intro t
 induction t with
 |lf=>intro n m;exact Ls x _ n m (Nat.lt_succ_self n)
 | nd a l r ihl ihr =>
  intro n m
  have h:∀(a:Option f) (l r:Tr f),Tr.get (.nd a l r) m=if m=0 then a else if m%2=1 then l.get (m / 2)else r.get (m / 2 - 1):=fun a l r=>by
   show Bool.casesOn (motive:=fun _=>Option f) (Nat.beq m 0) (Bool.casesOn (motive:=fun _=>Option f) (Nat.beq (Nat.mod m 2) 1) (r.get (Nat.sub (Nat.div m 2) 1)) (l.get (Nat.div m 2))) a=_
   by_cases g:m=0
   ·subst g;rfl
   ·rw[if_neg g,lL g]
    by_cases d:m%2=1
    ·rw[if_pos d]
     have:Nat.beq (Nat.mod m 2) 1=true:=by rw[show Nat.mod m 2=1 from d];rfl
     rw[this];rfl
    ·rw[if_neg d]
     have:Nat.beq (Nat.mod m 2) 1=false:=lL d
     rw[this];rfl
  show Tr.get (Bool.casesOn (motive:=fun _=>Tr f) (Nat.beq n 0) (Bool.casesOn (motive:=fun _=>Tr f) (Nat.beq (Nat.mod n 2) 1) (.nd a l (r.set x (Nat.sub (Nat.div n 2) 1))) (.nd a (l.set x (Nat.div n 2)) r)) (.nd x l r)) m=_
  have j:Nat.div n 2=n / 2:=rfl
  have k:Nat.sub (Nat.div n 2) 1=n / 2 - 1:=rfl
  by_cases g:n=0
  ·subst g
   show Tr.get (.nd x l r) m=_
   rw[h,h];by_cases c:m=0<;>simp[c]
  ·rw[lL g]
   by_cases d:n%2=1
   ·have:Nat.beq (Nat.mod n 2) 1=true:=by rw[show Nat.mod n 2=1 from d];rfl
    rw[this]
    show Tr.get (.nd a (l.set x (Nat.div n 2)) r) m=_
    rw[h,h,ihl,j]
    by_cases c:m=0
    ·rw[if_pos c,if_pos c,if_neg (by omega)]
    ·rw[if_neg c,if_neg c]
     by_cases b:m%2=1
     ·rw[if_pos b,if_pos b];by_cases i:m=n
      ·subst i;simp
      ·rw[if_neg i,if_neg (by omega)]
     ·rw[if_neg b,if_neg b,if_neg (by intro e;subst e;exact b d)]
   ·have:Nat.beq (Nat.mod n 2) 1=false:=lL d
    rw[this]
    show Tr.get (.nd a l (r.set x (Nat.sub (Nat.div n 2) 1))) m=_
    rw[h,h,ihr,k]
    by_cases c:m=0
    ·rw[if_pos c,if_pos c,if_neg (by omega)]
    ·rw[if_neg c,if_neg c]
     by_cases b:m%2=1
     ·rw[if_pos b,if_pos b,if_neg (by intro e;subst e;exact d b)]
     ·rw[if_neg b,if_neg b];by_cases i:m=n
      ·subst i;simp
      ·rw[if_neg i,if_neg (by omega)]
theorem qN (H:GH) (h:Nat) (o:GO) (k:Nat):(H.set h o).get k=if k=h then some o else H.get k:=by
 unfold GH.get GH.set
 rw[qS]
 by_cases e:k=h<;>simp[e,ob]
theorem Nm (H:GH) (h:Nat) (o:GO) (k:Nat):(H.set h o).ver k=if k=h then some H.n else H.ver k:=by
 unfold GH.ver GH.set
 rw[qS]
 by_cases e:k=h<;>simp[e,ob]
theorem Dj (H:GH) (h k:Nat):(H.del h).get k=if k=h then none else H.get k:=by
 unfold GH.get GH.del
 rw[qS]
 by_cases e:k=h<;>simp[e,ob]
theorem Nk (H:GH) (h k:Nat):(H.del h).ver k=if k=h then none else H.ver k:=by
 unfold GH.ver GH.del
 rw[qS]
 by_cases e:k=h<;>simp[e,ob]
noncomputable def GH.new (H:GH) (o:GO):GH:=⟨H.n+1,H.t.set (some (H.n,o)) H.n⟩
theorem pA (H:GH) (o:GO) (k:Nat):(H.new o).get k=if k=H.n then some o else H.get k:=by
 unfold GH.get GH.new
 rw[qS]
 by_cases e:k=H.n<;>simp[e,ob]
theorem Nl (H:GH) (o:GO) (k:Nat):(H.new o).ver k=if k=H.n then some H.n else H.ver k:=by
 unfold GH.ver GH.new
 rw[qS]
 by_cases e:k=H.n<;>simp[e,ob]
theorem Lt {α R:Type} (x:Option α):∀(f n:Nat) (k:Tr α->R),DV x f n k=k (AJ x f n):=by
 intro f
 induction f with
 |zero=>intro n k;rfl
 |succ f ih=>
  intro n k
  show Bool.casesOn (motive:=fun _=>R) (Nat.beq n 0) (Bool.casesOn (motive:=fun _=>R) (Nat.beq (Nat.mod n 2) 1) (DV x f (Nat.sub (Nat.div n 2) 1) fun t=>k (.nd none .lf t)) (DV x f (Nat.div n 2) fun t=>k (.nd none t .lf))) (k (.nd x .lf .lf))=k (bif Nat.beq n 0 then .nd x .lf .lf else bif Nat.beq (Nat.mod n 2) 1 then .nd none (AJ x f (Nat.div n 2)) .lf else .nd none .lf (AJ x f (Nat.sub (Nat.div n 2) 1)))
  rw[ih,ih]
  cases Nat.beq n 0<;>cases Nat.beq (Nat.mod n 2) 1<;>rfl
theorem AI {α R:Type} (x:Option α):∀(t:Tr α) (n:Nat) (k:Tr α->R),t.setK x n k=k (t.set x n):=by
 intro t
 induction t with
 |lf=>intro n k;exact Lt x (Nat.succ n) n k
 |nd a l r ihl ihr=>
  intro n k
  show Bool.casesOn (motive:=fun _=>R) (Nat.beq n 0) (Bool.casesOn (motive:=fun _=>R) (Nat.beq (Nat.mod n 2) 1) (r.setK x (Nat.sub (Nat.div n 2) 1) fun t=>k (.nd a l t)) (l.setK x (Nat.div n 2) fun t=>k (.nd a t r))) (k (.nd x l r))=k (Bool.casesOn (motive:=fun _=>Tr α) (Nat.beq n 0) (Bool.casesOn (motive:=fun _=>Tr α) (Nat.beq (Nat.mod n 2) 1) (.nd a l (r.set x (Nat.sub (Nat.div n 2) 1))) (.nd a (l.set x (Nat.div n 2)) r)) (.nd x l r))
  rw[ihl,ihr]
  cases Nat.beq n 0<;>cases Nat.beq (Nat.mod n 2) 1<;>rfl
theorem gT {a:Type} (H:GH) (o:GO) (f:Nat->GH->a):H.newK o f=f H.n (H.new o):=by simp only[GH.newK,tY,AI];rfl
theorem vK {a:Type} (H:GH) (h:Nat) (o:GO) (f:GH->a):H.setK h o f=f (H.set h o):=by simp only[GH.setK,tY,AI];rfl
theorem Di {a:Type} (H:GH) (h:Nat) (f:GH->a):H.delK h f=f (H.del h):=by simp only[GH.delK,AI];rfl
theorem YN {R:Type} (a b:List GV):∀k:List GV->R,lap a b k=k (a++b):=by
 induction a with
 |nil=>intro k;rfl
 |cons x a c=>intro k;exact c _
theorem Ph {R:Type} (a:List GV):∀k:List GV->R,fc a k=k a:=by
 induction a with
 |nil=>intro k;rfl
 |cons x a b=>intro k;exact b _
theorem Tf (H:GH) (v:GV) (f:GH->OR):Te H v f=f (NK H v):=by
 unfold Te NK
 cases v.asS with
 |none=>rfl
 |some s=>exact Di H s.1 f
theorem gC {H:GH} {h:Nat} {cs:List GV}:H.cells h=some cs↔H.get h=some (.cells cs):=by
 unfold GH.cells
 rw[aD]
 constructor
 ·rintro⟨o,b,a⟩;cases o with
  |cells c=>cases a;exact b
  |mp e=>cases a
 ·intro h;exact⟨_,h,rfl⟩
theorem GO.asM_eq {o:GO} {a:List (GV×GV)} (h:o.asM=some a):o = .mp a:=by
 cases o with
 |cells c=>cases h
 |mp e=>cases h;rfl
theorem yG (k:Nat) (v:GV) (σ:GF) (t:Nat):CN ((k,v)::σ) t=if t=k then some v else CN σ t:=by
 show Bool.casesOn (motive:=fun _=>Option GV) (Nat.beq t k) (CN σ t) (some v)=_
 by_cases e:t=k
 ·subst e;simp
 ·rw[lL e,if_neg e]
section
variable {v:GV}
theorem mK {p:IntKind×Int} (h:v.asI=some p):v = .int p.1 p.2:=by cases v<;>cases h;rfl
theorem zO {p:Bool} (h:v.asB=some p):v = .bool p:=by cases v<;>cases h;rfl
theorem BB {p:Nat×Nat} (h:v.asP=some p):v = .ptr p.1 p.2:=by cases v<;>cases h;rfl
theorem zP {p:Nat×Nat×Nat×Nat} (h:v.asS=some p):v = .sl p.1 p.2.1 p.2.2.1 p.2.2.2:=by cases v<;>cases h;rfl
theorem Su {p:Nat×List GV×List GV} (h:v.asF=some p):v = .fn p.1 p.2.1 p.2.2:=by cases v<;>cases h;rfl
theorem XH {p:List GV} (h:v.asT=some p):v = .tup p:=by cases v<;>cases h;rfl
theorem Hg {p:List GV} (h:v.asA=some p):v = .agg p:=by cases v<;>cases h;rfl
theorem oA {p:Nat×Nat} (h:v.asStr=some p):v = .str p.1 p.2:=by cases v<;>cases h;rfl
theorem asM_eq {p:Nat} (h:v.asM=some p):v = .map p:=by cases v<;>cases h;rfl
theorem tW (h:v.isSnil=true):v = .snil:=by cases v<;>first|rfl|cases h
end
section
variable {d:TypeDesc}
theorem DF {e:TypeId} (h:UW d=some e):d = .slice e:=by cases d<;>cases h;rfl
theorem Ov {e:Nat×TypeId} (h:Zh d=some e):d = .array e.1 e.2:=by cases d<;>cases h;rfl
theorem KO {e:Array Field} (h:tdF d=some e):d = .struct e:=by cases d<;>cases h;rfl
theorem DD {e:IntKind} (h:UV d=some e):d = .int e:=by cases d<;>cases h;rfl
theorem Zi {e:TypeId×TypeId} (h:tdM d=some e):d = .map e.1 e.2:=by cases d<;>cases h;rfl
theorem yX (h:F_ d=true):d = .string:=by cases d<;>first|rfl|cases h
theorem Ow (h:tdB d=true):d = .bool:=by cases d<;>first|rfl|cases h
end
theorem EP {a:Int} {n:Nat} (h:XG a=some n):a=n:=by cases a<;>cases h;rfl
theorem ZR {b:Bool} {p:Prop} [Decidable p] (h:b=true↔p):b=decide p:=by
 cases b
 ·exact(decide_eq_false fun a=>by cases h.2 a).symm
 ·exact(decide_eq_true (h.1 rfl)).symm
theorem Fh (a b:Int):YQ a b=decide (a<b):=by
  refine ZR ?_
  cases a with
  | ofNat a => cases b with
    |ofNat b=>show Nat.blt a b=true↔_;rw[Nat.blt_eq];simp
    | negSucc b => constructor
                   · intro h;cases h
                   · intro h;simp at h;omega
  | negSucc a => cases b with
    | ofNat b => constructor
                 · intro _;have:=Int.negSucc_lt_zero a;simp;omega
                 · intro _;rfl
    |negSucc b=>show Nat.blt b a=true↔_;rw[Nat.blt_eq];omega
theorem Hz (a b:Int):Zq a b=decide (a=b):=by
  refine ZR ?_
  cases a with
  | ofNat a => cases b with
    |ofNat b=>show Nat.beq a b=true↔_;simp;omega
    | negSucc b => constructor
                   · intro h;cases h
                   · intro h;cases h
  | negSucc a => cases b with
    | ofNat b => constructor
                 · intro h;cases h
                 · intro h;cases h
    |negSucc b=>show Nat.beq a b=true↔_;simp
theorem Dp (a b:Bool):Pg a b=(a==b):=by cases a<;>cases b<;>rfl
theorem Fb {a b:IntKind} (h:YA a b=true):a=b:=of_decide_eq_true h
theorem HB (b:Bool):fb b=some (.bool b):=by cases b<;>rfl
end
end Go.Gx
end
section
namespace Go.Gx
open Go Go.Sx Go.RowKit
section
structure IM where
 b:Nat
 off:Nat
 size:Nat
 x:Obj
 /-- what the evaluator wrote -/
 o:GO
abbrev dH:=Nat->Option IM
def dH.le (ρ a:dH):Prop:=∀h l,ρ h=some l->a h=some l
theorem dH.le_refl (ρ:dH):ρ.le ρ:=fun _ _ h=>h
theorem dH.le_trans {a b c:dH} (h:a.le b) (k:b.le c):a.le c:=fun _ _ x=>k _ _ (h _ _ x)
inductive Rl (ρ:dH):GV->Value->Prop
 |int (k n):Rl ρ (.int k n) (.int k n)
 |bool (b):Rl ρ (.bool b) (.bool b)
 |str (s:ByteArray):Rl ρ (.str (kD (bE s)) (bE s).length) (.string s)
 |ptr {h l} (off) (hl:ρ h=some l):Rl ρ (.ptr h off) (.pointer (some ⟨l.b,l.off+off,none⟩))
 |pnil:Rl ρ .pnil (.pointer none)
 |sl {h l off len sz cap} {A:Addr} (hl:ρ h=some l) (hc:len<=cap) (ha:cap=0∨(A=⟨l.b,l.off+off,none⟩∧l.off+off+cap*sz<=l.size)):Rl ρ (.sl h off len sz) (.slice (some A) len cap)
 |snil:Rl ρ .snil (.slice none 0 0)
 |map {h l} (hl:ρ h=some l):Rl ρ (.map h) (.map (some l.b))
 | fn {us vs : List GV} {us' vs' : dO} (f) (h1 : us.length = us'.length) (h2 : ∀ (i : Nat) g v, us[i]? = some g → us'[i]? = some v → Rl ρ g v) (h3 : vs.length = vs'.length) (h4 : ∀ (i : Nat) g v, vs[i]? = some g → vs'[i]? = some v → Rl ρ g v) :
   Rl ρ (.fn f us vs) (.func (.func f) us'.toArray vs'.toArray)
 |fnil:Rl ρ .fnil .nilFunc
 |inil:Rl ρ .inil .nilIface
 |agg {cs:List GV} {vs:dO} (h1:cs.length=vs.length) (h2:∀(i:Nat) g v,cs[i]? = some g->vs[i]? = some v->Rl ρ g v) (h3:∀v∈vs,one v=true):Rl ρ (.agg cs) (.agg vs.toArray)
 |tup {cs:List GV} {vs:dO} (h1:cs.length=vs.length) (h2:∀(i:Nat) g v,cs[i]? = some g->vs[i]? = some v->Rl ρ g v):Rl ρ (.tup cs) (.tuple vs.toArray)
 |un:Rl ρ .un undef
 |bad (v):Rl ρ .bad v
 |opn {h l} (v) (hl:ρ h=some l) (hx:l.x = .cells #[v] 0 (0,0)):Rl ρ (.opn h) v
theorem Rl.le {ρ c:dH} (d:ρ.le c) {g:GV} {v:Value} (h:Rl ρ g v):Rl c g v:=by
 induction h with
 |int k n=>exact .int k n
 |bool b=>exact .bool b
 |str s=>exact .str s
 |ptr m h=>exact .ptr m (d _ _ h)
 |pnil=>exact .pnil
 |sl h hc p=>exact .sl (d _ _ h) hc p
 |snil=>exact .snil
 |map h=>exact .map (d _ _ h)
 |fn f a o e r j l=>exact .fn f a j e l
 |fnil=>exact .fnil
 |inil=>exact .inil
 |agg a o e i=>exact .agg a i e
 |tup a o i=>exact .tup a i
 |un=>exact .un
 |bad v=>exact .bad v
 |opn v h q=>exact .opn v (d _ _ h) q
structure oS (ρ:dH) (gs:List GV) (vs:dO):Prop where
 len:gs.length=vs.length
 at':∀(i:Nat) g v,gs[i]? = some g->vs[i]? = some v->Rl ρ g v
theorem oS.nil {ρ:dH}:oS ρ [] []:=⟨rfl,fun i g v h=>by simp at h⟩
theorem oS.cons {ρ:dH} {g:GV} {v:Value} {gs:List GV} {vs:dO} (h:Rl ρ g v) (r:oS ρ gs vs):oS ρ (g::gs) (v::vs):=⟨by simp[r.len],fun i a b c d=>by
 cases i with
 |zero=>simp at c d;subst c d;exact h
 |succ i=>simp at c d;exact r.at' i a b c d⟩
theorem oS.of_cons {ρ:dH} {g:GV} {gs:List GV} {vs:dO} (h:oS ρ (g::gs) vs):∃v c,vs=v::c∧Rl ρ g v∧oS ρ gs c:=by
 cases vs with
 |nil=>have:=h.len;simp at this
 |cons v vs=>exact⟨v,vs,rfl,h.at' 0 _ _ rfl rfl,by have:=h.len;simpa using this,fun i a b d e=>h.at' (i+1) a b (by simpa using d) (by simpa using e)⟩
theorem oS.of_nil {ρ:dH} {vs:dO} (h:oS ρ [] vs):vs=[]:=List.eq_nil_of_length_eq_zero h.len.symm
theorem oS.le {ρ a:dH} (d:ρ.le a) {gs:List GV} {vs:dO} (h:oS ρ gs vs):oS a gs vs:=⟨h.len,fun i g v b c=>(h.at' i g v b c).le d⟩
theorem oS.append {ρ:dH} {gs a:List GV} {vs b:dO} (h:oS ρ gs vs) (k:oS ρ a b):oS ρ (gs++a) (vs++b):=by
 induction gs generalizing vs with
 |nil=>rw[h.of_nil];exact k
 |cons g gs e=>obtain⟨v,vs,rfl,c,d⟩:=h.of_cons;exact .cons c (e d)
theorem oS.get {ρ:dH} {gs:List GV} {vs:dO} (h:oS ρ gs vs) {i:Nat} {g:GV} (a:gs[i]? = some g):∃v,vs[i]? = some v∧Rl ρ g v:=by
 have b:=bA a
 have:i<vs.length:=h.len▸b
 exact⟨vs[i],List.getElem?_eq_getElem this,h.at' i g _ a (List.getElem?_eq_getElem this)⟩
theorem oS.sub {ρ:dH} {gs:List GV} {vs:dO} (h:oS ρ gs vs) (o n:Nat):oS ρ ((gs.drop o).take n) ((vs.drop o).take n):=
 ⟨by simp[h.len],fun i g v a b=>by
  rw[List.getElem?_take]at a b
  split at a
  ·rename_i c
   rw[if_pos c]at b
   rw[List.getElem?_drop]at a b
   exact h.at' _ g v a b
  ·cases a⟩

section
variable {ρ:dH} {V:Value}
theorem Rl.int_inv {k:IntKind} {n:Int} (h:Rl ρ (.int k n) V):V = .int k n:=by cases h;rfl
theorem Rl.bool_inv {b:Bool} (h:Rl ρ (.bool b) V):V = .bool b:=by cases h;rfl
theorem Rl.str_inv {n l:Nat} (h:Rl ρ (.str n l) V):∃s,V = .string s∧n=kD (bE s)∧l=(bE s).length:=by cases h;exact⟨_,rfl,rfl,rfl⟩
theorem Rl.ptr_inv {h o:Nat} (x:Rl ρ (.ptr h o) V):∃l,ρ h=some l∧V = .pointer (some ⟨l.b,l.off+o,none⟩):=by cases x with|ptr o a=>exact⟨_,a,rfl⟩
theorem Rl.sl_inv {h o n a:Nat} (x:Rl ρ (.sl h o n a) V):∃l cap A,ρ h=some l∧V = .slice (some A) n cap∧n<=cap∧(cap=0∨(A=⟨l.b,l.off+o,none⟩∧l.off+o+cap*a<=l.size)):=by
 cases x with|sl d hc c=>exact⟨_,_,_,d,rfl,hc,c⟩
theorem Rl.snil_inv (h:Rl ρ .snil V):V = .slice none 0 0:=by cases h;rfl
theorem Rl.map_inv {h:Nat} (x:Rl ρ (.map h) V):∃l,ρ h=some l∧V = .map (some l.b):=by cases x with|map a=>exact⟨_,a,rfl⟩
theorem Rl.fn_inv {f:Nat} {us vs:List GV} (x:Rl ρ (.fn f us vs) V):∃a b,V = .func (.func f) a.toArray b.toArray∧oS ρ us a∧oS ρ vs b:=by
 cases x with|fn f c d e g=>exact⟨_,_,rfl,⟨c,d⟩,⟨e,g⟩⟩
theorem Rl.agg_inv {cs:List GV} (x:Rl ρ (.agg cs) V):∃vs,V = .agg vs.toArray∧oS ρ cs vs∧∀v∈vs,one v=true:=by
 cases x with|agg a b c=>exact⟨_,rfl,⟨a,b⟩,c⟩
theorem Rl.tup_inv {cs:List GV} (x:Rl ρ (.tup cs) V):∃vs,V = .tuple vs.toArray∧oS ρ cs vs:=by
 cases x with|tup a b=>exact⟨_,rfl,⟨a,b⟩⟩
theorem Rl.opn_inv {h:Nat} (x:Rl ρ (.opn h) V):∃l,ρ h=some l∧l.x = .cells #[V] 0 (0,0):=by cases x with|opn v a b=>exact⟨_,a,b⟩
theorem Rl.un_inv (x:Rl ρ .un V):V=undef:=by cases x;rfl
theorem Rl.fn' {f:Nat} {us vs:List GV} {a b:List Value} (c:oS ρ us a) (d:oS ρ vs b):Rl ρ (.fn f us vs) (.func (.func f) a.toArray b.toArray):= .fn f c.len c.at' d.len d.at'
theorem DT {cs:List GV} {vs:List Value} (h:oS ρ cs vs) (a:∀v∈vs,one v=true):Rl ρ (.agg cs) (.agg vs.toArray):= .agg h.len h.at' a
theorem Gr {cs:List GV} {vs:List Value} (h:oS ρ cs vs):Rl ρ (.tup cs) (.tuple vs.toArray):= .tup h.len h.at'
theorem Rl.cells {g:GV} {cs:List GV} (h:Rl ρ g V) (hc:g.cells=some cs):∃vs,V.cells=vs.toArray∧oS ρ cs vs∧∀v∈vs,one v=true:=by
 have a:∀g V,Rl ρ g V->one V=true->∃vs,#[V]=vs.toArray∧oS ρ [g] vs∧∀v∈vs,one v=true:=fun g V h b=>⟨[V],rfl,.cons h .nil,fun v d=>by simp at d;subst d;exact b⟩
 have e:=h
 cases h with
 |agg b c f=>cases hc;exact⟨_,rfl,⟨b,c⟩,f⟩
 |tup b c=>cases hc
 |un=>cases hc
 |bad v=>cases hc
 |opn v i j=>cases hc
 |_=>cases hc;exact a _ _ e rfl
end

theorem Kv {ρ:dH} {v:Value} {g:GV} (h:Q_ v=some g):Rl ρ g v∧one v=true:=by
 unfold Q_ at h
 split at h
 ·cases h;exact⟨.int _ _,rfl⟩
 ·cases h;exact⟨.bool _,rfl⟩
 ·cases h;exact⟨.snil,rfl⟩
 ·cases h;exact⟨.pnil,rfl⟩
 ·cases h;exact⟨.fnil,rfl⟩
 ·cases h;exact⟨.inil,rfl⟩
 ·simp only[tY]at h;cases h;exact⟨.str _,rfl⟩
 ·cases h
theorem PE {ρ:dH}:∀{vs:List Value} {gs:List GV},Wz vs=some gs->oS ρ gs vs∧∀v∈vs,one v=true
 | [],gs,h=>by cases h;exact⟨.nil,fun v h=>by simp at h⟩
 | v :: vs, gs, h => by
  obtain⟨x,f,g⟩:=aD.1 (show ob (Q_ v) (fun x=>ob (Wz vs) fun xs=>some (x::xs))=some gs from h)
  obtain⟨xs,i,j⟩:=aD.1 g
  cases j
  obtain⟨a,b⟩:=PE i
  obtain⟨c,d⟩:=Kv (ρ:=ρ) f
  exact⟨.cons c a,fun u e=>by
   rcases List.mem_cons.1 e with rfl|e
   ·exact d
   ·exact b u e⟩
theorem Od {ρ:dH} {v:Value} {g:GV} (h:ofV v=some g):Rl ρ g v:=by
 unfold ofV at h
 split at h
 ·obtain⟨xs,c,d⟩:=aD.1 h
  cases d
  obtain⟨a,b⟩:=PE (ρ:=ρ) c
  have:=DT a b
  simpa using this
 ·exact(Kv h).1
theorem PP {ρ:dH} {s:Sem Value} {g:GV} (h:Fw s=some g):∃v,Rl ρ g v∧s = .pure v:=by
 unfold Fw at h
 split at h
 ·exact⟨_,(Kv h).1,rfl⟩
 ·cases h

structure jQ (ρ:dH) (n:Nat) (σ:GF) (a:Act):Prop where
 defers:a.defers=[]
 size:a.tmps.size=n
 slot:∀t g,CN σ t=some g->Rl ρ g (a.eval (.tmp t))
theorem jQ.le {ρ b:dH} (d:ρ.le b) {n:Nat} {σ:GF} {a:Act} (h:jQ ρ n σ a):jQ b n σ a:=⟨h.defers,h.size,fun t g c=>(h.slot t g c).le d⟩
theorem jQ.put {ρ:dH} {n:Nat} {σ:GF} {a:Act} (h:jQ ρ n σ a) {d:Nat} (c:d<n) {g:GV} {v:Value} (f:Rl ρ g v):jQ ρ n ((d,g)::σ) (a.put (some d) v):=
 ⟨h.defers,by simp[Act.put,h.size],fun t u b=>by
  rw[yG]at b
  by_cases e:t=d
  ·subst e;rw[if_pos rfl]at b;cases b
   have:(a.put (some t) v).eval (.tmp t)=v:=by simp[Act.put,Act.eval,h.size,c]
   rw[this];exact f
  ·rw[if_neg e]at b
   have:(a.put (some d) v).eval (.tmp t)=a.eval (.tmp t):=by
    simp only[Act.put,Act.eval,Array.getD_eq_getD_getElem?]
    rw[Array.getElem?_setIfInBounds_ne (Ne.symm e)]
   rw[this];exact h.slot t u b⟩
section
variable {ρ:dH} {n:Nat} {σ:GF} {a:Act}
theorem b_ (F:jQ ρ n σ a) {x:Operand} {g:GV} (h:i_ σ x=some g):Rl ρ g (a.eval x):=by
 cases x with
 |tmp t=>exact F.slot t g h
 |const v=>exact Od h
 |global g=>cases h
 |func f=>cases h;exact Rl.fn' .nil .nil
theorem Cs (F:jQ ρ n σ a):∀{xs:List Operand} {gs:List GV},Dt σ xs=some gs->oS ρ gs (xs.map a.eval)
 | [],gs,h=>by cases h;exact .nil
 |x::xs,gs,h=>by
  obtain⟨v,b,c⟩:=aD.1 (show ob (i_ σ x) (fun v=>ob (Dt σ xs) fun vs=>some (v::vs))=some gs from h)
  obtain⟨vs,d,e⟩:=aD.1 c
  cases e
  exact .cons (b_ F b) (Cs F d)
def Zp (ρ:dH) (gs:List (Nat×GV)) (vs:List (Nat×Value)):Prop:=gs.map (·.1)=vs.map (·.1)∧oS ρ (gs.map (·.2)) (vs.map (·.2))
theorem Am (F:jQ ρ n σ a):∀{xs:List (Nat×Operand)} {gs:List (Nat×GV)},sB σ xs=some gs->Zp ρ gs (xs.map fun p=>(p.1,a.eval p.2))
 | [],gs,h=>by cases h;exact⟨rfl,.nil⟩
 |x::xs,gs,h=>by
  obtain⟨v,d,e⟩:=aD.1 (show ob (i_ σ x.2) (fun v=>ob (sB σ xs) fun vs=>some ((x.1,v)::vs))=some gs from h)
  obtain⟨vs,f,g⟩:=aD.1 e
  cases g
  obtain⟨b,c⟩:=Am F f
  exact⟨by simp only[List.map_cons,b],.cons (b_ F d) c⟩
end

def AB (P:Program) (ρ:dH) (s:Sem Value) (g:GV):Prop:=∃v,Rl ρ g v∧∀w,s.run P w = .ok v w
structure eK (P:Program) (tb:TB):Prop where
 tab:∀{T d},tb T=some d->qL P T d
 /-- structs of leaves may be compared -/
 eqs:∀{T fs},Jb T=true->pJ tb T=some fs->uL tb fs=true->P.stoodInHeld T=false∧∀f∈fs,f.name ≠ "_"
noncomputable def aae (P:Program) (tb:TB):Bool:=(List.range 512).all fun T=>bif Jb T then(Option.casesOn (motive:=fun _=>Bool) (pJ tb T) true fun a=>bif uL tb a then(!P.stoodInHeld T&&a.all fun f=> !(f.name == "_"))else true)else true
theorem YC {P:Program} {tb:TB} (h:aae P tb=true) {T:Nat} {b:List Field} (a:Jb T=true) (g:pJ tb T=some b) (i:uL tb b=true):P.stoodInHeld T=false∧∀f∈b,f.name ≠ "_":=by
 have d:T<512:=by
  obtain⟨_,h⟩:=bI.1 (show(bif Nat.blt 31 T then(bif Nat.blt T 512 then some ()else none)else none)=some () by
   unfold Jb at a
   cases e:Nat.blt 31 T<;>rw[e]at a
   ·cases a
   ·rw[cond_true]at a;rw[a];rfl)
  obtain⟨h,_⟩:=bI.1 h
  simpa [Nat.blt_eq]using h
 have:=List.all_eq_true.1 h T (List.mem_range.2 d)
 rw[a,cond_true,g]at this
 have this:(bif uL tb b then(!P.stoodInHeld T&&b.all fun f=> !(f.name == "_"))else true)=true:=this
 rw[i,cond_true,Bool.and_eq_true]at this
 exact⟨by simpa using this.1,fun f c=>by simpa using List.all_eq_true.1 this.2 f c⟩
section
variable {P:Program} {tb:TB} {ρ:dH} {V U W:Value} {v u t g:GV}
theorem OB {k:IntKind} {z:Int} {g:GV} (h:gw k z=some g):g = .int k (k.wrap z):=by
  unfold gw at h
  rw[Je]at h
  cases b:Xg k with
  | true =>
    rw[b]at h
    obtain⟨c,d⟩:=bI.1 h
    cases d
    have e:k = .i64:=by cases k<;>first|rfl|cases b
    subst e
    have : -9223372036854775808<=z∧z<=9223372036854775807:=by
      cases z with
      | ofNat a => have : a < 9223372036854775808 := by simpa [TG, Nat.blt_eq] using c
                   simp only[Int.ofNat_eq_natCast];omega
      | negSucc a => have : a < 9223372036854775808 := by simpa [TG, Nat.blt_eq] using c
                     omega
    rw[JF this.1 this.2]
  | false =>
    rw[b]at h
    simp only[cond_false,Je]at h
    cases h;rfl
theorem Vu {l:BinOp} {k:IntKind} {a b:Int} {T:TypeId} (i:GC l=false) (h:ZT l k a b=some g):∃v,Rl ρ g v∧binOp l T (.int k a) (.int k b) = .pure v:=by
 have j:∀{p:Prop} [Decidable p] {c:Bool},c=decide p->fb c=some g->Rl ρ g (.bool (decide p)):=fun e h=>by rw[HB]at h;cases h;rw[e];exact .bool _
 have d:∀f,GC f=false->Fw (binOp f 0 (.int k a) (.int k b))=some g->∃v,Rl ρ g v∧binOp f T (.int k a) (.int k b) = .pure v:=fun f m h=>by
  obtain⟨v,n,o⟩:=PP (ρ:=ρ) h
  refine⟨v,n,?_⟩
  rw[<-o];cases f<;>first|rfl|cases m
 cases l with
 |add=>exact⟨_,by rw[OB h];exact .int _ _,by simp[binOp,Op.intArith];rfl⟩
 |sub=>exact⟨_,by rw[OB h];exact .int _ _,by simp[binOp,Op.intArith];rfl⟩
 |eql=>exact⟨.bool (decide (a=b)),j (Hz a b) h,by simp[binOp,Op.intCmp];rfl⟩
 |neq=>exact⟨.bool (decide (¬a=b)),j (by rw[Hz];simp) h,by simp[binOp,Op.intCmp];rfl⟩
 |lss=>exact⟨.bool (decide (a<b)),j (Fh a b) h,by simp[binOp,Op.intCmp];rfl⟩
 |leq=>exact⟨.bool (decide (a<=b)),j (by rw[Fh,<-decide_not];exact decide_eq_decide.2 (by omega)) h,by simp[binOp,Op.intCmp];rfl⟩
 |gtr=>exact⟨.bool (decide (b<a)),j (Fh b a) h,by simp[binOp,Op.intCmp];rfl⟩
 |geq=>exact⟨.bool (decide (b<=a)),j (by rw[Fh,<-decide_not];exact decide_eq_decide.2 (by omega)) h,by simp[binOp,Op.intCmp];rfl⟩
 |shl=>cases i
 |shr=>cases i
 |mul=>exact d .mul i h
 |quo=>exact d .quo i h
 |rem=>exact d .rem i h
 |and=>exact d .and i h
 |or=>exact d .or i h
 |xor=>exact d .xor i h
 |andNot=>exact d .andNot i h
end
end
section

theorem tV (b:UInt8) (l:List UInt8):kD (b::l)=b.toNat+256*kD l:=rfl
theorem Ed:∀{x y:List UInt8},x.length=y.length->kD x=kD y->x=y
 | [],[],_,_=>rfl
 | [],_::_,h,_=>by simp at h
 |_::_,[],h,_=>by simp at h
 |a::x,b::y,h,e=>by
  rw[tV,tV]at e
  have f:=a.toNat_lt
  have g:=b.toNat_lt
  have c:a.toNat=b.toNat:=by omega
  have d:kD x=kD y:=by omega
  rw[UInt8.toNat_inj.1 c,Ed (by simpa using h) d]
theorem E_:∀(x:List UInt8) (n:Nat),kD x / 256^n=kD (x.drop n)
 |x,0=>by simp
 | [],n+1=>by simp[kD]
 |b::x,n+1=>by
  rw[tV,List.drop_succ_cons,<-E_ x n,Nat.pow_succ,Nat.mul_comm (256^n) 256,<-Nat.div_div_eq_div_mul]
  have:=b.toNat_lt
  congr 1
  omega
theorem Ja:∀(x:List UInt8) (n:Nat),kD x%256^n=kD (x.take n)
 |x,0=>by simp[kD,Nat.mod_one]
 | [],n+1=>by simp[kD]
 |b::x,n+1=>by
  rw[tV,List.take_succ_cons,tV,<-Ja x n,Nat.pow_succ,Nat.mul_comm (256^n) 256,Nat.mod_mul]
  have d:=b.toNat_lt
  have a:(b.toNat+256*kD x)%256=b.toNat:=by omega
  have c:(b.toNat+256*kD x) / 256=kD x:=by omega
  rw[a,c]
theorem aaD (n l:Nat):Nat.shiftRight n (Nat.mul 8 l)=n / 256^l:=by
 show n >>> (8*l)=_
 rw[Nat.shiftRight_eq_div_pow,Nat.pow_mul]
theorem aax (k:Nat):Nat.pow 2 (Nat.mul 8 k)=256^k:=by
 show 2^(8*k)=_
 rw[Nat.pow_mul]
theorem Tg (x:List UInt8) (l k:Nat):Nat.mod (Nat.shiftRight (kD x) (Nat.mul 8 l)) (Nat.pow 2 (Nat.mul 8 k))=kD ((x.drop l).take k):=by
 rw[aaD,aax]
 show kD x / 256^l%256^k=_
 rw[E_,Ja]
theorem Pe (x:List UInt8) (i:Nat) (h:i<x.length):Nat.mod (Nat.shiftRight (kD x) (Nat.mul 8 i)) 256=(x[i]).toNat:=by
 rw[aaD]
 show kD x / 256^i%256=_
 rw[E_,List.drop_eq_getElem_cons h,tV]
 have:=(x[i]).toNat_lt
 omega
theorem Qv (s:ByteArray) (i:Nat):s[i]? = (bE s)[i]?:=by
 unfold bE
 by_cases h:i<s.size
 ·rw[getElem?_pos s i h,Array.getElem?_toList,Array.getElem?_eq_getElem (by simpa using h)];rfl
 ·rw[getElem?_neg s i h]
  rw[List.getElem?_eq_none (by have:=Lib.size_eq s;omega)]
section
variable {P:Program} {tb:TB} {ρ:dH} {V U W:Value} {v u t g:GV}
theorem ZS (a b:ByteArray):(a==b)=(a.toList==b.toList):=by
 rw[Lib.toList_data,Lib.toList_data]
 obtain⟨⟨x⟩⟩:=a
 obtain⟨⟨y⟩⟩:=b
 have:((⟨⟨x⟩⟩:ByteArray)==⟨⟨y⟩⟩)=((⟨x⟩:Array UInt8)==⟨y⟩):=rfl
 rw[this]
 simp
theorem YB {a b:Nat×Nat} {s r:ByteArray} (f:a.1=kD (bE s)) (h:a.2=(bE s).length) (i:b.1=kD (bE r)) (j:b.2=(bE r).length):Nh a b=(s.toList==r.toList):=by
 rw[Lib.toList_data,Lib.toList_data]
 unfold Nh
 rw[f,h,i,j]
 by_cases d:(bE s).length=(bE r).length
 ·have k:Nat.beq (bE r).length (bE r).length=true:=by simp
  rw[d,k,cond_true]
  by_cases c:kD (bE s)=kD (bE r)
  ·have:=Ed d c
   unfold bE at this
   rw[c,this];simp
  ·rw[lL c]
   symm
   rw[beq_eq_false_iff_ne]
   intro e;exact c (by unfold bE;rw[e])
 ·rw[lL d,cond_false]
  symm
  rw[beq_eq_false_iff_ne]
  intro e;exact d (by unfold bE;rw[e])
theorem QV (z:eK P tb) {T:TypeId} {t:Ty} (C:tb T=some t) {q:Bool} (e:Rl ρ v V) (d:Rl ρ u U) (h:NY t v u=some q) (m:Nat) (w:World):(Op.equalIn (m+1) T V U).run P w = .ok q w:=by
 have c:=(z.tab C).run_und w
 unfold NY at h
 cases j:v.asI with
 |some a=>
  rw[j]at h
  obtain⟨b,f,h⟩:=aD.1 h
  obtain⟨k,B,h⟩:=aD.1 h
  obtain⟨l,h⟩:=bI.1 h
  cases h
  rw[mK j]at e
  rw[mK f]at d
  rw[e.int_inv,d.int_inv,<-Fb l]
  rw[DD B]at c
  unfold Op.equalIn
  rw[Hz]
  simp[c]
  rfl
 | none =>
  rw[j]at h
  simp only at h
  cases n:v.asStr with
  |some a=>
   rw[n]at h
   obtain⟨b,f,h⟩:=aD.1 h
   obtain⟨i,h⟩:=bI.1 h
   cases h
   rw[oA n]at e
   rw[oA f]at d
   obtain⟨s,rfl,o,p⟩:=e.str_inv
   obtain⟨r,rfl,x,y⟩:=d.str_inv
   rw[yX i]at c
   rw[YB o p x y,<-ZS]
   unfold Op.equalIn
   simp[c]
  |none=>
   rw[n]at h
   obtain⟨a,A,h⟩:=aD.1 (show ob v.asB _=some q from h)
   obtain⟨b,f,h⟩:=aD.1 h
   obtain⟨i,h⟩:=bI.1 h
   cases h
   rw[zO A]at e
   rw[zO f]at d
   rw[e.bool_inv,d.bool_inv]
   rw[Ow i]at c
   unfold Op.equalIn
   rw[Dp]
   simp[c]
theorem Jj {t:Ty} (h:CX t=true):(∃k,t.desc = .int k)∨t.desc = .string∨t.desc = .bool:=by
 unfold CX at h
 cases a:tdB t.desc with
 |true=>exact .inr (.inr (Ow a))
 | false =>
  rw[a]at h
  cases c:F_ t.desc with
  |true=>exact .inr (.inl (yX c))
  |false=>
   rw[c]at h
   cases b:UV t.desc with
   |none=>rw[b]at h;cases h
   |some k=>exact .inl ⟨k,DD b⟩
theorem FU {f:Field} {a:List Field} (h:uL tb (f::a)=true):∃t,tb f.type=some t∧CX t=true∧uL tb a=true:=by
 have h:(Option.casesOn (motive:=fun _=>Bool) (tb f.type) false fun t=>bif CX t then uL tb a else false)=true:=h
 cases c:tb f.type with
 |none=>rw[c]at h;cases h
 |some t=>
  rw[c]at h
  have h:(bif CX t then uL tb a else false)=true:=h
  cases b:CX t with
  |false=>rw[b]at h;cases h
  |true=>rw[b]at h;exact⟨t,rfl,b,h⟩
theorem MC (c:eK P tb) {T:TypeId} {t:Ty} (h:tb T=some t) (f:CX t=true) {cs:Array Value} {b:Nat} {x:Value} (i:cs[b]? = some x) (w:World):(part T cs b).run P w = .ok x w:=by
 have a:=(c.tab h).run_und w
 have d:(isAgg T).run P w = .ok false w:=by
  unfold isAgg
  rcases Jj f with⟨k,e⟩|e|e<;>rw[e]at a<;>simp[a]
 unfold part
 simp[d,i]
theorem MA (k:eK P tb) {cs n:List GV} {vs us:List Value} (B:oS ρ cs vs) (A:oS ρ n us) (m:Nat) (w:World):∀{c:List Field} {q:Bool},VZ tb cs n c=some q->uL tb c=true->(∀f∈c,f.name ≠ "_")->
  Sem.run P (forIn c ((none,()):Option Bool×Unit) fun f __s=>if f.name = "_" then pure (ForInStep.yield (none,()))else do
   let __do_lift <-part f.type vs.toArray f.offset
   let __do_lift_1 <-part f.type us.toArray f.offset
   let __do_lift <-Op.equalIn (m+1) f.type __do_lift __do_lift_1
   if __do_lift=false then pure (ForInStep.done (some false,()))else pure (ForInStep.yield (none,()))) w = .ok (if q then none else some false,()) w
 | [],q,h,_,_=>by
  have:q=true:=by have h:some true=some q:=h;cases h;rfl
  subst this
  simp
 | f :: c, q, h, hl, hn => by
  obtain⟨t,l,h⟩:=aD.1 (show ob (tb f.type) _=some q from h)
  obtain⟨a,s,h⟩:=aD.1 h
  obtain⟨b,z,h⟩:=aD.1 h
  obtain⟨e,C,h⟩:=aD.1 h
  obtain⟨H,j,d,o⟩:=FU hl
  rw[l]at j;cases j
  rw[sC]at s z
  obtain⟨x,E,p⟩:=B.get s
  obtain⟨y,F,r⟩:=A.get z
  have p1:=MC k l d (cs:=vs.toArray) (by simpa using E) w
  have p2:=MC k l d (cs:=us.toArray) (by simpa using F) w
  have p3:=QV k l p r C m w
  have i:=hn f List.mem_cons_self
  cases e with
  |false=>
   have:q=false:=by have h:some false=some q:=h;cases h;rfl
   subst this
   simp[List.forIn_cons,i,p1,p2,p3]
  |true=>
   have G:=MA k B A m w (show VZ tb cs n c=some q from h) o fun f D=>hn f (List.mem_cons_of_mem _ D)
   simp[List.forIn_cons,i,p1,p2,p3,G]
theorem QI (f:eK P tb) {T:TypeId} {d:List Field} (n:Jb T=true) (b:pJ tb T=some d) (l:uL tb d=true) {cs j:List GV} {vs us:List Value} (y:oS ρ cs vs) (x:oS ρ j us) {q:Bool} (h:VZ tb cs j d=some q) (w:World):
  (Op.equal T (.agg vs.toArray) (.agg us.toArray)).run P w = .ok q w:=by
 obtain⟨r,p⟩:=f.eqs n b l
 obtain⟨t,s,e⟩:=aD.1 (show ob (tb T) _=some d from b)
 obtain⟨a,o,e⟩:=aD.1 e
 cases e
 have c:=(f.tab s).run_und w
 rw[KO o]at c
 obtain⟨a⟩:=a
 have i:∀m,(Op.equalIn (m+1+1) T (.agg vs.toArray) (.agg us.toArray)).run P w = .ok q w:=fun m=>by
  have k:=MA f y x m w h l p
  unfold Op.equalIn
  simp[c,r]
  simp only[]at k
  rw[k]
  cases q<;>simp
 exact i 9998
theorem Fa (b:eK P tb):∀(m:Nat) {T:TypeId} {t:Ty},tb T=some t->CX t=true->P.eqGuardType (m+1) T=false:=fun m T t d c=>by
 have a:=(b.tab d).und
 unfold Program.eqGuardType
 rcases Jj c with⟨k,e⟩|e|e<;>rw[e]at a<;>simp[a]
theorem Hy (p:eK P tb) {T:TypeId} {d:List Field} (k:pJ tb T=some d) (s:uL tb d=true):P.eqGuardType P.depth T=false:=by
 obtain⟨t,w,e⟩:=aD.1 (show ob (tb T) _=some d from k)
 obtain⟨a,r,e⟩:=aD.1 e
 cases e
 have c:=(p.tab w).und
 rw[KO r]at c
 have o:∀m,P.eqGuardType (m+2) T=false:=fun m=>by
  unfold Program.eqGuardType
  rw[c]
  simp only
  rw[Array.any_eq_false']
  intro f b
  have:f∈a.toList:=by simpa using b
  have n:∀(l:List Field),uL tb l=true->∀f∈l,∃t,tb f.type=some t∧CX t=true:=by
   intro l
   induction l with
   |nil=>intro _ f b;cases b
   |cons x l y=>
    intro h f b
    obtain⟨t,i,j,q⟩:=FU h
    rcases List.mem_cons.1 b with rfl|b
    ·exact⟨t,i,j⟩
    ·exact y q f b
  obtain⟨z,i,j⟩:=n _ s f this
  simp[Fa p m i j]
 unfold Program.depth
 exact o _
theorem QP (f:eK P tb) {e:BinOp} {T:TypeId} {d:List Field} (c:pJ tb T=some d) (i:uL tb d=true) (x y:Operand) (a b:Array Value) (w:World):(eqGuard e T x y (.agg a) (.agg b)).run P w = .ok () w:=by
 have h:=Hy f c i
 unfold eqGuard
 cases e<;>simp[h]
theorem Dm {d:BinOp} {T:TypeId} {q:Bool} {V U:Value} {x y:Operand} (f:∀w,(eqGuard d T x y V U).run P w = .ok () w) (e:∀w,(Op.equal T V U).run P w = .ok q w) (i:binOp .eql T V U=(do pure (.bool (<-Op.equal T V U)))) (j:binOp .neq T V U=(do pure (.bool (!(<-Op.equal T V U))))) (h:Vt d q true=some g):
  AB P ρ (do eqGuard d T x y V U;binOp d T V U) g:=by
 cases d with
 |eql=>exact⟨.bool q,by have c:fb (Pg q true)=some g:=h;rw[HB,Dp]at c;cases c;cases q<;>exact .bool _,fun w=>by have a:=f w;have b:=e w;rw[i];simp[a,b]⟩
 |neq=>exact⟨.bool (!q),by have c:fb (!Pg q true)=some g:=h;rw[HB,Dp]at c;cases c;cases q<;>exact .bool _,fun w=>by have a:=f w;have b:=e w;rw[j];simp[a,b]⟩
 |_=>cases h
theorem UG (k:eK P tb) {f:BinOp} {T:TypeId} (x y:Operand) (c:Rl ρ v V) (j:Rl ρ u U) (h:UF tb f T v u=some g):AB P ρ (do eqGuard f T x y V U;binOp f T V U) g:=by
 unfold UF at h
 cases m:v.asA with
 |some cs=>
  rw[m]at h
  obtain⟨J,C,h⟩:=aD.1 (show ob u.asA _=some g from h)
  obtain⟨r,h⟩:=bI.1 h
  obtain⟨K,d,h⟩:=aD.1 h
  obtain⟨o,h⟩:=bI.1 h
  obtain⟨q,E,h⟩:=aD.1 h
  rw[Hg m]at c
  rw[Hg C]at j
  obtain⟨vs,rfl,F,_⟩:=c.agg_inv
  obtain⟨us,rfl,p,_⟩:=j.agg_inv
  exact Dm (QP k d o x y _ _) (QI k r d o F p E) rfl rfl h
 | none =>
  rw[m]at h
  obtain⟨I,h⟩:=bI.1 (show(bif u.isSnil then _ else none)=some g from h)
  obtain⟨n,i,h⟩:=aD.1 h
  obtain⟨t,H,h⟩:=aD.1 h
  obtain⟨e,D,h⟩:=aD.1 h
  rw[tW I]at j
  have z:=j.snil_inv
  subst z
  have b:=fun w=>(k.tab H).run_und w
  rw[DF D]at b
  cases a:v.isSnil with
  | true =>
   rw[a]at h
   rw[tW a]at c
   have B:=c.snil_inv
   subst B
   refine Dm (fun w=> ?_) (q:=true) (fun w=> ?_) rfl rfl h
   ·unfold eqGuard;cases f<;>simp
   ·have:(Op.equalIn (9999+1) T (.slice none 0 0) (.slice none 0 0)).run P w = .ok true w:=by
     unfold Op.equalIn
     simp[b w]
    exact this
  | false =>
   rw[a]at h
   unfold Wh at i
   rw[a]at i
   obtain⟨s,G,i⟩:=aD.1 (show ob v.asS _=some n from i)
   rw[zP G]at c
   obtain⟨l,cap,A,o,rfl,_,_⟩:=c.sl_inv
   refine Dm (fun w=> ?_) (q:=false) (fun w=> ?_) rfl rfl h
   ·unfold eqGuard;cases f<;>simp
   ·have:(Op.equalIn (9999+1) T (.slice (some A) s.2.2.1 cap) (.slice none 0 0)).run P w = .ok false w:=by
     unfold Op.equalIn
     simp[b w]
    exact this
theorem FP:∀(x y:List UInt8),kD (x++y)=kD x+256^x.length*kD y
 | [],y=>by simp[kD]
 |b::x,y=>by
  rw[List.cons_append,tV,tV,FP x y,List.length_cons,Nat.pow_succ]
  rw[Nat.mul_add,Nat.mul_comm (256^x.length) 256,Nat.mul_assoc]
  omega
theorem OW {a b:Nat×Nat} {s r:ByteArray} (f:a.1=kD (bE s)) (c:a.2=(bE s).length) (j:b.1=kD (bE r)) (k:b.2=(bE r).length) (h:Yp a b=some g) (w:World):Rl ρ g (.string (s++r))∧(Op.stringOp .add s r).run P w = .ok (.string (s++r)) w:=by
 unfold Yp at h
 obtain⟨e,h⟩:=bI.1 h
 rw[tY,tY]at h
 cases h
 have e:a.2+b.2<16777216:=by simpa [Nat.blt_eq]using e
 have d:bE (s++r)=bE s++bE r:=by
  unfold bE
  obtain⟨⟨x⟩⟩:=s
  obtain⟨⟨y⟩⟩:=r
  simp
 constructor
 ·have l:Nat.add a.1 (Nat.mul (Nat.pow 2 (Nat.mul 8 a.2)) b.1)=kD (bE (s++r)):=by
   rw[d,FP,aax,f,c,j];rfl
  have m:Nat.add a.2 b.2=(bE (s++r)).length:=by rw[d,List.length_append,c,k];rfl
  rw[l,m]
  exact .str _
 ·have B:(s.size:Int)+(r.size:Int)<=9223372036854775807:=by
   have o:=Lib.size_eq s
   have p:=Lib.size_eq r
   have q:(bE s).length=s.data.size:=by unfold bE;simp
   have z:(bE r).length=r.data.size:=by unfold bE;simp
   have A:s.data.toList.length=s.data.size:=by simp
   have i:r.data.toList.length=r.data.size:=by simp
   omega
  have n:¬((((s.size+r.size:Nat)):Int)>IntKind.i64.max):=by
   show¬((((s.size+r.size:Nat)):Int)>9223372036854775807)
   omega
  unfold Op.stringOp
  simp only[]
  rw[if_neg n]
  rfl
theorem PU (hG:eK P tb) {op:BinOp} {T:TypeId} (x y:Operand) (hv:Rl ρ v V) (hu:Rl ρ u U) (h:KQ tb op T v u=some g):AB P ρ (do eqGuard op T x y V U;binOp op T V U) g:=by
 unfold KQ at h
 cases hi:v.asI with
 | some a =>
  rw[hi]at h
  obtain⟨b,hb,h⟩:=aD.1 h
  rw[mK hi]at hv
  rw[mK hb]at hu
  rw[hv.int_inv,hu.int_inv]
  have hg:∀w,(eqGuard op T x y (.int a.1 a.2) (.int b.1 b.2)).run P w = .ok () w:=fun w=>iA w
  cases hs:GC op with
  |true=>
   rw[hs]at h
   obtain⟨z,h1,h2⟩:=PP (ρ:=ρ) h
   have e:binOp op T (.int a.1 a.2) (.int b.1 b.2)=binOp op 0 (.int a.1 a.2) (.int b.1 b.2):=by cases op<;>first|rfl|cases hs
   exact⟨z,h1,fun w=>by rw[e,h2];simp[hg w]⟩
  |false=>
   rw[hs]at h
   simp only[cond_false]at h
   obtain⟨hk,h⟩:=bI.1 h
   have hk:=Fb hk
   obtain⟨z,h1,h2⟩:=Vu (ρ:=ρ) (T:=T) hs h
   exact⟨z,h1,fun w=>by rw[<-hk,h2];have:=hg w;rw[<-hk]at this;simp[this]⟩
 | none =>
  rw[hi]at h
  simp only at h
  cases hstr:v.asStr with
  | some a =>
   rw[hstr]at h
   obtain⟨b,hb,h⟩:=aD.1 h
   rw[oA hstr]at hv
   rw[oA hb]at hu
   obtain⟨s,rfl,e1,e2⟩:=hv.str_inv
   obtain⟨r,rfl,e3,e4⟩:=hu.str_inv
   have heq:Nh a b=(s.toList==r.toList):=by
    rw[Lib.toList_data,Lib.toList_data]
    unfold Nh
    rw[e1,e2,e3,e4]
    by_cases hl:(bE s).length=(bE r).length
    ·have hb:Nat.beq (bE r).length (bE r).length=true:=by simp
     rw[hl,hb,cond_true]
     by_cases he:kD (bE s)=kD (bE r)
     ·have:=Ed hl he
      unfold bE at this
      rw[he,this];simp
     ·rw[lL he]
      symm
      rw[beq_eq_false_iff_ne]
      intro hh;exact he (by unfold bE;rw[hh])
    ·rw[lL hl,cond_false]
     symm
     rw[beq_eq_false_iff_ne]
     intro hh;exact hl (by unfold bE;rw[hh])
   have hgd:∀w,(eqGuard op T x y (.string s) (.string r)).run P w = .ok () w:=fun w=>by unfold eqGuard;cases op<;>simp
   have key:∀c:Bool,fb c=some g->Rl ρ g (.bool c):=fun c hc=>by rw[HB]at hc;cases hc;exact .bool _
   cases op with
   |eql=>exact⟨_,key _ h,fun w=>by rw[heq];have:=hgd w;simp[this,binOp,Op.stringOp]⟩
   |neq=>exact⟨_,key _ h,fun w=>by rw[heq];have:=hgd w;simp[this,binOp,Op.stringOp]⟩
   |add=>exact⟨_,(OW (P:=P) e1 e2 e3 e4 h default).1,fun w=>by have:=hgd w;have k:=(OW (ρ:=ρ) (P:=P) e1 e2 e3 e4 h w).2;simp only[Sem.run_bind,this,Result.andThen_ok,binOp,k]⟩
   |_=>cases h
  | none =>
   rw[hstr]at h
   simp only at h
   cases ha:v.asB with
   | none =>
    rw[ha]at h
    simp only at h
    cases h1:v.isInil with
    |false=>rw[h1]at h;exact UG hG x y hv hu h
    |true=>
    rw[h1]at h
    have h':=h
    clear h
    obtain⟨h2,h⟩:=bI.1 (show(bif u.isInil then _ else none)=some g from h')
    clear h'
    obtain⟨t,ht,h'⟩:=aD.1 h
    clear h
    obtain⟨hd,hfin⟩:=bI.1 h'
    clear h'
    have e1:v = .inil:=by cases v<;>first|rfl|cases h1
    have e2:u = .inil:=by cases u<;>first|rfl|cases h2
    subst e1;subst e2
    cases hv;cases hu
    obtain⟨ms,hms,h0⟩:∃ms,t.desc = .interface ms∧ms.size=0:=by
     cases hq:t.desc<;>rw[hq]at hd<;>first|(exact⟨_,rfl,Nat.eq_of_beq_eq_true hd⟩)|cases hd
    have hun:∀w:World,_:=fun w=>(hG.tab ht).run_und w
    have h0':ms.isEmpty=true:=by simp[Array.isEmpty,h0]
    have hgi:∀w,(Op.eqGuardIn Op.maxDepth T .nilIface .nilIface).run P w = .ok false w:=fun w=>by
     have key:∀m:Nat,(Op.eqGuardIn (m+1) T .nilIface .nilIface).run P w = .ok false w:=by
      intro m
      unfold Op.eqGuardIn
      simp[hun w,hms,h0']
     exact key 9999
    have hei:∀w,(Op.equal T .nilIface .nilIface).run P w = .ok true w:=fun w=>by
     have key:∀m:Nat,(Op.equalIn (m+1) T .nilIface .nilIface).run P w = .ok true w:=by
      intro m
      unfold Op.equalIn
      simp[hun w,hms]
     exact key 9999
    have hgd:∀w,(eqGuard op T x y .nilIface .nilIface).run P w = .ok () w:=fun w=>by
     unfold eqGuard
     cases op<;>simp[hgi w]
     all_goals (split<;>simp)
    cases op with
    |eql=>cases hfin;exact⟨.bool true,.bool _,fun w=>by have h1:=hgd w;have h2:=hei w;simp[h1,binOp,h2]⟩
    |neq=>cases hfin;exact⟨.bool false,.bool _,fun w=>by have h1:=hgd w;have h2:=hei w;simp[h1,binOp,h2]⟩
    |_=>cases hfin
   | some a =>
    rw[ha]at h
    simp only at h
    obtain⟨b,hb,h⟩:=aD.1 h
    obtain⟨t,ht,h⟩:=aD.1 h
    obtain⟨hd,h⟩:=bI.1 h
    rw[zO ha]at hv
    rw[zO hb]at hu
    rw[hv.bool_inv,hu.bool_inv]
    have hgd:∀w,(eqGuard op T x y (.bool a) (.bool b)).run P w = .ok () w:=fun w=>by unfold eqGuard;cases op<;>simp
    have heq:∀w,(Op.equal T (.bool a) (.bool b)).run P w = .ok (a==b) w:=fun w=>by
     have hu:=(hG.tab ht).run_und w
     rw[Ow hd]at hu
     have key:∀m:Nat,(Op.equalIn (m+1) T (.bool a) (.bool b)).run P w = .ok (a==b) w:=by
      intro m
      unfold Op.equalIn
      simp[hu]
     exact key 9999
    cases op with
    |eql=>exact⟨.bool (a==b),by have h':fb (Pg a b)=some g:=h;rw[HB,Dp]at h';cases h';exact .bool _,fun w=>by have h1:=hgd w;have h2:=heq w;simp[h1,binOp,h2]⟩
    |neq=>exact⟨.bool (!(a==b)),by have h':fb (!Pg a b)=some g:=h;rw[HB,Dp]at h';cases h';exact .bool _,fun w=>by have h1:=hgd w;have h2:=heq w;simp[h1,binOp,h2]⟩
    |_=>cases h
theorem UO {d:UnOp} (b:Rl ρ v V) (h:WZ d v=some g):AB P ρ (Op.unary d V) g:=by
 cases d with
 |neg=>
  obtain⟨a,c,h⟩:=aD.1 (show ob v.asI _=some g from h)
  rw[mK c]at b
  rw[b.int_inv,OB h]
  exact⟨_,.int _ _,fun w=>by simp[Op.unary,Op.intArith]⟩
 |not=>
  obtain⟨a,c,h⟩:=aD.1 (show ob v.asB _=some g from h)
  rw[zO c]at b
  rw[b.bool_inv]
  rw[HB]at h;cases h
  exact⟨_,.bool _,fun w=>by simp[Op.unary]⟩
 |_=>cases h
theorem MR (e:eK P tb) {S D:TypeId} (f:Rl ρ v V) (h:Xp tb S D v=some g):AB P ρ (convert S D V) g:=by
 obtain⟨a,i,h⟩:=aD.1 (show ob v.asI _=some g from h)
 obtain⟨s,l,h⟩:=aD.1 h
 obtain⟨n,b,h⟩:=aD.1 h
 obtain⟨t,m,h⟩:=aD.1 h
 obtain⟨k,j,h⟩:=aD.1 h
 rw[Je]at h;cases h
 rw[mK i]at f
 rw[f.int_inv]
 refine⟨_,.int _ _,fun w=> ?_⟩
 have c:=(e.tab l).run_und w
 have d:=(e.tab m).run_und w
 rw[DD b]at c
 rw[DD j]at d
 simp[convert,c,d,Conv.intToInt]
theorem Mg (d:Rl ρ v V) (h:v.nilck=some g):g=v∧∀(o:Oper) (x:Operand) (a:Operand->Value),o.op = .nilCheck x->a x=V->∀w,(execOp a o).run P w = .ok (.value V) w:=by
 cases d with
 |ptr e m=>cases h;exact⟨rfl,fun o x a b c w=>by simp[execOp,b,c]⟩
 |fn f i j k l=>cases h;exact⟨rfl,fun o x a b c w=>by simp[execOp,b,c]⟩
 |_=>cases h
theorem FQ (c:eK P tb) {T:TypeId} {b:List Field} (h:pJ tb T=some b):∃d,qL P T d∧d.desc = .struct b.toArray:=by
 obtain⟨t,f,h⟩:=aD.1 (show ob (tb T) _=some b from h)
 obtain⟨a,e,h⟩:=aD.1 h
 cases h
 exact⟨t,c.tab f,by rw[KO e]⟩
theorem Jz (m:eK P tb) {T:TypeId} {f:Nat} (o:Rl ρ v V) (h:DG tb T f v=some g):AB P ρ (Instr.fieldAt T V f) g:=by
 obtain⟨p,y,h⟩:=aD.1 (show ob v.asP _=some g from h)
 obtain⟨A,a,h⟩:=aD.1 h
 obtain⟨q,n,h⟩:=aD.1 h
 obtain⟨z,i,h⟩:=aD.1 h
 obtain⟨j,h⟩:=jL.1 h
 rw[tY]at h;cases h
 rw[BB y]at o
 obtain⟨l,x,rfl⟩:=o.ptr_inv
 obtain⟨d,r,s⟩:=FQ m a
 rw[sC]at n
 refine⟨_,.ptr _ x,fun w=> ?_⟩
 have k:=r.run_und w
 rw[s]at k
 have c:z.size≠0:=fun e=>by rw[e]at j;cases j
 have e:l.off+(p.2+q.offset)=l.off+p.2+q.offset:=by omega
 show(Instr.fieldAt T (.pointer (some ⟨l.b,l.off+p.2,none⟩)) f).run P w = .ok (.pointer (some ⟨l.b,l.off+(p.2+q.offset),none⟩)) w
 rw[e]
 simp[Instr.fieldAt,k,n,Instr.sureAddr,fieldPlace,(m.tab i).run_size w,c,dK]
theorem Oc (l:eK P tb) {T:TypeId} {t:Ty} {cs:List GV} {vs:List Value} {o:Nat} (d:qL P T t) (c:oS ρ cs vs) (f:∀v∈vs,one v=true) (h:zI t cs o=some g):AB P ρ (part T vs.toArray o) g:=by
 unfold zI at h
 cases b:uA t.desc with
 |true=>
  rw[b]at h
  obtain⟨r,i,h⟩:=aD.1 h
  cases h
  obtain⟨m,rfl⟩:=KE i
  refine⟨_,DT (c.sub o t.size) (fun v j=>f v (List.mem_of_mem_drop (List.mem_of_mem_take j))),fun w=> ?_⟩
  have a:=d.run_agg w
  have e:=d.run_size w
  rw[b]at a
  simp[part,a,e]
 |false=>
  rw[b]at h
  rw[cond_false,sC]at h
  obtain⟨x,k,c⟩:=c.get h
  refine⟨x,c,fun w=> ?_⟩
  have a:=d.run_agg w
  rw[b]at a
  simp[part,a,k]
theorem MV (b:eK P tb) {T:TypeId} {f:Nat} (k:Rl ρ v V) (h:Xs tb T f v=some g):AB P ρ (Instr.field T V f) g:=by
 obtain⟨cs,hc,h⟩:=aD.1 (show ob v.asA _=some g from h)
 obtain⟨r,c,h⟩:=aD.1 h
 obtain⟨q,j,h⟩:=aD.1 h
 obtain⟨s,e,h⟩:=aD.1 h
 rw[Hg hc]at k
 obtain⟨vs,rfl,o,l⟩:=k.agg_inv
 obtain⟨d,m,n⟩:=FQ b c
 rw[sC]at j
 obtain⟨x,p,a⟩:=Oc (T:=q.type) b (b.tab e) o l h
 refine⟨x,p,fun w=> ?_⟩
 have i:=m.run_und w
 rw[n]at i
 have:=a w
 simp[Instr.field,i,j,asAgg,this]
theorem vV (c:eK P tb) {T:TypeId} {e:TypeId×Ty} (h:yF tb T=some e):(∃d,qL P T d∧d.desc = .slice e.1)∧qL P e.1 e.2∧tb e.1=some e.2:=by
 obtain⟨t,i,h⟩:=aD.1 (show ob (tb T) _=some e from h)
 obtain⟨a,f,h⟩:=aD.1 h
 obtain⟨j,b,h⟩:=aD.1 h
 cases h
 exact⟨⟨t,c.tab i,DF f⟩,c.tab b,b⟩
theorem JA (o:eK P tb) {T:TypeId} (k:Rl ρ v V) (z:Rl ρ u U) (h:Ir tb T v u=some g):AB P ρ (Instr.indexAt T V U) g:=by
 obtain⟨n,F,h⟩:=aD.1 (show ob u.asI _=some g from h)
 obtain⟨i,E,h⟩:=aD.1 h
 rw[mK F]at z
 rw[z.int_inv,EP E]
 cases x:v.asP with
 |some p=>
  rw[x]at h
  rw[BB x]at k
  obtain⟨l,r,rfl⟩:=k.ptr_inv
  obtain⟨t,H,h⟩:=aD.1 (show ob (tb T) _=some g from h)
  obtain⟨e,D,h⟩:=aD.1 h
  obtain⟨f,c,h⟩:=aD.1 h
  obtain⟨a,h⟩:=bI.1 h
  rw[tY]at h;cases h
  refine⟨_,.ptr _ r,fun w=> ?_⟩
  have j:=(o.tab H).run_und w
  rw[Ov D]at j
  have a:i<e.1:=by simpa [Nat.blt_eq]using a
  have m:l.off+(p.2+i*f.size)=l.off+p.2+i*f.size:=by omega
  show(Instr.indexAt T (.pointer (some ⟨l.b,l.off+p.2,none⟩)) (.int n.1 i)).run P w = .ok (.pointer (some ⟨l.b,l.off+(p.2+i*f.size),none⟩)) w
  rw[m]
  simp[Instr.indexAt,asIntOf,j,Instr.sureAddr,a,(o.tab c).run_size w,dK]
 |none=>
  rw[x]at h
  obtain⟨s,G,h⟩:=aD.1 (show ob v.asS _=some g from h)
  rw[zP G]at k
  obtain⟨l,cap,A,r,rfl,hc,y⟩:=k.sl_inv
  obtain⟨f,c,h⟩:=aD.1 (show ob (yF tb T) _=some g from h)
  obtain⟨a,h⟩:=bI.1 h
  rw[tY]at h;cases h
  obtain⟨⟨d,C,q⟩,B,_⟩:=vV o c
  have a:i<s.2.2.1:=by simpa [Nat.blt_eq]using a
  rcases y with y|⟨rfl,_⟩
  ·omega
  refine⟨_,.ptr _ r,fun w=> ?_⟩
  have j:=C.run_und w
  rw[q]at j
  have m:l.off+(s.2.1+i*f.2.size)=l.off+s.2.1+i*f.2.size:=by omega
  show(Instr.indexAt T (.slice (some ⟨l.b,l.off+s.2.1,none⟩) s.2.2.1 cap) (.int n.1 i)).run P w = .ok (.pointer (some ⟨l.b,l.off+(s.2.1+i*f.2.size),none⟩)) w
  rw[m]
  simp[Instr.indexAt,asIntOf,j,a,B.run_size w,dK]
theorem UE (k:eK P tb) {T:TypeId} (e:Rl ρ v V) (d:Rl ρ u U) (h:vAt tb T v u=some g):AB P ρ (Instr.index T V U) g:=by
 obtain⟨s,p,h⟩:=aD.1 (show ob v.asStr _=some g from h)
 obtain⟨n,o,h⟩:=aD.1 h
 obtain⟨i,m,h⟩:=aD.1 h
 obtain⟨t,q,h⟩:=aD.1 h
 obtain⟨l,h⟩:=bI.1 h
 obtain⟨a,h⟩:=bI.1 h
 rw[tY]at h;cases h
 rw[mK o]at d
 rw[d.int_inv,EP m]
 rw[oA p]at e
 obtain⟨r,rfl,f,j⟩:=e.str_inv
 have a:i<(bE r).length:=by rw[<-j];simpa [Nat.blt_eq]using a
 rw[f,Pe _ _ a]
 refine⟨_,.int _ _,fun w=> ?_⟩
 have b:=(k.tab q).run_und w
 rw[yX l]at b
 have c:=Qv r i
 rw[List.getElem?_eq_getElem a]at c
 simp[Instr.index,asIntOf,b,c]
theorem PW {i:Nat} (b:Rl ρ v V) (h:Zl i v=some g):AB P ρ (Instr.extract V i) g:=by
 obtain⟨vs,c,h⟩:=aD.1 (show ob v.asT _=some g from h)
 rw[XH c]at b
 obtain⟨us,rfl,a⟩:=b.tup_inv
 rw[sC]at h
 obtain⟨x,d,a⟩:=a.get h
 exact⟨x,a,fun w=>by simp[Instr.extract,d]⟩
theorem P_ {t1 t2 ty:TypeId} (j:Rl ρ v V) (i:Rl ρ u U) (h:UM v u=some g):AB P ρ (Builtin.max_ #[t1,t2] ty #[V,U]) g:=by
 obtain⟨a,k,h⟩:=aD.1 (show ob v.asI _=some g from h)
 obtain⟨b,l,h⟩:=aD.1 h
 obtain⟨f,h⟩:=bI.1 h
 have f:=Fb f
 have d:=j;have c:=i
 rw[mK k]at d;rw[mK l]at c
 rw[Fh]at h
 by_cases e:a.2<b.2
 ·rw[decide_eq_true e]at h;cases h
  refine⟨U,i,fun w=> ?_⟩
  rw[d.int_inv,c.int_inv,<-f]
  simp[Builtin.max_,Builtin.max2];omega
 ·rw[decide_eq_false e]at h;cases h
  refine⟨V,j,fun w=> ?_⟩
  rw[d.int_inv,c.int_inv,<-f]
  simp[Builtin.max_,Builtin.max2];omega
theorem Qa {t1 t2 ty:TypeId} (j:Rl ρ v V) (i:Rl ρ u U) (h:UN v u=some g):AB P ρ (Builtin.min_ #[t1,t2] ty #[V,U]) g:=by
 obtain⟨a,k,h⟩:=aD.1 (show ob v.asI _=some g from h)
 obtain⟨b,l,h⟩:=aD.1 h
 obtain⟨f,h⟩:=bI.1 h
 have f:=Fb f
 have d:=j;have c:=i
 rw[mK k]at d;rw[mK l]at c
 rw[Fh]at h
 by_cases e:b.2<a.2
 ·rw[decide_eq_true e]at h;cases h
  refine⟨U,i,fun w=> ?_⟩
  rw[d.int_inv,c.int_inv,<-f]
  simp[Builtin.min_,Builtin.min2];omega
 ·rw[decide_eq_false e]at h;cases h
  refine⟨V,j,fun w=> ?_⟩
  rw[d.int_inv,c.int_inv,<-f]
  simp[Builtin.min_,Builtin.min2];omega
theorem PV (c:eK P tb) {T ty:TypeId} (b:Rl ρ v V) (h:aaJ tb T v=some g):AB P ρ (Builtin.cap_ #[T] ty #[V]) g:=by
 obtain⟨t,i,h⟩:=aD.1 (show ob (tb T) _=some g from h)
 obtain⟨e,f,h⟩:=aD.1 h
 obtain⟨j,h⟩:=bI.1 h
 cases h
 rw[tW j]at b
 have d:=b.snil_inv
 subst d
 have a:=fun w=>(c.tab i).run_und w
 rw[DF f]at a
 exact⟨_,.int _ _,fun w=>by simp[Builtin.cap_,a w,goInt]⟩
theorem PX (d:eK P tb) {T ty:TypeId} (b:Rl ρ v V) (h:UJ tb T v=some g):AB P ρ (Builtin.len_ #[T] ty #[V]) g:=by
 obtain⟨t,e,h⟩:=aD.1 (show ob (tb T) _=some g from h)
 cases c:v.asStr with
 |some s=>
  rw[c]at h
  obtain⟨m,h⟩:=bI.1 h
  cases h
  rw[oA c]at b
  obtain⟨r,rfl,o,k⟩:=b.str_inv
  refine⟨_,.int _ _,fun w=> ?_⟩
  have i:=(d.tab e).run_und w
  rw[yX m]at i
  rw[k]
  have:r.size=(bE r).length:=Lib.size_eq r
  simp[Builtin.len_,i,goInt,this]
 | none =>
  rw[c]at h
  obtain⟨E,j,h⟩:=aD.1 (show ob (UW t.desc) _=some g from h)
  obtain⟨n,a,h⟩:=aD.1 h
  cases h
  unfold Wh at a
  cases f:v.isSnil with
  |true=>
   rw[f]at a;cases a
   rw[tW f]at b
   rw[b.snil_inv]
   exact⟨_,.int _ _,fun w=>KB w (d.tab e) (DF j) _ _ _ _⟩
  |false=>
   rw[f]at a
   obtain⟨s,c,a⟩:=aD.1 (show ob v.asS _=some n from a)
   cases a
   rw[zP c]at b
   obtain⟨l,cap,A,q,rfl,hc,p⟩:=b.sl_inv
   exact⟨_,.int _ _,fun w=>KB w (d.tab e) (DF j) _ _ _ _⟩
end
end
section

theorem Pn (a:Nat):∀(vs:dO) (k:Nat) (cs:Array Value),a+k+vs.length<=cs.size->
  ((vs.zipIdx k).foldl (fun cs p=>cs.setIfInBounds (a+p.2) p.1) cs).size=cs.size∧
  ∀i,((vs.zipIdx k).foldl (fun cs p=>cs.setIfInBounds (a+p.2) p.1) cs)[i]? = if a+k<=i∧i<a+k+vs.length then vs[i - (a+k)]? else cs[i]?
 | [],k,cs,_=>⟨rfl,fun i=>by rw[if_neg (by simp)];rfl⟩
 | v :: vs, k, cs, h => by
  simp only[List.length_cons]at h
  simp only[List.zipIdx_cons,List.foldl_cons]
  obtain⟨c,d⟩:=Pn a vs (k+1) (cs.setIfInBounds (a+k) v) (by simp;omega)
  refine⟨by rw[c];simp,fun i=> ?_⟩
  rw[d i]
  by_cases e:i=a+k
  ·subst e
   rw[if_neg (by omega),if_pos (by simp),Array.getElem?_setIfInBounds_self_of_lt (by omega)]
   simp
  ·by_cases b:a+(k+1)<=i∧i<a+(k+1)+vs.length
   ·rw[if_pos b,if_pos (by simp;omega)]
    have:i - (a+k)=(i - (a+(k+1)))+1:=by omega
    rw[this,List.getElem?_cons_succ]
   ·rw[if_neg b,if_neg (by simp;omega),Array.getElem?_setIfInBounds_ne (Ne.symm e)]
section
variable {P:Program} {tb:TB} {ρ:dH} {V U W:Value} {v u t g:GV}
structure Qm (ρ:dH) (cs:List GV) (a:Array Value):Prop where
 r:oS ρ cs a.toList
 one:∀v∈a.toList,Go.Sx.one v=true
theorem Kl {a:Array Value} (h:∀v∈a.toList,one v=true) {i:Nat} {v:Value} (b:a[i]? = some v):one v=true:=h v (by
 rw[<-Array.getElem?_toList]at b;exact List.mem_of_getElem? b)
theorem Jf {cs s cc:List GV} {a:Array Value} {d q:Nat} {x:Value} (n:Qm ρ cs a) (G:Rl ρ g x) (hc:g.cells=some cc) (E:cc.length=q) (C:q≠0) (F:Ef cc d cs=some s):
  (x.cells.size=q∧d+x.cells.size<=a.size)∧Qm ρ s (x.cells.zipIdx.foldl (fun cs (c,j)=>cs.setIfInBounds (d+j) c) a):=by
 obtain⟨vs,e,l,D⟩:=G.cells hc
 obtain⟨p1,p2,p3⟩:=GB F
 have m:cc≠[]:=by intro e;subst e;exact C E.symm
 have p1:=p1 m
 have z:cc.length=vs.length:=l.len
 have o:cs.length=a.size:=by have:=n.r.len;simpa using this
 rw[e]
 have k:d+0+vs.length<=a.size:=by omega
 obtain⟨B,w⟩:=Pn d vs 0 a k
 have A:(vs.toArray.zipIdx.foldl (fun cs (c,j)=>cs.setIfInBounds (d+j) c) a)=((vs.zipIdx 0).foldl (fun cs p=>cs.setIfInBounds (d+p.2) p.1) a):=by
  simp
 refine⟨⟨by simp;omega,by simp;omega⟩,?_⟩
 rw[A]
 refine⟨⟨by simp[B,p2,o],fun i b c h hc=> ?_⟩,fun y H=> ?_⟩
 ·rw[p3 i]at h
  rw[Array.getElem?_toList,w i]at hc
  simp only[Nat.add_zero]at hc
  by_cases f:d<=i∧i<d+cc.length
  ·rw[if_pos f]at h
   rw[if_pos (by omega)]at hc
   exact l.at' _ _ _ h hc
  ·rw[if_neg f]at h
   rw[if_neg (by omega)]at hc
   exact n.r.at' i b c h (by rw[Array.getElem?_toList];exact hc)
 ·obtain⟨i,f⟩:=List.mem_iff_getElem?.1 H
  rw[Array.getElem?_toList,w i]at f
  split at f
  ·exact D y (List.mem_of_getElem? f)
  ·exact Kl n.one f
theorem Ct {d:Nat}:∀{l:List (Nat×GV)} {b:List (Nat×Value)} {cs c:List GV} {a:Array Value},Zp ρ l b->Qm ρ cs a->Fe d l cs=some c->
  ∃f,Instr.fill (fun i=>some (i*d,d)) a b=some f∧Qm ρ c f
 | [],b,cs,c,a,hp,hr,h=>by
  have:b=[]:=by have:=hp.1;simpa using this.symm
  subst this;cases h;exact⟨a,rfl,hr⟩
 | p :: l, b, cs, c, a, hp, hr, h => by
  cases b with
  |nil=>have:=hp.1;simp at this
  |cons q b=>
   obtain⟨k,s⟩:=hp
   simp only[List.map_cons,List.cons.injEq]at k
   obtain⟨y,ys,n,x,z⟩:=s.of_cons
   simp only[List.map_cons,List.cons.injEq]at n
   obtain⟨rfl,rfl⟩:=n
   obtain⟨cc,m,h⟩:=aD.1 (show ob p.2.cells (fun cc=>bif Nat.beq cc.length d then(bif Nat.beq d 0 then none else ob (Ef cc (Nat.mul p.1 d) cs) (Fe d l))else none)=some c from h)
   obtain⟨B,h⟩:=bI.1 h
   obtain⟨j,h⟩:=jL.1 h
   obtain⟨D,A,h⟩:=aD.1 h
   have j:d≠0:=fun e=>by rw[e]at j;cases j
   obtain⟨⟨E,C⟩,r⟩:=Jf hr x m (Nat.eq_of_beq_eq_true B) j A
   obtain⟨f,o,w⟩:=Ct ⟨k.2,z⟩ r h
   refine⟨f,?_,w⟩
   have e:Nat.mul p.1 d=q.1*d:=by rw[<-k.1];rfl
   rw[e]at C r o
   show Instr.fill _ a ((q.1,q.2)::b)=_
   unfold Instr.fill
   simp only
   rw[if_neg (by simp only[ne_eq,Bool.or_eq_true,decide_eq_true_eq,not_or,Decidable.not_not];omega)]
   exact o
theorem Jh {ps:List (Nat×Nat)}:∀{l:List (Nat×GV)} {b:List (Nat×Value)} {cs c:List GV} {a:Array Value},Zp ρ l b->Qm ρ cs a->NP ps l cs=some c->
  ∃f,Instr.fill (ps.toArray[·]?) a b=some f∧Qm ρ c f
 | [],b,cs,c,a,hp,hr,h=>by
  have:b=[]:=by have:=hp.1;simpa using this.symm
  subst this;cases h;exact⟨a,rfl,hr⟩
 | p :: l, b, cs, c, a, hp, hr, h => by
  cases b with
  |nil=>have:=hp.1;simp at this
  |cons q b=>
   obtain⟨j,o⟩:=hp
   simp only[List.map_cons,List.cons.injEq]at j
   obtain⟨y,ys,m,w,x⟩:=o.of_cons
   simp only[List.map_cons,List.cons.injEq]at m
   obtain⟨rfl,rfl⟩:=m
   obtain⟨n,d,h⟩:=aD.1 (show ob (EI ps p.1) (fun q=>ob p.2.cells fun cc=>bif Nat.beq cc.length q.2 then(bif Nat.beq q.2 0 then none else ob (Ef cc q.1 cs) (NP ps l))else none)=some c from h)
   obtain⟨cc,k,h⟩:=aD.1 h
   obtain⟨A,h⟩:=bI.1 h
   obtain⟨i,h⟩:=jL.1 h
   obtain⟨C,z,h⟩:=aD.1 h
   have i:n.2≠0:=fun e=>by rw[e]at i;cases i
   obtain⟨⟨D,E⟩,B⟩:=Jf hr w k (Nat.eq_of_beq_eq_true A) i z
   obtain⟨f,r,s⟩:=Jh ⟨j.2,x⟩ B h
   refine⟨f,?_,s⟩
   rw[sC,j.1]at d
   show Instr.fill _ a ((q.1,q.2)::b)=_
   unfold Instr.fill
   have:ps.toArray[q.1]? = some n:=by simpa using d
   simp only[this]
   rw[if_neg (by simp only[ne_eq,Bool.or_eq_true,decide_eq_true_eq,not_or,Decidable.not_not];omega)]
   exact r
theorem tZ (f:eK P tb) {T:TypeId} {a:List GV} (h:Ac tb T=some a):∃d,tb T=some d∧qL P T d∧Qm ρ a d.zero.cells:=by
 obtain⟨d,b,h⟩:=aD.1 (show ob (tb T) _=some a from h)
 obtain⟨z,j,h⟩:=aD.1 h
 obtain⟨vs,e,i,c⟩:=(Od (ρ:=ρ) j).cells h
 exact⟨d,b,f.tab b,by rw[e];exact⟨i,c⟩⟩
theorem H_ (c:eK P tb):∀{b:List Field} {a:List (Nat×Nat)},KD tb b=some a->b.mapM (fun f=>(P.info? f.type).map fun i=>(f.offset,i.size))=some a
 | [],a,h=>by cases h;rfl
 |f::b,a,h=>by
  obtain⟨t,k,h⟩:=aD.1 (show ob (tb f.type) (fun t=>ob (KD tb b) fun r=>some ((f.offset,t.size)::r))=some a from h)
  obtain⟨r,e,h⟩:=aD.1 h
  cases h
  obtain⟨i,d,j,_,_⟩:=(c.tab k).info
  simp[List.mapM_cons,d,j,H_ c e]
theorem Jy (A:eK P tb) {T:TypeId} {l:List (Nat×GV)} {a:List (Nat×Value)} (K:Zp ρ l a) (h:UH tb T l=some g):AB P ρ (Instr.build T a.toArray) g:=by
 obtain⟨t,L,h⟩:=aD.1 (show ob (tb T) _=some g from h)
 obtain⟨zc,R,h⟩:=aD.1 h
 obtain⟨d,I,H,G⟩:=tZ (ρ:=ρ) A R
 rw[L]at I;cases I
 obtain⟨i,J,X,_,c⟩:=H.info
 have s:=H.und
 suffices hh:∃f,P.built T a=some f∧∃k,g = .agg k∧Qm ρ k f by
  obtain⟨f,O,k,rfl,n⟩:=hh
  refine⟨.agg f,?_,fun w=>run_build w T a.toArray f (by simpa using O)⟩
  have:=DT n.r n.one
  simpa using this
 cases q:tdF t.desc with
 | some M =>
  rw[q]at h
  obtain⟨S,m,h⟩:=aD.1 (show ob (Mn tb T) _=some g from h)
  obtain⟨cs,b,h⟩:=aD.1 h
  cases h
  obtain⟨F,B,m⟩:=aD.1 (show ob (pJ tb T) _=some S from m)
  have o:F=M.toList:=by
   obtain⟨Z,p,z⟩:=aD.1 (show ob (tb T) _=some F from B)
   rw[L]at p;cases p
   obtain⟨N,j,z⟩:=aD.1 z
   rw[q]at j;cases j;cases z;rfl
  subst o
  obtain⟨f,x,y⟩:=Jh K G b
  refine⟨f,?_,cs,rfl,y⟩
  rw[KO q]at s
  unfold Program.built
  simp only[J,s,c,H_ A m]
  exact x
 |none=>
  rw[q]at h
  obtain⟨e,Q,h⟩:=aD.1 (show ob (Zh t.desc) _=some g from h)
  obtain⟨te,E,h⟩:=aD.1 h
  obtain⟨cs,b,h⟩:=aD.1 h
  cases h
  obtain⟨f,x,y⟩:=Ct K G b
  refine⟨f,?_,cs,rfl,y⟩
  rw[Ov Q]at s
  obtain⟨Y,C,D,_,_⟩:=(A.tab E).info
  unfold Program.built
  simp only[J,s,c,C,D]
  exact x
end

def vF (ρ:dH) (w:World) (l:IM):GO->Prop
 | .cells cs=>∃(c:Array Value) (T:TypeId),w.heap[l.b]? = some (.cells c T (0,0))∧c.size=l.size∧l.off+cs.length<=l.size∧∀(i:Nat) g,cs[i]? = some g->∃v,c[l.off+i]? = some v∧Rl ρ g v∧one v=true
 | .mp es=>∃(en:Array MapEntry) (a:Nat),w.heap[l.b]? = some (.map en a)∧en.size=es.length∧∀(i:Nat) e,es[i]? = some e->∃m,en[i]? = some m∧Rl ρ e.1 m.key∧Rl ρ e.2 m.val
theorem vF.lt {ρ:dH} {w:World} {l:IM} {o:GO} (h:vF ρ w l o):l.b<w.heap.size:=by
 cases o with
 |cells cs=>obtain⟨a,T,h,_⟩:=h;exact(Array.getElem?_eq_some_iff.1 h).1
 |mp c=>obtain⟨a,T,h,_⟩:=h;exact(Array.getElem?_eq_some_iff.1 h).1
theorem vF.move {ρ d:dH} {w w':World} {l:IM} {o:GO} (h:vF ρ w l o) (q:ρ.le d) (e:w'.heap[l.b]? = w.heap[l.b]?):vF d w' l o:=by
 cases o with
 |cells cs=>obtain⟨f,T,j,k,n,s⟩:=h;exact⟨f,T,by rw[e];exact j,k,n,fun i g p=>let ⟨v,a,b,c⟩:=s i g p;⟨v,a,b.le q,c⟩⟩
 |mp t=>obtain⟨en,r,j,k,n⟩:=h;exact⟨en,r,by rw[e];exact j,k,fun i g p=>let ⟨m,a,b,c⟩:=n i g p;⟨m,a,b.le q,c.le q⟩⟩
structure wT where
 obs:List (Nat×Obj)
 env:List Value
def FD (gs:wT) (w:World) (O:Nat->Prop):Prop:=∀p∈gs.obs,w.heap[p.1]? = some p.2∧¬O p.1
structure eD (gs:wT) where
 w:World
 O:Nat->Prop
 ok:FD gs w O
def eD.mine {gs:wT} (b:eD gs) (k:Nat):Prop:=b.w.heap.size<=k∨b.O k
structure eT {gs:wT} (w0:eD gs) (ρ:dH) (H:GH) (w:World):Prop where
 ext:Ae w0.O w0.w w
 live:∀h o,H.get h=some o->∃l,ρ h=some l∧w0.mine l.b∧vF ρ w l o
 inj:∀h h' o o' l l',H.get h=some o->H.get h'=some o'->ρ h=some l->ρ h'=some l'->l.b=l'.b->h=h'
 fresh:∀h,H.n<=h->ρ h=none
 dense:∀h,h<H.n->∃l,ρ h=some l
 /-- the block holds what was written last -/
 vers:∀h v l,H.ver h=some v->ρ h=some l->∃lv,ρ v=some lv∧w.heap[l.b]? = some lv.x∧H.get h=some lv.o
 /-- the first handles stand for the open values -/
 env:∀i v,gs.env[i]? = some v->∃l,ρ i=some l∧l.x = .cells #[v] 0 (0,0)
theorem eT.lt {gs:wT} {d:eD gs} {w:World} {ρ:dH} {H:GH} (R:eT d ρ H w) {h:Nat} {o:GO} (c:H.get h=some o):h<H.n:=by
 rcases Nat.lt_or_ge h H.n with a|a
 ·exact a
 ·obtain⟨l,b,_⟩:=R.live h o c
  rw[R.fresh h a]at b;cases b
def JI (P:Program) {gs:wT} (b:eD gs) (ρ:dH) (s:Sem Value) (w:World) (g:GV) (H':GH):Prop:=∃v w' a,s.run P w = .ok v w'∧ρ.le a∧eT b a H' w'∧Rl a g v
def dH.upd (ρ:dH) (h:Nat) (l:IM):dH:=fun k=>if k=h then some l else ρ k
theorem vO {ρ:dH} {h:Nat} {l:IM} (b:ρ h=none):ρ.le (ρ.upd h l):=fun k x a=>by
 unfold dH.upd
 by_cases e:k=h
 ·subst e;rw[b]at a;cases a
 ·rw[if_neg e];exact a
theorem eT.new {gs:wT} {B:eD gs} {w w':World} {ρ:dH} {H:GH} (R:eT B ρ H w) {o:GO} {l:IM} (Q:Ae B.O B.w w') (C:∀h u k,H.get h=some u->ρ h=some k->w'.heap[k.b]? = w.heap[k.b]? ∧ k.b≠l.b) (L:B.mine l.b)
    (T:vF (ρ.upd H.n l) w' l o) (V:w'.heap[l.b]? = some l.x) (E:l.o=o:=by rfl):ρ.le (ρ.upd H.n l)∧eT B (ρ.upd H.n l) (H.new o) w':=by
  have m:ρ.le (ρ.upd H.n l):=vO (R.fresh _ (Nat.le_refl _))
  have S:∀h u,H.get h=some u->h≠H.n:=fun h u g=>Nat.ne_of_lt (R.lt g)
  have d:∀h,h≠H.n->(ρ.upd H.n l) h=ρ h:=fun h s=>by simp[dH.upd,s]
  have f:(ρ.upd H.n l) H.n=some l:=by simp[dH.upd]
  refine⟨m,Q,?_,?_,?_,?_,?_,fun i v e=>let ⟨l,a,b⟩:=R.env i v e;⟨l,m _ _ a,b⟩⟩
  · intro h u g
    rw[pA]at g
    by_cases e:h=H.n
    · subst e;rw[if_pos rfl]at g;cases g;exact⟨l,f,L,T⟩
    · rw[if_neg e]at g
      obtain⟨k,c,D,F⟩:=R.live h u g
      exact⟨k,by rw[d h e];exact c,D,F.move m (C h u k g c).1⟩
  · intro h y J K G I g j A c r
    rw[pA]at g j
    by_cases e:h=H.n
    · by_cases q:y=H.n
      · rw[e,q]
      · rw[if_neg q]at j
        rw[d y q]at c
        subst e;rw[f]at A;cases A
        exact absurd r.symm (C y K I j c).2
    · rw[if_neg e]at g
      rw[d h e]at A
      by_cases q:y=H.n
      · subst q;rw[f]at c;cases c
        exact absurd r (C h J G g A).2
      · rw[if_neg q]at j
        rw[d y q]at c
        exact R.inj h y J K G I g j A c r
  · intro h s
    have : h ≠ H.n := by have : H.n + 1 ≤ h := s
                         omega
    rw[d h this]
    exact R.fresh h (by have : H.n + 1 ≤ h := s
                        omega)
  · intro h s
    have s:h<H.n+1:=s
    by_cases e:h=H.n
    · subst e;exact⟨l,f⟩
    · rw[d h e];exact R.dense h (by omega)
  · intro h v k z c
    rw[Nl]at z
    by_cases e:h=H.n
    · subst e;rw[if_pos rfl]at z;cases z
      rw[f]at c;cases c
      exact⟨l,f,V,by rw[pA,if_pos rfl,E]⟩
    · rw[if_neg e]at z
      rw[d h e]at c
      obtain⟨W,M,N,P⟩:=R.vers h v k z c
      obtain⟨p,U,_⟩:=aD.1 (show ob (H.t.get h) _=some v from z)
      exact⟨W,m _ _ M,by rw[(C h p.2 k (by unfold GH.get;rw[U];rfl) c).1];exact N,by rw[pA,if_neg e];exact P⟩
theorem eT.set {gs:wT} {J:eD gs} {w w':World} {ρ:dH} {H:GH} (R:eT J ρ H w) {h:Nat} {o m:GO} {l:IM} {X:Obj} (s:H.get h=some o) (z:ρ h=some l) (T:Ae J.O J.w w') (Q:∀k,k≠l.b->w'.heap[k]? = w.heap[k]?) (V:vF ρ w' l m) (I:w'.heap[l.b]? = some X):
  ρ.le (ρ.upd H.n ⟨l.b,l.off,l.size,X,m⟩)∧eT J (ρ.upd H.n ⟨l.b,l.off,l.size,X,m⟩) (H.set h m) w':=by
 have f:ρ.le (ρ.upd H.n ⟨l.b,l.off,l.size,X,m⟩):=vO (R.fresh _ (Nat.le_refl _))
 have c:∀k,k≠H.n->(ρ.upd H.n ⟨l.b,l.off,l.size,X,m⟩) k=ρ k:=fun k g=>by simp[dH.upd,g]
 have j:(ρ.upd H.n ⟨l.b,l.off,l.size,X,m⟩) H.n=some ⟨l.b,l.off,l.size,X,m⟩:=by simp[dH.upd]
 have E:∀k x,(if k=h then some m else H.get k)=some x->∃y,H.get k=some y:=fun k x I=>by
  by_cases e:k=h
  ·subst e;exact⟨o,s⟩
  ·rw[if_neg e]at I;exact⟨x,I⟩
 refine⟨f,T,?_,?_,?_,?_,?_,fun i v e=>let ⟨l,a,b⟩:=R.env i v e;⟨l,f _ _ a,b⟩⟩
 ·intro k x g
  rw[qN]at g
  by_cases e:k=h
  ·subst e;rw[if_pos rfl]at g;cases g
   obtain⟨q,d,L,_⟩:=R.live k o s
   rw[z]at d;cases d
   exact⟨l,f _ _ z,L,V.move f rfl⟩
  ·rw[if_neg e]at g
   obtain⟨q,d,L,N⟩:=R.live k x g
   refine⟨q,f _ _ d,L,N.move f (Q _ fun K=>e (R.inj k h x o q l g s d z K))⟩
 ·intro k P o1 o2 Y Z F G A B M
  rw[qN]at F G
  obtain⟨y1,C⟩:=E k o1 F
  obtain⟨y2,D⟩:=E P o2 G
  rw[c k (Nat.ne_of_lt (R.lt C))]at A
  rw[c P (Nat.ne_of_lt (R.lt D))]at B
  exact R.inj k P y1 y2 Y Z C D A B M
 ·intro k g
  have U:H.n+1<=k:=g
  rw[c k (by omega)]
  exact R.fresh k (by omega)
 ·intro k g
  have g:k<H.n+1:=g
  by_cases e:k=H.n
  ·subst e;exact⟨_,j⟩
  ·rw[c k e];exact R.dense k (by omega)
 ·intro k v q r d
  rw[Nm]at r
  by_cases e:k=h
  ·subst e;rw[if_pos rfl]at r;cases r
   rw[c k (Nat.ne_of_lt (R.lt s)),z]at d;cases d
   exact⟨_,j,I,by rw[qN,if_pos rfl]⟩
  ·rw[if_neg e]at r
   obtain⟨p,W,_⟩:=aD.1 (show ob (H.t.get k) _=some v from r)
   have u:H.get k=some p.2:=by unfold GH.get;rw[W];rfl
   rw[c k (Nat.ne_of_lt (R.lt u))]at d
   obtain⟨lv,F,G,S⟩:=R.vers k v q r d
   exact⟨lv,f _ _ F,by rw[Q q.b fun K=>e (R.inj k h p.2 o q l u s d z K)];exact G,by rw[qN,if_neg e];exact S⟩
theorem eT.del {gs:wT} {g:eD gs} {w:World} {ρ:dH} {H:GH} (R:eT g ρ H w) (h:Nat):eT g ρ (H.del h) w:=by
 have b:∀k x,(H.del h).get k=some x->H.get k=some x:=fun k x a=>by
  rw[Dj]at a
  by_cases e:k=h
  ·rw[if_pos e]at a;cases a
  ·rw[if_neg e]at a;exact a
 exact⟨R.ext,fun k x a=>R.live k x (b k x a),fun k m q r n o d f=>R.inj k m q r n o (b _ _ d) (b _ _ f),R.fresh,R.dense,fun k v l c j=>by
  rw[Nk]at c
  by_cases e:k=h
  ·rw[if_pos e]at c;cases c
  ·rw[if_neg e]at c
   obtain⟨p,d,f,i⟩:=R.vers k v l c j
   exact⟨p,d,f,by rw[Dj,if_neg e];exact i⟩,R.env⟩
theorem eT.ext' {gs:wT} {f:eD gs} {w w':World} {ρ:dH} {H:GH} (R:eT f ρ H w) (e:JJ w w'):eT f ρ H w':=
 ⟨R.ext.trans e,fun h o j=>let ⟨l,a,b,c⟩:=R.live h o j;⟨l,a,b,c.move (dH.le_refl _) (e.block _ c.lt)⟩,R.inj,R.fresh,R.dense,fun h v l m k=>by
  obtain⟨n,g,d,i⟩:=R.vers h v l m k
  exact⟨n,g,(by rw[e.block _ (Array.getElem?_eq_some_iff.1 d).1];exact d),i⟩,R.env⟩
theorem eT.mono {gs b:wT} {g:eD gs} {d:eD b} {w w':World} {ρ a:dH} {H H':GH} (R:eT g ρ H w) (e:eT d a H' w') (c:ρ.le a):H.n<=H'.n:=by
 rcases Nat.lt_or_ge H'.n H.n with h|h
 ·obtain⟨l,f⟩:=R.dense _ h
  have:=e.fresh _ (Nat.le_refl _)
  rw[c _ _ f]at this;cases this
 ·exact h
def RB (ρ:dH) (H:GH) (k:Nat):Prop:=∃h o l,H.get h=some o∧ρ h=some l∧l.b=k
theorem eT.glo {gs:wT} {d:eD gs} {w:World} {ρ:dH} {H:GH} (R:eT d ρ H w):FD gs w (RB ρ H):=fun p k=>by
 obtain⟨f,g⟩:=d.ok p k
 have c:p.1<d.w.heap.size:=(Array.getElem?_eq_some_iff.1 f).1
 refine⟨by rw[R.ext.block p.1 c g];exact f,fun⟨h,o,l,i,j,e⟩=> ?_⟩
 obtain⟨m,b,a,_⟩:=R.live h o i
 rw[j]at b;cases b
 rw[e]at a
 rcases a with a|a
 ·omega
 ·exact g a
def eT.base {gs:wT} {a:eD gs} {w:World} {ρ:dH} {H:GH} (R:eT a ρ H w):eD gs:=⟨w,RB ρ H,R.glo⟩
def eD.of {gs:wT} (w:World) (h:FD gs w fun _=>False):eD gs:=⟨w,fun _=>False,h⟩
def YX:wT:=⟨[],[]⟩
def eD.one (w:World):eD YX:= .of w fun _ h=>absurd h List.not_mem_nil
theorem eT.rebase {gs:wT} {d:eD gs} {w:World} {ρ:dH} {H:GH} (R:eT d ρ H w):eT R.base ρ H w:=
 ⟨Ae.refl _,fun h o b=>let ⟨l,a,_,c⟩:=R.live h o b;⟨l,a,.inr ⟨h,o,l,b,a,rfl⟩,c⟩,R.inj,R.fresh,R.dense,R.vers,R.env⟩
theorem eT.back {gs:wT} {m:eD gs} {w w':World} {ρ d:dH} {H H':GH} (R:eT m ρ H w) (a:eT R.base d H' w'):eT m d H' w'∧∀k,k<w.heap.size->¬RB ρ H k->w'.heap[k]? = w.heap[k]?:=by
 have p:∀k,RB ρ H k->m.mine k:=fun k ⟨h,o,l,g,j,e⟩=>by
  obtain⟨r,c,b,_⟩:=R.live h o g
  rw[j]at c;cases c
  rw[<-e];exact b
 refine⟨⟨⟨a.ext.os.trans R.ext.os,a.ext.tape.trans R.ext.tape,a.ext.output.trans R.ext.output,Nat.le_trans R.ext.size a.ext.size,fun k f n=> ?_⟩,fun h o g=> ?_,a.inj,a.fresh,a.dense,a.vers,a.env⟩,fun k f i=>a.ext.block k f i⟩
 ·rw[a.ext.block k (Nat.lt_of_lt_of_le f R.ext.size) (fun i=>by rcases p k i with h|h;exact absurd h (by omega);exact n h)]
  exact R.ext.block k f n
 ·obtain⟨l,j,b,q⟩:=a.live h o g
  refine⟨l,j,?_,q⟩
  rcases b with b|b
  ·exact .inl (Nat.le_trans R.ext.size b)
  ·exact p _ b
section
variable {P:Program} {tb:TB} {ρ:dH} {V U W:Value} {v u t g:GV} {gs:wT} {w0:eD gs} {w:World} {H H':GH}
theorem eT.alloc (R:eT w0 ρ H w) {cs:List GV} {a:Array Value} (T:TypeId) (f:Qm ρ cs a):
  ∃b,ρ.le b∧b=ρ.upd H.n ⟨w.heap.size,0,a.size,.cells a T,.cells cs⟩∧eT w0 b (H.new (.cells cs)) (w.alloc (.cells a T)):=by
 have e:JJ w (w.alloc (.cells a T)):=(Below.refl _ _).alloc (Nat.le_refl _) _
 have h:=R.new (o:= .cells cs) (l:=⟨w.heap.size,0,a.size,.cells a T,.cells cs⟩) (R.ext.trans e) (fun h q s d p=>by
  obtain⟨l,c,_,m⟩:=R.live h q d
  rw[p]at c;cases c
  exact⟨e.block _ m.lt,Nat.ne_of_lt m.lt⟩) (.inl R.ext.size) (by
  refine⟨a,T,heap_alloc_new w _,rfl,by have:=f.r.len;simp at this;simp[this],fun i g d=> ?_⟩
  obtain⟨x,k,j⟩:=f.r.get d
  rw[Array.getElem?_toList]at k
  exact⟨x,by simpa using k,j.le (vO (R.fresh _ (Nat.le_refl _))),Kl f.one k⟩) (heap_alloc_new w _)
 exact⟨_,h.1,rfl,h.2⟩
theorem WS {T:TypeId} (R:eT w0 ρ H w) (j:Rl ρ v V) (h:Ox v H=some (g,H')):JI P w0 ρ (Instr.box T V) w g H':=by
 obtain⟨c,hc,h⟩:=aD.1 (show ob v.cells _=some (g,H')from h)
 rw[gT]at h;cases h
 obtain⟨vs,e,i,f⟩:=j.cells hc
 obtain⟨k,b,rfl,d⟩:=R.alloc T (cs:=c) (a:=V.cells) (by rw[e];exact⟨i,f⟩)
 refine⟨_,_,_,?_,b,d,.ptr (l:=⟨w.heap.size,0,V.cells.size,.cells V.cells T,.cells c⟩) 0 (by simp[dH.upd])⟩
 simp[Instr.box,newVar,newRow]
theorem FA (e:eK P tb) {T:TypeId} (R:eT w0 ρ H w) (h:u_ tb T H=some (g,H')):JI P w0 ρ (Instr.alloc T true (.tuple #[])) w g H':=by
 obtain⟨j,i,h⟩:=aD.1 (show ob (Ac tb T) _=some (g,H')from h)
 rw[gT]at h;cases h
 obtain⟨d,m,f,c⟩:=tZ (ρ:=ρ) e i
 obtain⟨k,a,rfl,b⟩:=R.alloc T c
 exact⟨_,_,_,Fu w f,a,b,.ptr (l:=⟨w.heap.size,0,d.zero.cells.size,.cells d.zero.cells T,.cells j⟩) 0 (by simp[dH.upd])⟩
theorem eT.cells (R:eT w0 ρ H w) {h:Nat} {cs:List GV} (hc:H.cells h=some cs) {l:IM} (b:ρ h=some l):vF ρ w l (.cells cs):=by
 obtain⟨d,a,_,c⟩:=R.live h _ (gC.1 hc)
 rw[b]at a;cases a;exact c
theorem Is (S:eK P tb) {T:TypeId} (R:eT w0 ρ H w) (O:Rl ρ v V) (h:vA tb T v H=some g):∃(x:Value) (p:Nat×Nat) (l:IM),v = .ptr p.1 p.2∧ρ p.1=some l∧(∃o,H.get p.1=some o)∧Rl ρ g x∧∀w',w'.heap[l.b]? = w.heap[l.b]? -> (Instr.loadAt T V).run P w' = .ok x w':=by
 obtain⟨p,N,h⟩:=aD.1 (show ob v.asP _=some g from h)
 obtain⟨cs,s,h⟩:=aD.1 h
 obtain⟨t,Z,h⟩:=aD.1 h
 have B:=BB N
 have z:=gC.1 s
 rw[BB N]at O
 obtain⟨l,G,rfl⟩:=O.ptr_inv
 obtain⟨E,T',K,Y,M,c⟩:=R.cells s G
 have J:=S.tab Z
 unfold zI at h
 cases D:uA t.desc with
 | true =>
  rw[D]at h
  obtain⟨r,X,h⟩:=aD.1 h
  cases h
  obtain⟨L,rfl⟩:=KE X
  let vs:=((E.toList.drop (l.off+p.2)).take t.size)
  have m:vs.length=t.size:=by simp[vs];omega
  have C:oS ρ ((cs.drop p.2).take t.size) vs:=⟨by rw[m];simp;omega,fun i a b d e=>by
   simp only[vs]at e
   rw[List.getElem?_take]at d e
   by_cases k:i<t.size
   ·rw[if_pos k,List.getElem?_drop]at d e
    obtain⟨x,q,F,_⟩:=c _ _ d
    rw[Array.getElem?_toList,show l.off+p.2+i=l.off+(p.2+i) by omega,q]at e
    cases e;exact F
   ·rw[if_neg k]at d;cases d⟩
  have A:∀x∈vs,one x=true:=fun x n=>by
   obtain⟨i,k⟩:=List.mem_iff_getElem?.1 n
   have I:=bA k
   have d:((cs.drop p.2).take t.size)[i]? = some (cs[p.2+i]'(by omega)):=by
    rw[List.getElem?_take,if_pos (by omega),List.getElem?_drop,List.getElem?_eq_getElem (by omega)]
   simp only[vs]at k
   rw[List.getElem?_take,if_pos (by omega),List.getElem?_drop,Array.getElem?_toList,show l.off+p.2+i=l.off+(p.2+i) by omega]at k
   obtain⟨y,q,_,Q⟩:=c (p.2+i) _ (List.getElem?_eq_getElem (by omega))
   rw[q]at k;cases k;exact Q
  refine⟨_,p,l,B,G,⟨_,z⟩,DT C A,fun w' f=> ?_⟩
  rw[K]at f
  refine xA J D m (fun j x n=> ?_)
  rw[dK]
  have I:=bA n
  simp only[vs]at n
  rw[List.getElem?_take,if_pos (by omega),List.getElem?_drop,Array.getElem?_toList]at n
  simp[World.cell?,f,n]
 |false=>
  rw[D]at h
  rw[cond_false,sC]at h
  obtain⟨x,q,F,_⟩:=c _ _ h
  exact⟨x,p,l,B,G,⟨_,z⟩,F,fun w' f=>wD J D (by rw[K]at f;simp[World.cell?,f,q])⟩
theorem FB (Y:eK P tb) {T:TypeId} (R:eT w0 ρ H w) (Q:Rl ρ v V) (hu:Rl ρ u U) (h:sE tb T v u H=some (g,H')):g = .un∧∃w' A,(Instr.storeAt T V U).run P w = .ok () w'∧ρ.le A∧eT w0 A H' w':=by
 obtain⟨p,hp,h⟩:=aD.1 (show ob v.asP _=some (g,H')from h)
 obtain⟨cs,m,h⟩:=aD.1 h
 obtain⟨t,ht,h⟩:=aD.1 h
 obtain⟨C,L,h⟩:=aD.1 h
 obtain⟨I,h⟩:=bI.1 h
 obtain⟨M,h⟩:=jL.1 h
 obtain⟨c1,q,h⟩:=aD.1 h
 rw[vK]at h
 cases h
 refine⟨rfl,?_⟩
 rw[BB hp]at Q
 obtain⟨l,G,rfl⟩:=Q.ptr_inv
 obtain⟨c,T',D,ac,O,j⟩:=R.cells m G
 obtain⟨us,X,s,f⟩:=hu.cells L
 have Z:=Y.tab ht
 have d:C.length=t.size:=Nat.eq_of_beq_eq_true I
 have ad:C.length=us.length:=s.len
 have J:C≠[]:=by intro e;rw[e]at d;simp at d;rw[<-d]at M;cases M
 obtain⟨p1,p2,p3⟩:=GB q
 have p1:=p1 J
 have r:=run_storeCells_at P l.b (l.off+p.2) T' us 0 c w D (by omega) (fun x n=>lC (f x n))
 simp only[Nat.add_zero]at r
 refine⟨w.setRow l.b (c.toList.take (l.off+p.2)++us++c.toList.drop (l.off+p.2+us.length)).toArray,_,?_,R.set (gC.1 m) G ?_ (fun k F=>setRow_other w l.b k _ F) ?_ (setRow_heap w l.b _ _ T' _ D)⟩
 ·have hs:=Z.run_size w
  simp only[Instr.storeAt,Instr.sureAddr,storeVar,X]
  have e:us.toArray.size=t.size:=by simp;omega
  simp[hs,e,r]
 ·obtain⟨l',o,a,_⟩:=R.live _ _ (gC.1 m)
  rw[G]at o;cases o
  exact⟨R.ext.os,R.ext.tape,R.ext.output,by simpa using R.ext.size,fun k F N=>by
   rw[setRow_other w l.b k _ (fun e=>by subst e;rcases a with a|a;exact absurd a (by omega);exact N a)];exact R.ext.block k F N⟩
 ·refine⟨_,T',setRow_heap w l.b _ _ T' _ D,?_,by omega,fun i x n=> ?_⟩
  ·simp;omega
  ·rw[p3 i]at n
   have aa:c.toList.length=c.size:=by simp
   have z:(c.toList.take (l.off+p.2)++us++c.toList.drop (l.off+p.2+us.length)).toArray[l.off+i]? = if p.2<=i∧i<p.2+us.length then us[i - p.2]? else c[l.off+i]?:=by
    rw[List.getElem?_toArray,List.append_assoc]
    by_cases E:i<p.2
    ·rw[if_neg (by omega),List.getElem?_append_left (by simp;omega),List.getElem?_take,if_pos (by omega),Array.getElem?_toList]
    ·rw[List.getElem?_append_right (by simp;omega),List.length_take]
     have S:min (l.off+p.2) c.toList.length=l.off+p.2:=by omega
     rw[S]
     by_cases ab:i<p.2+us.length
     ·rw[if_pos (by omega),List.getElem?_append_left (by omega)]
      congr 1;omega
     ·rw[if_neg (by omega),List.getElem?_append_right (by omega),List.getElem?_drop,Array.getElem?_toList]
      congr 1;omega
   by_cases E:p.2<=i∧i<p.2+C.length
   ·rw[if_pos E]at n
    obtain⟨y,B,K⟩:=s.get n
    exact⟨y,by rw[z,if_pos (by omega)];exact B,K,f y (List.mem_of_getElem? B)⟩
   ·rw[if_neg E]at n
    obtain⟨y,B,K⟩:=j i x n
    exact⟨y,by rw[z,if_neg (by omega)];exact B,K⟩
end
end
section
section
variable {P:Program} {tb:TB} {ρ:dH} {V U W:Value} {v u t g:GV} {gs:wT} {w0:eD gs} {w:World} {H H':GH}

theorem En (z:List GV):∀n,(Ni z n).length=n*z.length
 |0=>by show([]:List GV).length=_;simp
 |n+1=>by
  have:Ni z (n+1)=z++Ni z n:=rfl
  rw[this,List.length_append,En z n,Nat.add_mul];omega
theorem PK (z:List GV) (b:0<z.length):∀(n i:Nat),i<n*z.length->(Ni z n)[i]? = z[i%z.length]?
 |0,i,h=>by simp at h
 |n+1,i,h=>by
  have:Ni z (n+1)=z++Ni z n:=rfl
  rw[this]
  by_cases a:i<z.length
  ·rw[List.getElem?_append_left a,Nat.mod_eq_of_lt a]
  ·rw[List.getElem?_append_right (by omega),PK z b n (i - z.length) (by have:(n+1)*z.length=n*z.length+z.length:=Nat.succ_mul n z.length;omega),<-Nat.mod_eq_sub_mod (by omega)]
theorem GI {c:List GV} {z:Array Value} (f:Qm ρ c z) (l:0<c.length) (n:Nat):Qm ρ (Ni c n) ((Array.range (n*c.length)).map (z[· % z.size]!)):=by
 have o:c.length=z.size:=by have:=f.r.len;simpa using this
 have q:0<z.size:=by omega
 have d:∀i,i<n*c.length->z[i%z.size]? = some (z[i%z.size]!):=fun i _=>by
  have p:i%z.size<z.size:=Nat.mod_lt _ q
  rw[getElem!_pos z (i%z.size) p];simp
 refine⟨⟨by simp[En],fun i a b h m=> ?_⟩,fun x k=> ?_⟩
 ·have e:=bA h
  rw[En]at e
  rw[PK c l n i e]at h
  have j:some (z[i%z.size]!)=some b:=by
   rw[<-m,Array.getElem?_toList]
   simp[e]
  cases j
  refine f.r.at' (i%c.length) a _ h ?_
  rw[Array.getElem?_toList,o]
  exact d i e
 ·simp only[Array.toList_map,List.mem_map]at k
  obtain⟨i,e,rfl⟩:=k
  have e:i<n*c.length:=by simpa using e
  exact Kl f.one (d i e)
theorem Du {b:Nat}:∀{l:List (Nat×GV)} {a cs:List GV},Fe b l a=some cs->cs.length=a.length
 | [],a,cs,h=>by cases h;rfl
 |p::l,a,cs,h=>by
  obtain⟨cc,c,h⟩:=aD.1 (show ob p.2.cells (fun cc=>bif Nat.beq cc.length b then(bif Nat.beq b 0 then none else ob (Ef cc (Nat.mul p.1 b) a) (Fe b l))else none)=some cs from h)
  obtain⟨_,h⟩:=bI.1 h
  obtain⟨_,h⟩:=jL.1 h
  obtain⟨e,d,h⟩:=aD.1 h
  rw[Du h]
  exact(GB d).2.1
theorem Oy (hG:eK P tb) {T:TypeId} {n:Nat} {l:List (Nat×GV)} {parts:List (Nat×Value)} (R:eT w0 ρ H w) (hp:Zp ρ l parts) (h:CG tb T n l H=some (g,H')):JI P w0 ρ (Instr.buildSlice T n parts.toArray) w g H':=by
 obtain⟨te,hte,h⟩:=aD.1 (show ob (yF tb T) _=some (g,H')from h)
 obtain⟨zc,hz,h⟩:=aD.1 h
 obtain⟨hlen,h⟩:=bI.1 h
 obtain⟨hbig,h⟩:=bI.1 h
 obtain⟨h0,h⟩:=jL.1 h
 obtain⟨cs,hfill,h⟩:=aD.1 h
 rw[gT]at h;cases h
 obtain⟨⟨d,hd,hde⟩,hE,htab⟩:=vV hG hte
 obtain⟨dz,hdz,_,hC⟩:=tZ (ρ:=ρ) hG hz
 rw[htab]at hdz;cases hdz
 have hlen:zc.length=te.2.size:=Nat.eq_of_beq_eq_true hlen
 have h0:te.2.size≠0:=fun e=>by rw[e]at h0;cases h0
 have hbig:n*te.2.size<16777216:=by simpa [Nat.blt_eq]using hbig
 have hrep:=GI hC (by omega) n
 rw[hlen]at hrep
 obtain⟨a',f1,f2⟩:=Ct hp hrep hfill
 obtain⟨ρ',hle,rfl,R'⟩:=R.alloc te.1 f2
 have hsz:a'.size=n*te.2.size:=by
  have e1:=f2.r.len
  have:cs.length=(Ni zc n).length:=Du hfill
  rw[this,En,hlen]at e1
  simp at e1;omega
 refine⟨_,_,_,?_,hle,R',.sl (l:=⟨w.heap.size,0,a'.size,.cells a' te.1,.cells cs⟩) (cap:=n) (A:=⟨w.heap.size,0,none⟩) (by simp[dH.upd]) (Nat.le_refl _) (.inr ⟨rfl,by simp[hsz]⟩)⟩
 have hu:=hd.run_und w
 rw[hde]at hu
 by_cases hn:n*te.2.size=0
 ·have hz0:n=0:=by rcases Nat.mul_eq_zero.1 hn with h|h;exact h;exact absurd h h0
  subst hz0
  have e0:(Array.range (0*te.2.size)).map (te.2.zero.cells[· % te.2.zero.cells.size]!)=(#[]:Array Value):=by simp
  rw[e0]at f1
  have e1:(Array.range 0).map (fun _=>(default:Value)) = #[]:=by simp
  simp[Instr.buildSlice,hu,hE.run_size w,newRow]
  simp[e1,f1]
 ·simp[Instr.buildSlice,hu,hE.run_size w,hE.run_zero w,hn,f1,newRow,show¬(16777216<n*te.2.size) by omega]
theorem UL (D:eK P tb) {T:TypeId} (R:eT w0 ρ H w) (F:Rl ρ v V) (E:Rl ρ u U) (h:PZ tb T v u H=some (g,H')):JI P w0 ρ (Instr.makeSlice T V U) w g H':=by
 obtain⟨a,B,h⟩:=aD.1 (show ob (yF tb T) _=some (g,H')from h)
 obtain⟨I,Y,h⟩:=aD.1 h
 obtain⟨k,O,h⟩:=aD.1 h
 obtain⟨c,hc,h⟩:=aD.1 h
 obtain⟨f,h⟩:=bI.1 h
 obtain⟨n,Q,h⟩:=aD.1 h
 obtain⟨b,h⟩:=bI.1 h
 obtain⟨m,h⟩:=bI.1 h
 obtain⟨p,h⟩:=bI.1 h
 obtain⟨r,h⟩:=jL.1 h
 rw[Ph,gT]at h;cases h
 obtain⟨⟨d,N,x⟩,L,q⟩:=vV D B
 obtain⟨dz,o,_,K⟩:=tZ (ρ:=ρ) D Y
 rw[q]at o;cases o
 have b:I.length=a.2.size:=Nat.eq_of_beq_eq_true b
 have r:a.2.size≠0:=fun e=>by rw[e]at r;cases r
 have m:n*a.2.bytes<16777216:=by simpa [Nat.blt_eq]using m
 have p:n<16777216:=by simpa [Nat.blt_eq]using p
 rw[mK O]at F
 rw[mK hc]at E
 rw[Hz]at f
 have f:=of_decide_eq_true f
 rw[F.int_inv,E.int_inv,<-f,EP Q]
 have i:=GI K (by omega) n
 rw[b]at i
 obtain⟨Z,z,rfl,J⟩:=R.alloc a.1 i
 obtain⟨G,y,X,M,C⟩:=L.info
 have j:=N.und
 rw[x]at j
 have s:(G.bytes:Int)*(n:Int)<=281474976710656:=by
  have e:(a.2.bytes:Int)*(n:Int)=((n*a.2.bytes:Nat):Int):=by rw[Nat.mul_comm];simp
  rw[M,e];omega
 have S:=run_make (P:=P) w T a.1 G a.2.zero j y C k.1 c.1 n n (by omega) (Int.le_refl _) s (by omega)
 refine⟨_,_,_,?_,z,J,.sl (l:=⟨w.heap.size,0,((Array.range (n*a.2.size)).map (a.2.zero.cells[· % a.2.zero.cells.size]!)).size,.cells ((Array.range (n*a.2.size)).map (a.2.zero.cells[· % a.2.zero.cells.size]!)) a.1,.cells (Ni I n)⟩) (cap:=n) (A:=⟨w.heap.size,0,none⟩) (by simp[dH.upd]) (Nat.le_refl _) (.inr ⟨rfl,by simp⟩)⟩
 rw[S]
 simp[madeCells,X]

theorem Xo {o:Option GV} {O:Option Value} {d n:Nat} (e:(o=none∧O=none)∨∃g x,o=some g∧O=some x∧Rl ρ g x) (h:vB o d=some n):(o=none∧O=none∧n=d)∨∃k:IntKind,O=some (.int k n):=by
 rcases e with⟨rfl,rfl⟩|⟨g,x,rfl,rfl,b⟩
 ·cases h;exact .inl ⟨rfl,rfl,rfl⟩
 ·obtain⟨a,c,h⟩:=aD.1 (show ob g.asI _=some n from h)
  rw[mK c]at b
  exact .inr ⟨a.1,by rw[b.int_inv,EP h]⟩
def ZM (ρ:dH) (o:Option GV) (O:Option Value):Prop:=(o=none∧O=none)∨∃g x,o=some g∧O=some x∧Rl ρ g x
theorem AZ {sl:Bool} {len cap l h:Nat} {f e:Option GV} {LO d:Option Value} (c:ZM ρ f LO) (b:ZM ρ e d) (i:vB f 0=some l) (j:vB e len=some h) (a:l<=h) (hc:h<=cap) (w:World):
  (Instr.sliceBounds sl len cap LO d none).run P w = .ok (l,h,cap) w:=by
 rcases Xo c i with⟨_,rfl,rfl⟩|⟨k,rfl⟩<;>rcases Xo b j with⟨_,rfl,rfl⟩|⟨m,rfl⟩
 ·simp[Instr.sliceBounds]
 ·simp[Instr.sliceBounds,Instr.sliceBound,asIntOf,hc]
 ·simp[Instr.sliceBounds,Instr.sliceBound,asIntOf,a]
 ·simp[Instr.sliceBounds,Instr.sliceBound,asIntOf,a,hc]
theorem JB (hG:eK P tb) {T:TypeId} {lo hi:Option GV} {LO HI:Option Value} (R:(∃(w0:eD gs) (w:World),eT w0 ρ H w)∨∀t,tb T=some t->Zh t.desc=none) (hv:Rl ρ v V) (hlo:ZM ρ lo LO) (hhi:ZM ρ hi HI) (h:DI tb T v lo hi H=some g):AB P ρ (Instr.sliceAt T V LO HI none) g:=by
 obtain⟨l,hl,h⟩:=aD.1 (show ob (vB lo 0) _=some g from h)
 obtain⟨t,ht,h⟩:=aD.1 h
 have hT:=hG.tab ht
 cases hs:v.asStr with
 | some s =>
  rw[hs]at h
  obtain⟨e,he,h⟩:=aD.1 (show ob (vB hi s.2) _=some g from h)
  obtain⟨hd,h⟩:=bI.1 h
  obtain⟨hle,h⟩:=bI.1 (show(bif Nat.ble l e then _ else none)=some g from h)
  obtain⟨hlen,h⟩:=bI.1 h
  simp only[tY]at h
  cases h
  have hle:l<=e:=by simpa using hle
  have hlen:e<=s.2:=by simpa using hlen
  rw[oA hs]at hv
  obtain⟨r,rfl,e1,e2⟩:=hv.str_inv
  have hsz:r.size=s.2:=by rw[e2];exact Lib.size_eq r
  have hx:=Lib.extract_data r l e
  refine⟨.string (r.extract l e),?_,fun w=> ?_⟩
  ·have:Rl ρ (.str (kD (bE (r.extract l e))) (bE (r.extract l e)).length) (.string (r.extract l e)):= .str _
   have e3:bE (r.extract l e)=((bE r).drop l).take (e - l):=hx
   rw[e3]at this
   rw[e1,Tg]
   have e4:(((bE r).drop l).take (e - l)).length=Nat.sub e l:=by
    simp only[List.length_take,List.length_drop,<-e2]
    show _=e - l
    omega
   rw[e4]at this
   exact this
  ·have hu:=hT.run_und w
   rw[yX hd]at hu
   have hb:=AZ (P:=P) (sl:=false) (cap:=s.2) hlo hhi hl he hle hlen w
   simp[Instr.sliceAt,hu,Instr.slice,hsz,hb]
 | none =>
  rw[hs]at h
  cases hS:v.asS with
  | some s =>
   simp only[hS]at h
   obtain⟨E,hE,h⟩:=aD.1 (show ob (UW t.desc) _=some g from h)
   obtain⟨te,hte,h⟩:=aD.1 h
   obtain⟨e,he,h⟩:=aD.1 h
   obtain⟨hsz,h⟩:=bI.1 (show(bif Nat.beq te.size s.2.2.2 then _ else none)=some g from h)
   obtain⟨hle,h⟩:=bI.1 h
   obtain⟨hlen,h⟩:=bI.1 h
   simp only[tY]at h
   cases h
   have hsz:te.size=s.2.2.2:=Nat.eq_of_beq_eq_true hsz
   have hle:l<=e:=by simpa using hle
   have hlen:e<=s.2.2.1:=by simpa using hlen
   rw[zP hS]at hv
   obtain⟨lc,cap,A,hlc,rfl,hc,ha⟩:=hv.sl_inv
   refine⟨.slice (if cap=l then some A else(some A).map (·.add (l*te.size))) (e - l) (cap - l),?_,fun w=> ?_⟩
   ·have e1:(if cap=l then some A else(some A).map (·.add (l*te.size)))=some (if cap=l then A else A.add (l*te.size)):=by split<;>rfl
    rw[e1]
    refine .sl hlc (show e - l<=cap - l by omega) ?_
    by_cases hcl:cap - l=0
    ·exact .inl hcl
    ·right
     rw[if_neg (by omega)]
     rcases ha with ha|⟨rfl,hb⟩
     ·omega
     ·rw[dK]
      refine⟨by show _=(⟨lc.b,lc.off+(s.2.1+l*te.size),none⟩:Addr);rw[Nat.add_assoc],?_⟩
      have:cap*s.2.2.2=l*te.size+(cap - l)*te.size:=by rw[<-hsz,<-Nat.add_mul];congr 1;omega
      show lc.off+(s.2.1+l*te.size)+(cap - l)*te.size<=lc.size
      omega
   ·have hu:=hT.run_und w
    rw[DF hE]at hu
    have hb:=AZ (P:=P) (sl:=true) (cap:=cap) hlo hhi hl he hle (by omega) w
    simp[Instr.sliceAt,hu,Instr.slice,hb,(hG.tab hte).run_size w]
  | none =>
   simp only[hS]at h
   cases hz:v.isSnil with
   |true=>
    rw[hz]at h
    obtain⟨E,hE,h⟩:=aD.1 (show ob (UW t.desc) _=some g from h)
    obtain⟨te,hte,h⟩:=aD.1 h
    obtain⟨e,he,h⟩:=aD.1 h
    obtain⟨h0,h⟩:=bI.1 h
    obtain⟨h1,h⟩:=bI.1 h
    cases h
    have h0:l=0:=Nat.eq_of_beq_eq_true h0
    have h1:e=0:=Nat.eq_of_beq_eq_true h1
    subst h0 h1
    rw[tW hz]at hv
    rw[hv.snil_inv]
    refine⟨_,.snil,fun w=> ?_⟩
    have hu:=hT.run_und w
    rw[DF hE]at hu
    have hb:=AZ (P:=P) (sl:=true) (len:=0) (cap:=0) hlo hhi hl he (Nat.le_refl _) (Nat.le_refl _) w
    simp[Instr.sliceAt,hu,Instr.slice,hb,(hG.tab hte).run_size w]
   |false=>
   rw[hz]at h
   obtain⟨p,hp,h⟩:=aD.1 (show ob v.asP _=some g from h)
   obtain⟨E,hE,h⟩:=aD.1 h
   obtain⟨te,hte,h⟩:=aD.1 h
   obtain⟨e,he,h⟩:=aD.1 h
   obtain⟨cs,hcs,h⟩:=aD.1 h
   obtain⟨hfit,h⟩:=bI.1 h
   obtain⟨hle,h⟩:=bI.1 (show(bif Nat.ble l e then _ else none)=some g from h)
   obtain⟨hlen,h⟩:=bI.1 h
   obtain⟨h0,h⟩:=jL.1 h
   simp only[tY]at h
   cases h
   have hfit:p.2+E.1*te.size<=cs.length:=by simpa using hfit
   have hle:l<=e:=by simpa using hle
   have hlen:e<=E.1:=by simpa using hlen
   rw[BB hp]at hv
   obtain⟨lc,hlc,rfl⟩:=hv.ptr_inv
   rcases R with⟨w0,w,R⟩|R
   rotate_left
   ·rw[R t ht]at hE;cases hE
   obtain⟨cur,T',hb,hcs2,hfit2,_⟩:=R.cells hcs hlc
   refine⟨.slice (some (if E.1=l then⟨lc.b,lc.off+p.2,none⟩else Addr.add ⟨lc.b,lc.off+p.2,none⟩ (l*te.size))) (e - l) (E.1 - l),?_,fun w=> ?_⟩
   ·refine .sl hlc (show e - l<=E.1 - l by omega) ?_
    by_cases hcl:E.1 - l=0
    ·exact .inl hcl
    ·right
     rw[if_neg (by omega),dK]
     refine⟨by show _=(⟨lc.b,lc.off+(p.2+l*te.size),none⟩:Addr);rw[Nat.add_assoc],?_⟩
     have:E.1*te.size=l*te.size+(E.1 - l)*te.size:=by rw[<-Nat.add_mul];congr 1;omega
     show lc.off+(p.2+l*te.size)+(E.1 - l)*te.size<=lc.size
     omega
   ·have hu:=hT.run_und w
    rw[Ov hE]at hu
    have hb:=AZ (P:=P) (sl:=false) (cap:=E.1) hlo hhi hl he hle hlen w
    simp[Instr.sliceAt,hu,Instr.sureAddr,hb,(hG.tab hte).run_size w]
end
end
section
section
variable {P:Program} {tb:TB} {ρ:dH} {V U W:Value} {v u t g:GV} {gs:wT} {w0:eD gs} {w:World} {H H':GH}

structure Qe (ρ:dH) (w:World) (sz n:Nat) (r:List GV) (V:Value) (ns:List Value):Prop where
 rel:oS ρ r ns
 len:ns.length=n*sz
 one:∀x∈ns,Go.Sx.one x=true
 val:∃base cap,V = .slice base n cap∧n<=cap∧((base=none∧n=0∧cap=0)∨∃A,base=some A∧∀(j:Nat) x,ns[j]? = some x->w.cell? (A.add j)=some x)
theorem AM (R:eT w0 ρ H w) {m:Nat} {p:Nat×List GV} (F:Rl ρ v V) (h:rF H m v=some p):∃k,Qe ρ w m p.1 p.2 V k:=by
 unfold rF at h
 cases J:v.isSnil with
 |true=>
  rw[J]at h;cases h
  rw[tW J]at F
  exact⟨[],.nil,by simp,fun x f=>by simp at f,none,0,F.snil_inv,Nat.le_refl _,.inl ⟨rfl,rfl,rfl⟩⟩
 | false =>
  rw[J]at h
  obtain⟨s,Z,h⟩:=aD.1 (show ob v.asS _=some p from h)
  obtain⟨D,h⟩:=bI.1 h
  obtain⟨cs,G,h⟩:=aD.1 h
  obtain⟨r,Y,h⟩:=aD.1 h
  cases h
  have D:s.2.2.2=m:=Nat.eq_of_beq_eq_true D
  obtain⟨M,rfl⟩:=KE Y
  have M:s.2.1+s.2.2.1*m<=cs.length:=M
  rw[zP Z]at F
  obtain⟨l,cap,A,S,rfl,hc,L⟩:=F.sl_inv
  obtain⟨o,T,Q,I,N,e⟩:=R.cells G S
  let k:=(o.toList.drop (l.off+s.2.1)).take (s.2.2.1*m)
  have n:k.length=s.2.2.1*m:=by simp[k];omega
  have C:oS ρ ((cs.drop s.2.1).take (s.2.2.1*m)) k:=⟨by rw[n];simp;omega,fun i a b c d=>by
   simp only[k]at d
   rw[List.getElem?_take]at c d
   by_cases E:i<s.2.2.1*m
   ·rw[if_pos E,List.getElem?_drop]at c d
    obtain⟨x,q,z,_⟩:=e _ _ c
    rw[Array.getElem?_toList,show l.off+s.2.1+i=l.off+(s.2.1+i) by omega,q]at d
    cases d;exact z
   ·rw[if_neg E]at c;cases c⟩
  have B:∀(j:Nat) x,k[j]? = some x->j<s.2.2.1*m∧o[l.off+(s.2.1+j)]? = some x:=fun j x f=>by
   have X:=bA f
   simp only[k]at f
   rw[List.getElem?_take,if_pos (by omega),List.getElem?_drop,Array.getElem?_toList,show l.off+s.2.1+j=l.off+(s.2.1+j) by omega]at f
   exact⟨by omega,f⟩
  refine⟨k,C,n,fun x f=> ?_,_,cap,rfl,hc,.inr ⟨A,rfl,fun j x f=> ?_⟩⟩
  ·obtain⟨i,E⟩:=List.mem_iff_getElem?.1 f
   obtain⟨q,z⟩:=B i x E
   obtain⟨y,K,_,O⟩:=e (s.2.1+i) _ (List.getElem?_eq_getElem (by omega))
   rw[z]at K;cases K;exact O
  ·obtain⟨q,z⟩:=B j x f
   rcases L with L|⟨rfl,_⟩
   ·have:s.2.2.1=0:=by omega
    rw[this]at q;simp at q
   ·rw[dK,show l.off+s.2.1+j=l.off+(s.2.1+j) by omega]
    simp[World.cell?,Q,z]
theorem Qe.src {d n:Nat} {r:List GV} {b:List Value} (h:Qe ρ w d n r V b) {T E:TypeId} (c:P.underlying T=some (.slice E)):Src P d T V n b w:=by
 obtain⟨base,cap,rfl,_,e⟩:=h.val
 have a:∀x∈b,x.oneCell'=true:=fun x f=>lC (h.one x f)
 rcases e with⟨rfl,rfl,rfl⟩|⟨A,rfl,hc⟩
 ·have:b=[]:=List.eq_nil_of_length_eq_zero (by have:=h.len;simpa using this)
  subst this
  exact Src.ofNil w c 0
 ·exact Src.ofSlice w c A n cap b h.len hc a
theorem Qe.old {b n:Nat} {r:List GV} {a:List Value} (h:Qe ρ w b n r V a):(Builtin.firstCells b n V).run P w.drew = .ok a.toArray w.drew:=by
 obtain⟨base,cap,rfl,_,c⟩:=h.val
 rcases c with⟨rfl,rfl,rfl⟩|⟨A,rfl,hc⟩
 ·have:a=[]:=List.eq_nil_of_length_eq_zero (by have:=h.len;simpa using this)
  subst this
  exact run_firstCells_none w.drew b 0 0 0
 ·exact run_firstCells_some w.drew b n A n cap a h.len hc
theorem eT.alloc' (R:eT w0 ρ H w) {cs:List GV} {a:Array Value} (T:TypeId) (f:cs.length<=a.size) (p:∀(i:Nat) g,cs[i]? = some g->∃x,a[i]? = some x∧Rl ρ g x∧one x=true):
  ∃b,ρ.le b∧b=ρ.upd H.n ⟨w.heap.size,0,a.size,.cells a T,.cells cs⟩∧eT w0 b (H.new (.cells cs)) (w.alloc (.cells a T)):=by
 have e:JJ w (w.alloc (.cells a T)):=(Below.refl _ _).alloc (Nat.le_refl _) _
 have h:=R.new (o:= .cells cs) (l:=⟨w.heap.size,0,a.size,.cells a T,.cells cs⟩) (R.ext.trans e) (fun h r s d f=>by
  obtain⟨l,c,_,k⟩:=R.live h r d
  rw[f]at c;cases c
  exact⟨e.block _ k.lt,Nat.ne_of_lt k.lt⟩) (.inl R.ext.size) (by
  refine⟨a,T,heap_alloc_new w _,rfl,by simpa using f,fun i g d=> ?_⟩
  obtain⟨x,q,j,m⟩:=p i g d
  exact⟨x,by simpa using q,j.le (vO (R.fresh _ (Nat.le_refl _))),m⟩) (heap_alloc_new w _)
 exact⟨_,h.1,rfl,h.2⟩
theorem NJ {e:Nat} {p:Nat×List GV} {s:Nat×Nat×Nat×Nat} (h:rF H e v=some p) (f:v.asS=some s):s.2.2.2=e∧∃cs,H.cells s.1=some cs∧s.2.1+s.2.2.1*e<=cs.length∧p.1=s.2.2.1:=by
 unfold rF at h
 have c:v.isSnil=false:=by rw[zP f];rfl
 rw[c]at h
 obtain⟨j,a,h⟩:=aD.1 (show ob v.asS _=some p from h)
 rw[f]at a;cases a
 obtain⟨d,h⟩:=bI.1 h
 obtain⟨cs,b,h⟩:=aD.1 h
 obtain⟨r,i,h⟩:=aD.1 h
 cases h
 exact⟨Nat.eq_of_beq_eq_true d,cs,b,(KE i).1,rfl⟩
theorem Qr (R:eT w0 ρ H w) {z a k f m cap:Nat} {l:IM} {cs p2 q:List GV} {aa d:List Value} (s:H.cells z=some cs) (T:ρ z=some l) (C:Qe ρ w f k p2 (.slice (some ⟨l.b,l.off+a,none⟩) k cap) aa)
  (r2:oS ρ q d) (l2:d.length=m*f) (o2:∀x∈d,one x=true) (B:k+m<=cap) (K:l.off+a+cap*f<=l.size):
  ∃c T',w.heap[l.b]? = some (.cells c T' (0,0))∧l.off+a+cap*f<=c.size∧ρ.le (ρ.upd H.n ⟨l.b,l.off+a,l.size,(.cells (c.toList.take (l.off+a+k*f)++d++c.toList.drop (l.off+a+k*f+d.length)).toArray T'),.cells (p2++q)⟩)∧
   eT w0 (ρ.upd H.n ⟨l.b,l.off+a,l.size,(.cells (c.toList.take (l.off+a+k*f)++d++c.toList.drop (l.off+a+k*f+d.length)).toArray T'),.cells (p2++q)⟩) ((H.del z).new (.cells (p2++q))) (w.setRow l.b (c.toList.take (l.off+a+k*f)++d++c.toList.drop (l.off+a+k*f+d.length)).toArray):=by
 obtain⟨c,T',J,Z,ac,O⟩:=R.cells s T
 have ad:k*f+m*f<=cap*f:=by rw[<-Nat.add_mul];exact Nat.mul_le_mul_right _ B
 have ae:c.toList.length=c.size:=by simp
 obtain⟨l0,E,p,_⟩:=R.live _ _ (gC.1 s)
 rw[T]at E;cases E
 have l1:=C.len
 have e1:p2.length=k*f:=by rw[C.rel.len];exact l1
 have e2:q.length=m*f:=by rw[r2.len];exact l2
 have r:=(R.del z).new (o:= .cells (p2++q)) (l:=⟨l.b,l.off+a,l.size,(.cells (c.toList.take (l.off+a+k*f)++d++c.toList.drop (l.off+a+k*f+d.length)).toArray T'),.cells (p2++q)⟩)
  (w':=w.setRow l.b (c.toList.take (l.off+a+k*f)++d++c.toList.drop (l.off+a+k*f+d.length)).toArray)
  ⟨R.ext.os,R.ext.tape,R.ext.output,by simpa using R.ext.size,fun k hk hO=>by
   rw[setRow_other w l.b k _ (fun e=>by subst e;rcases p with j|j;exact absurd j (by omega);exact hO j)];exact R.ext.block k hk hO⟩
  (fun h o' l' D X=>by
   rw[Dj]at D
   by_cases e:h=z
   ·rw[if_pos e]at D;cases D
   ·rw[if_neg e]at D
    have G:l'.b≠l.b:=fun e'=>e (R.inj h z o' _ l' l D (gC.1 s) X T e')
    exact⟨setRow_other w l.b l'.b _ G,G⟩) p (by
   refine⟨_,T',setRow_heap w l.b _ _ T' _ J,?_,?_,fun i x hx=> ?_⟩
   ·simp;omega
   ·show l.off+a+(p2++q).length<=l.size
    rw[List.length_append,e1,e2];omega
   ·have F:ρ.le (ρ.upd (H.del z).n ⟨l.b,l.off+a,l.size,(.cells (c.toList.take (l.off+a+k*f)++d++c.toList.drop (l.off+a+k*f+d.length)).toArray T'),.cells (p2++q)⟩):=vO (R.fresh _ (Nat.le_refl _))
    have S:=bA hx
    rw[List.length_append,e1,e2]at S
    obtain⟨y,I,hr⟩:=(C.rel.append r2).get hx
    refine⟨y,?_,hr.le F,?_⟩
    ·show(c.toList.take (l.off+a+k*f)++d++c.toList.drop (l.off+a+k*f+d.length)).toArray[l.off+a+i]? = some y
     rw[List.getElem?_toArray,List.append_assoc]
     by_cases hi:i<k*f
     ·rw[List.getElem?_append_left (by simp;omega),List.getElem?_take,if_pos (by omega),Array.getElem?_toList]
      rw[List.getElem?_append_left (by omega)]at I
      obtain⟨L,ab,N,_,Q⟩:=C.val
      cases N
      rcases Q with⟨h1,_⟩|⟨A,hA,M⟩
      ·cases h1
      ·cases hA
       have:=M i y I
       rw[dK]at this
       simpa [World.cell?,J]using this
     ·rw[List.getElem?_append_right (by simp;omega),List.length_take,show min (l.off+a+k*f) c.toList.length=l.off+a+k*f by omega]
      rw[List.getElem?_append_right (by omega),l1]at I
      rw[List.getElem?_append_left (by omega)]
      rw[<-I];congr 1;omega
    ·rcases List.mem_append.1 (List.mem_of_getElem? I)with Y|Y
     ·exact C.one y Y
     ·exact o2 y Y) (setRow_heap w l.b _ _ T' _ J)
 exact⟨c,T',J,by omega,r.1,r.2⟩
theorem UD (D:eK P tb) {T T' ty:TypeId} (R:eT w0 ρ H w) (hv:Rl ρ v V) (Z:Rl ρ u U) (h:UC tb T T' v u H=some (g,H')):JI P w0 ρ (Builtin.append_ #[T,T'] ty #[V,U]) w g H':=by
 unfold UC at h
 obtain⟨N,h⟩:=bI.1 h
 obtain⟨b,M,h⟩:=aD.1 h
 obtain⟨t',L,h⟩:=aD.1 h
 obtain⟨kn,I,h⟩:=aD.1 h
 obtain⟨B,hz,h⟩:=aD.1 h
 obtain⟨k,hk,h⟩:=aD.1 h
 obtain⟨n,hn,h⟩:=aD.1 h
 obtain⟨f,h⟩:=bI.1 h
 obtain⟨m,h⟩:=bI.1 h
 obtain⟨C,h⟩:=jL.1 h
 obtain⟨p,h⟩:=jL.1 h
 rw[Ph,gT]at h;cases h
 obtain⟨⟨d,hd,E⟩,hE,z⟩:=vV D M
 obtain⟨dz,q,_,Y⟩:=tZ (ρ:=ρ) D hz
 rw[z]at q;cases q
 have f:B.length=b.2.size:=Nat.eq_of_beq_eq_true f
 have C:b.2.size≠0:=fun e=>by rw[e]at C;cases C
 have p:n≠0:=fun e=>by rw[e]at p;cases p
 have m:n*(b.2.bytes+1)<16777216:=by simpa [Nat.blt_eq]using m
 have aa:n*b.2.bytes+n<16777216:=by rw[Nat.mul_add,Nat.mul_one]at m;exact m
 rw[tW N]at hv
 have hV:=hv.snil_inv
 subst hV
 rw[mK hk]at Z
 rw[Z.int_inv,EP hn]
 obtain⟨iE,G,hs,hb,X⟩:=hE.info
 have o:=hd.und
 rw[E]at o
 have j:=(D.tab L).und
 rw[DD I]at j
 have hr:=Lib.run_append_nil_zeros (P:=P) w T T' ty b.1 iE b.2.zero k.1 kn o j G X n (by omega) (by omega) (by omega) (by rw[hb];omega)
 have A:b.2.zero.cells.size=b.2.size:=by have:=Y.r.len;simp at this;omega
 have F:=grownCap_ge w n 0 b.1
 have c:=GI Y (by omega) n
 have s:=c.r.len
 have hx:Builtin.zeroCells b.2.zero.cells n=(Array.range (n*B.length)).map (b.2.zero.cells[· % b.2.zero.cells.size]!):=by
  unfold Builtin.zeroCells
  rw[A,f]
 rw[<-hx]at c s
 obtain⟨ab,J,rfl,R'⟩:=R.alloc' (cs:=Ni B n) (a:=Builtin.zeroCells b.2.zero.cells n++Builtin.zeroCells b.2.zero.cells (grownCap w n 0 b.1 - n)) b.1 (by
   simp only[Array.size_append];have:(Ni B n).length=(Builtin.zeroCells b.2.zero.cells n).size:=by simpa using s
   omega) (fun i x O=>by
  obtain⟨y,Q,K⟩:=c.r.get O
  have S:(Builtin.zeroCells b.2.zero.cells n)[i]? = some y:=by simpa using Q
  exact⟨y,by rw[Array.getElem?_append_left (by simpa using bA Q)];exact S,K,c.one y (by simpa using List.mem_of_getElem? Q)⟩)
 refine⟨_,_,_,hr,J,R'.ext' ((Below.refl _ _).drew),?_⟩
 refine .sl (l:=⟨w.heap.size,0,(Builtin.zeroCells b.2.zero.cells n++Builtin.zeroCells b.2.zero.cells (grownCap w n 0 b.1 - n)).size,.cells (Builtin.zeroCells b.2.zero.cells n++Builtin.zeroCells b.2.zero.cells (grownCap w n 0 b.1 - n)) b.1,.cells (Ni B n)⟩) (by simp[dH.upd]) F (.inr ⟨rfl,?_⟩)
 simp only[Array.size_append,size_zeroCells,A]
 have:grownCap w n 0 b.1*b.2.size=n*b.2.size+(grownCap w n 0 b.1 - n)*b.2.size:=by
  rw[<-Nat.add_mul];congr 1;omega
 omega
theorem eT.put (R:eT w0 ρ H w) {B o:Nat} {cs r I:List GV} {l:IM} {us:List Value} (f:H.cells B=some cs) (E:ρ B=some l) (n:oS ρ r us) (j:∀x∈us,one x=true) (m:Ef r o cs=some I) (F:r≠[]):
  ∃a T',w.heap[l.b]? = some (.cells a T' (0,0))∧l.off+o+us.length<=a.size∧∃s,ρ.le s∧eT w0 s (H.set B (.cells I)) (w.setRow l.b (a.toList.take (l.off+o)++us++a.toList.drop (l.off+o+us.length)).toArray):=by
 obtain⟨a,T',A,O,K,d⟩:=R.cells f E
 have Q:r.length=us.length:=n.len
 obtain⟨p1,p2,p3⟩:=GB m
 have p1:=p1 F
 refine⟨a,T',A,by omega,_,R.set (gC.1 f) E ?_ (fun k D=>setRow_other w l.b k _ D) ?_ (setRow_heap w l.b _ _ T' _ A)⟩
 ·obtain⟨S,h,c,_⟩:=R.live _ _ (gC.1 f)
  rw[E]at h;cases h
  exact⟨R.ext.os,R.ext.tape,R.ext.output,by simpa using R.ext.size,fun k D J=>by
   rw[setRow_other w l.b k _ (fun e=>by subst e;rcases c with c|c;exact absurd c (by omega);exact J c)];exact R.ext.block k D J⟩
 ·refine⟨_,T',setRow_heap w l.b _ _ T' _ A,?_,by omega,fun i x p=> ?_⟩
  ·simp;omega
  ·rw[p3 i]at p
   have M:a.toList.length=a.size:=by simp
   have q:(a.toList.take (l.off+o)++us++a.toList.drop (l.off+o+us.length)).toArray[l.off+i]? = if o<=i∧i<o+us.length then us[i - o]? else a[l.off+i]?:=by
    rw[List.getElem?_toArray,List.append_assoc]
    by_cases C:i<o
    ·rw[if_neg (by omega),List.getElem?_append_left (by simp;omega),List.getElem?_take,if_pos (by omega),Array.getElem?_toList]
    ·rw[List.getElem?_append_right (by simp;omega),List.length_take]
     have L:min (l.off+o) a.toList.length=l.off+o:=by omega
     rw[L]
     by_cases N:i<o+us.length
     ·rw[if_pos (by omega),List.getElem?_append_left (by omega)]
      congr 1;omega
     ·rw[if_neg (by omega),List.getElem?_append_right (by omega),List.getElem?_drop,Array.getElem?_toList]
      congr 1;omega
   by_cases C:o<=i∧i<o+r.length
   ·rw[if_pos C]at p
    obtain⟨y,z,G⟩:=n.get p
    exact⟨y,by rw[q,if_pos (by omega)];exact z,G,j y (List.mem_of_getElem? z)⟩
   ·rw[if_neg C]at p
    obtain⟨y,z,G⟩:=d i x p
    exact⟨y,by rw[q,if_neg (by omega)];exact z,G⟩
theorem UI (hG:eK P tb) {T T' ty:TypeId} (R:eT w0 ρ H w) (hv:Rl ρ v V) (hu:Rl ρ u U) (h:Xq tb T v u H=some (g,H')):JI P w0 ρ (Builtin.copy_ #[T,T'] ty #[V,U]) w g H':=by
 obtain⟨s,hs,h⟩:=aD.1 (show ob v.asS _=some (g,H')from h)
 obtain⟨r,hr,h⟩:=aD.1 h
 obtain⟨f,X,h⟩:=aD.1 h
 obtain⟨D,h⟩:=bI.1 h
 obtain⟨m,h⟩:=bI.1 h
 obtain⟨c,h⟩:=bI.1 h
 obtain⟨cs,L,h⟩:=aD.1 h
 obtain⟨xs,Y,h⟩:=aD.1 h
 obtain⟨ds,M,h⟩:=aD.1 h
 have D:s.2.2.2=f.2.size:=Nat.eq_of_beq_eq_true D
 have m:r.2.2.2=f.2.size:=Nat.eq_of_beq_eq_true m
 have c:r.2.2.1=s.2.2.1:=Nat.eq_of_beq_eq_true c
 cases xs with
 |nil=>cases h
 | cons x0 xs0 =>
  obtain⟨c1,B,h⟩:=aD.1 (show ob (Ef (x0::xs0) s.2.1 ds) _=some (g,H')from h)
  rw[vK]at h
  cases h
  have k:rF H f.2.size u=some (r.2.2.1,x0::xs0):=by
   unfold rF
   rw[zP hr]
   have J:Nat.beq f.2.size f.2.size=true:=by simp
   show ob (some r) (fun s=>bif Nat.beq s.2.2.2 f.2.size then _ else none)=_
   show(bif Nat.beq r.2.2.2 f.2.size then ob (H.cells r.1) (fun cs=>ob (ZA cs r.2.1 (Nat.mul r.2.2.1 f.2.size)) fun q=>some (r.2.2.1,q))else none)=_
   rw[m,J,cond_true,L]
   show ob (ZA cs r.2.1 (Nat.mul r.2.2.1 f.2.size)) _=_
   rw[Y];rfl
  obtain⟨Z,n⟩:=AM R hu k
  obtain⟨⟨d,hd,p⟩,hE,ab⟩:=vV hG X
  rw[zP hs]at hv
  obtain⟨l,cap,A,hl,rfl,hc,ha⟩:=hv.sl_inv
  have S:x0::xs0≠[]:=by simp
  obtain⟨G,T2,J,y,aa,Q,R'⟩:=R.put M hl n.rel n.one B S
  have a:=n.len
  have i:Z.length≠0:=by have:=n.rel.len;simp at this;omega
  have hA:A=⟨l.b,l.off+s.2.1,none⟩:=by
   rcases ha with ha|⟨e,_⟩
   ·exfalso
    have:s.2.2.1=0:=by omega
    rw[c,this]at a;simp at a;exact i (by simp[a])
   ·exact e
  subst hA
  have F:=hd.und
  rw[p]at F
  have E:=run_storeCells_at P l.b (l.off+s.2.1) T2 Z 0 G w J (by simpa using y) (fun x hx=>lC (n.one x hx))
  simp only[Nat.add_zero]at E
  obtain⟨base,o,I,K,N⟩:=n.val
  subst I
  rcases N with⟨_,h0,_⟩|⟨A2,rfl,j⟩
  ·exfalso;rw[h0]at a;simp at a;exact i (by simp[a])
  have O:=run_firstCells_some (P:=P) w f.2.size r.2.2.1 A2 r.2.2.1 o Z a j
  have C:=hd.run_und w
  rw[p]at C
  refine⟨_,_,aa,?_,Q,R',.int _ _⟩
  have z:Nat.min r.2.2.1 s.2.2.1=r.2.2.1:=by rw[c];exact Nat.min_self _
  simp[Builtin.copy_,C,Builtin.lenOf,hE.run_size w,z,O,E,goInt]
theorem WR (hG:eK P tb) {T T' ty:TypeId} (R:eT w0 ρ H w) (hv:Rl ρ v V) (hu:Rl ρ u U) (h:UB tb T T' v u H=some (g,H')):JI P w0 ρ (Builtin.append_ #[T,T'] ty #[V,U]) w g H':=by
 unfold UB at h
 cases hTT:Nat.beq T T' with
 |false=>rw[hTT]at h;exact UD hG R hv hu h
 |true=>
 rw[hTT]at h
 have hTT:T=T':=Nat.eq_of_beq_eq_true hTT
 subst hTT
 rw[cond_true]at h
 obtain⟨te,hte,h⟩:=aD.1 h
 obtain⟨h0,h⟩:=jL.1 h
 obtain⟨zc,hz,h⟩:=aD.1 h
 obtain⟨hzl,h⟩:=bI.1 h
 obtain⟨p,hp,h⟩:=aD.1 h
 obtain⟨q,hq,h⟩:=aD.1 h
 obtain⟨⟨d,hd,hde⟩,hE,htab⟩:=vV hG hte
 obtain⟨dz,hdz,_,hC⟩:=tZ (ρ:=ρ) hG hz
 rw[htab]at hdz;cases hdz
 have hzl:zc.length=te.2.size:=Nat.eq_of_beq_eq_true hzl
 have hzs:te.2.zero.cells.size=te.2.size:=by have:=hC.r.len;simp at this;omega
 have h0:te.2.size≠0:=fun e=>by rw[e]at h0;cases h0
 obtain⟨ns1,c1⟩:=AM R hv hp
 obtain⟨ns2,c2⟩:=AM R hu hq
 have hund:=hd.und
 rw[hde]at hund
 have src:=c2.src (P:=P) (T:=T) hund
 obtain⟨base,cap,hV,hcap,hbase⟩:=c1.val
 cases hq1:q.1 with
 |zero=>
  rw[hq1]at h
  cases h
  rw[hq1]at src
  have hns:ns2=[]:=List.eq_nil_of_length_eq_zero (by have:=c2.len;rw[hq1]at this;simpa using this)
  subst hns
  refine⟨V,w,ρ,?_,dH.le_refl _,R,hv⟩
  have hru:=hd.run_und w
  rw[hde]at hru
  have hlen:=src.len w
  have hcl:=src.cells
  subst hV
  cases base with
  |none=>simp[Builtin.append_,hru,hE.run_size w,hlen,hcl,hcap]
  |some A=>simp[Builtin.append_,hru,hE.run_size w,hlen,hcl,hcap,storeCells]
 | succ m =>
  rw[hq1]at h
  simp only[tY]at h
  obtain⟨hbig,h⟩:=bI.1 h
  rw[YN,Tf,gT]at h
  cases h
  have hbig:(p.1+q.1)*(te.2.bytes+1)<16777216:=by rw[hq1];simpa [Nat.blt_eq]using hbig
  have hb1:(p.1+q.1)*te.2.bytes+(p.1+q.1)<16777216:=by rw[Nat.mul_add,Nat.mul_one]at hbig;exact hbig
  have hq1':Nat.add p.1 (m+1)=p.1+q.1:=by rw[hq1];rfl
  have hrell:oS ρ (p.2++q.2) (ns1++ns2):=c1.rel.append c2.rel
  have hlen12:(p.2++q.2).length=(p.1+q.1)*te.2.size:=by
   rw[hrell.len,List.length_append,c1.len,c2.len,<-Nat.add_mul]
  have hone12:∀x∈ns1++ns2,one x=true:=fun x hx=>by
   rcases List.mem_append.1 hx with hx|hx
   ·exact c1.one x hx
   ·exact c2.one x hx
  by_cases hroom:p.1+q.1<=cap
  ·
   have hvs:∃s,v.asS=some s:=by
    cases hzz:v.isSnil with
    |true=>
     rw[tW hzz]at hv
     have:=hv.snil_inv
     rw[hV]at this
     injection this with _ _ e3
     omega
    |false=>
     unfold rF at hp
     rw[hzz]at hp
     obtain⟨s,hs,_⟩:=aD.1 (show ob v.asS _=some p from hp)
     exact⟨s,hs⟩
   obtain⟨s,hs⟩:=hvs
   obtain⟨hsz,cs,hcs,hbb,hp1⟩:=NJ hp hs
   rw[zP hs]at hv
   obtain⟨l,cap',A,hl,hV',hc,ha⟩:=hv.sl_inv
   rw[hV]at hV'
   injection hV' with e1 e2 e3
   subst e1 e3
   rcases ha with ha|⟨rfl,hbound⟩
   ·omega
   rw[hsz]at hbound
   have c1':=c1
   rw[hV]at c1'
   obtain⟨cur,T',hh,hcs2,hle,R'⟩:=Qr R hcs hl c1' c2.rel c2.len c2.one hroom hbound
   have hr:=HZ (P:=P) (ty:=ty) hd hde hE hh src hroom hcs2
   have hdel:NK H v=H.del s.1:=by unfold NK;rw[hs]
   rw[hdel,hV]
   refine⟨_,_,_,hr,hle,R',?_⟩
   rw[hq1']
   exact .sl (l:=⟨l.b,l.off+s.2.1,l.size,_,_⟩) (by show(if H.n=H.n then _ else _)=_;exact if_pos rfl) hroom (.inr ⟨rfl,by show l.off+s.2.1+0+cap*te.2.size<=l.size;omega⟩)
  ·
   have hR':eT w0 ρ (NK H v) w.drew:=by
    have:eT w0 ρ (NK H v) w:=by
     unfold NK
     cases v.asS with
     |none=>exact R
     |some s=>exact R.del s.1
    exact this.ext' ((Below.refl _ _).drew)
   have hr:=MB (P:=P) (ty:=ty) hd hde hE (base:=base) (by rw[<-hV];exact c1.old) src (by omega) (by omega) (by omega)
   have hge:=grownCap_ge w (p.1+q.1) cap te.1
   have hn1:(ns1++ns2).length=(p.1+q.1)*te.2.size:=by rw[<-hrell.len];exact hlen12
   obtain⟨ρ',hle,rfl,R'⟩:=hR'.alloc' (cs:=p.2++q.2) (a:=(ns1++ns2).toArray++Builtin.zeroCells te.2.zero.cells (grownCap w (p.1+q.1) cap te.1 - (p.1+q.1))) te.1 (by simp only[Array.size_append,List.size_toArray];omega) (fun i x hx=>by
    obtain⟨y,hy,hr⟩:=hrell.get hx
    exact⟨y,by rw[Array.getElem?_append_left (by simpa using bA hy)];simpa using hy,hr,hone12 y (List.mem_of_getElem? hy)⟩)
   rw[hV]
   refine⟨_,_,_,hr,hle,R',?_⟩
   rw[hq1']
   refine .sl (l:=⟨w.heap.size,0,((ns1++ns2).toArray++Builtin.zeroCells te.2.zero.cells (grownCap w (p.1+q.1) cap te.1 - (p.1+q.1))).size,.cells ((ns1++ns2).toArray++Builtin.zeroCells te.2.zero.cells (grownCap w (p.1+q.1) cap te.1 - (p.1+q.1))) te.1,.cells (p.2++q.2)⟩) (by simp[dH.upd]) hge (.inr ⟨rfl,?_⟩)
   simp only[Array.size_append,List.size_toArray,size_zeroCells,hzs,hn1]
   have:grownCap w (p.1+q.1) cap te.1*te.2.size=(p.1+q.1)*te.2.size+(grownCap w (p.1+q.1) cap te.1 - (p.1+q.1))*te.2.size:=by
    rw[<-Nat.add_mul];congr 1;omega
   omega
end
end
section
section
variable {P:Program} {tb:TB} {ρ:dH} {V U W X:Value} {v u t g:GV} {gs:wT} {w0:eD gs} {w:World} {H H':GH}
theorem MU {T:TypeId} (R:eT w0 ρ H w) (h:AA H=some (g,H')):JI P w0 ρ (Instr.makeMap T none) w g H':=by
 unfold AA at h
 rw[gT]at h;cases h
 have e:JJ w (w.alloc (.map #[] 0)):=(Below.refl _ _).alloc (Nat.le_refl _) _
 have b:=R.new (o:= .mp []) (l:=⟨w.heap.size,0,0,.map #[] 0,.mp []⟩) (R.ext.trans e) (fun h k m d f=>by
  obtain⟨l,a,_,c⟩:=R.live h k d
  rw[f]at a;cases a
  exact⟨e.block _ c.lt,Nat.ne_of_lt c.lt⟩) (.inl R.ext.size) ⟨#[],0,heap_alloc_new w _,rfl,fun i x j=>by simp at j⟩ (heap_alloc_new w _)
 refine⟨_,_,_,?_,b.1,b.2,.map (l:=⟨w.heap.size,0,0,.map #[] 0,.mp []⟩) (by simp[dH.upd])⟩
 simp[Instr.makeMap]
theorem Tj (s r:ByteArray):Nh (kD (bE s),(bE s).length) (kD (bE r),(bE r).length)=(s.toList==r.toList):=by
 rw[Lib.toList_data,Lib.toList_data]
 unfold Nh
 by_cases b:(bE s).length=(bE r).length
 ·have d:Nat.beq (bE r).length (bE r).length=true:=by simp
  rw[b,d,cond_true]
  by_cases a:kD (bE s)=kD (bE r)
  ·have:=Ed b a
   unfold bE at this
   rw[a,this];simp
  ·rw[lL a]
   symm
   rw[beq_eq_false_iff_ne]
   intro c;exact a (by unfold bE;rw[c])
 ·rw[lL b,cond_false]
  symm
  rw[beq_eq_false_iff_ne]
  intro c;exact b (by unfold bE;rw[c])
theorem Om {t:Ty} {a b:GV} {A B:Value} {c:Bool} (d:HM t a=true) (e:Rl ρ a A) (f:Rl ρ b B) (h:Pt a b=some c):Instr.sameNow t.desc A B=some c:=by
 unfold Pt at h
 unfold HM at d
 cases i:a.asI with
 | some x =>
  rw[i]at h d
  obtain⟨y,j,h⟩:=aD.1 (show ob b.asI _=some c from h)
  obtain⟨z,h⟩:=bI.1 h
  cases h
  rw[mK i]at e
  rw[mK j]at f
  rw[e.int_inv,f.int_inv]
  cases p:UV t.desc with
  |none=>simp only[p]at d;cases d
  |some k=>
   rw[DD p]
   have:=Fb z
   simp only[Instr.sameNow,this,if_true,Hz]
   congr 1
 |none=>
  rw[i]at h d
  obtain⟨x,q,h⟩:=aD.1 (show ob a.asStr _=some c from h)
  obtain⟨y,j,h⟩:=aD.1 h
  cases h
  rw[q]at d
  rw[oA q]at e
  rw[oA j]at f
  obtain⟨s,rfl,l,m⟩:=e.str_inv
  obtain⟨r,rfl,n,o⟩:=f.str_inv
  rw[yX d]
  show some (s==r)=_
  rw[beq_toListBytes,<-Tj]
  cases x;cases y;simp only at l m n o;rw[l,m,n,o]
theorem HQ {t:Ty} {k:GV} {K:Value} (d:HM t k=true) (c:Rl ρ k K):∀{a:List (GV×GV)} {en:List MapEntry} {r:Option GV} (i:Nat),en.length=a.length->(∀(i:Nat) e,a[i]? = some e->∃m,en[i]? = some m∧Rl ρ e.1 m.key∧Rl ρ e.2 m.val)->Me k a=some r->
  (r=none∧Instr.findNow t.desc K en i=some none)∨∃g j x,r=some g∧Rl ρ g x∧Instr.findNow t.desc K en i=some (some (j,x))
 | [],en,r,i,hl,_,h=>by
  cases h
  have:en=[]:=List.eq_nil_of_length_eq_zero (by simpa using hl)
  subst this;exact .inl ⟨rfl,rfl⟩
 | e :: a, en, r, i, hl, hr, h => by
  obtain⟨b,q,h⟩:=aD.1 (show ob (Pt k e.1) (fun b=>bif b then some (some e.2)else Me k a)=some r from h)
  cases en with
  |nil=>simp at hl
  | cons m en =>
   obtain⟨y,f,o,p⟩:=hr 0 e rfl
   simp at f;subst f
   have l:=Om d c o q
   cases b with
   |true=>
    cases h
    exact .inr ⟨e.2,i,m.val,rfl,p,by simp[Instr.findNow,l]⟩
   |false=>
    have:=HQ (r:=r) d c (i+1) (by simpa using hl) (fun i n s=>by have:=hr (i+1) n (by simpa using s);simpa using this) (show Me k a=some r from h)
    simpa [Instr.findNow,l]using this
theorem Ma (a:eK P tb) {T:TypeId} {t:Ty×Ty} (h:TP tb T=some t):∃d k e,qL P T d∧d.desc = .map k e∧qL P k t.1∧qL P e t.2:=by
 obtain⟨d,j,h⟩:=aD.1 (show ob (tb T) _=some t from h)
 obtain⟨i,b,h⟩:=aD.1 h
 obtain⟨l,c,h⟩:=aD.1 h
 obtain⟨m,f,h⟩:=aD.1 h
 cases h
 exact⟨d,i.1,i.2,a.tab j,Zi b,a.tab c,a.tab f⟩
theorem Es {K:TypeId} {t:Ty} {b:Bool} (j:qL P K t) (c:HM t u=true) (d:Rl ρ u U) (w:World):(Instr.checkKey b 10000 K U).run P w = .ok () w:=by
 have a:=j.run_und w
 unfold HM at c
 have h:∀n:Nat,(Instr.checkKey b (n+1) K U).run P w = .ok () w:=fun n=>by
  unfold Instr.checkKey
  cases e:u.asI with
  |some x=>
   rw[e]at c
   rw[mK e]at d
   rw[d.int_inv]
   cases i:UV t.desc with
   |none=>simp only[i]at c;cases c
   |some k=>rw[DD i]at a;simp[a]
  | none =>
   rw[e]at c
   cases f:u.asStr with
   |none=>simp only[f]at c;cases c
   |some x=>
    simp only[f]at c
    rw[oA f]at d
    obtain⟨s,rfl,_,_⟩:=d.str_inv
    rw[yX c]at a
    simp[a]
 exact h 9999
theorem eT.map (R:eT w0 ρ H w) {h:Nat} {c:List (GV×GV)} (hc:H.get h=some (.mp c)) {l:IM} (e:ρ h=some l):vF ρ w l (.mp c)∧w0.mine l.b:=by
 obtain⟨i,a,d,f⟩:=R.live h _ hc
 rw[e]at a;cases a;exact⟨f,d⟩
theorem UK (Q:eK P tb) {T:TypeId} {A:Bool} (R:eT w0 ρ H w) (J:Rl ρ v V) (I:Rl ρ u U) (h:PY tb T A v u H=some g):∃x,Rl ρ g x∧(Instr.lookup T V U A).run P w = .ok x w:=by
 obtain⟨m,hm,h⟩:=aD.1 (show ob v.asM _=some g from h)
 obtain⟨o,G,h⟩:=aD.1 h
 obtain⟨es,C,h⟩:=aD.1 h
 obtain⟨t,ht,h⟩:=aD.1 h
 obtain⟨F,h⟩:=bI.1 h
 obtain⟨r,hr,h⟩:=aD.1 h
 obtain⟨z,hz,h⟩:=aD.1 h
 rw[asM_eq hm]at J
 obtain⟨l,hl,rfl⟩:=J.map_inv
 rw[GO.asM_eq C]at G
 obtain⟨⟨en,L,S,s,q⟩,_⟩:=R.map G hl
 obtain⟨d,k,e,Y,B,E,D⟩:=Ma Q ht
 have c:=Y.run_und w
 rw[B]at c
 have n:=Es (P:=P) (b:=en.isEmpty) E F I w
 have f:(getObj l.b).run P w = .ok (.map en L) w:=by simp[getObj,Sem.run,S]
 have a:=E.run_und w
 have p:=HQ F I (en:=en.toList) (r:=r) 0 (by simpa using s) (fun i M Z=>by
  obtain⟨m',N,O⟩:=q i M Z
  exact⟨m',by rw[Array.getElem?_toList];exact N,O⟩) hr
 have y:=Od (ρ:=ρ) hz
 rcases p with⟨rfl,p⟩|⟨g',j,x,rfl,K,p⟩
 ·cases A with
  |false=>cases h;exact⟨_,y,by simp[Instr.lookup,c,f,n,Instr.findKey,a,p,D.run_zero w]⟩
  |true=>cases h;exact⟨.tuple #[t.2.zero,.bool false],Gr (.cons y (.cons (.bool _) .nil)),by simp[Instr.lookup,c,f,n,Instr.findKey,a,p,D.run_zero w]⟩
 ·cases A with
  |false=>cases h;exact⟨x,K,by simp[Instr.lookup,c,f,n,Instr.findKey,a,p]⟩
  |true=>cases h;exact⟨.tuple #[x,.bool true],Gr (.cons K (.cons (.bool _) .nil)),by simp[Instr.lookup,c,f,n,Instr.findKey,a,p]⟩
theorem Rp (hG:eK P tb) {T:TypeId} (R:eT w0 ρ H w) (hv:Rl ρ v V) (M:Rl ρ u U) (hx:Rl ρ t X) (h:KR tb T v u t H=some (g,H')):g = .un∧∃w' B,(Instr.mapUpdate T V U X).run P w = .ok () w'∧ρ.le B∧eT w0 B H' w':=by
 obtain⟨m,hm,h⟩:=aD.1 (show ob v.asM _=some (g,H')from h)
 obtain⟨o,L,h⟩:=aD.1 h
 obtain⟨O,K,h⟩:=aD.1 h
 obtain⟨ty,ht,h⟩:=aD.1 h
 obtain⟨Y,h⟩:=bI.1 h
 obtain⟨r,hr,h⟩:=aD.1 h
 rw[asM_eq hm]at hv
 obtain⟨l,Z,rfl⟩:=hv.map_inv
 rw[GO.asM_eq K]at L
 obtain⟨⟨en,c,C,p,n⟩,a⟩:=R.map L Z
 obtain⟨d,k,e,hd,J,Q,hE⟩:=Ma hG ht
 have q:=hd.run_und w
 rw[J]at q
 have I:=Es (P:=P) (b:=false) Q Y M w
 have z:(getObj l.b).run P w = .ok (.map en c) w:=by simp[getObj,Sem.run,C]
 have s:=Q.run_und w
 have D:=HQ Y M (en:=en.toList) (r:=r) 0 (by simpa using p) (fun i E f=>by
  obtain⟨N,F,G⟩:=n i E f
  exact⟨N,by rw[Array.getElem?_toList];exact F,G⟩) hr
 rcases D with⟨rfl,D⟩|⟨g',j,x,rfl,aa,D⟩
 ·simp only[vK]at h
  cases h
  refine⟨rfl,{w with heap:=w.heap.setIfInBounds l.b (.map (en.push {key:=U,val:=X,born:=c}) (c+1))},_,?_,R.set (X:= .map (en.push {key:=U,val:=X,born:=c}) (c+1)) L Z ?_ ?_ ?_ ?_⟩
  ·simp[Instr.mapUpdate,q,z,I,Instr.findKey,s,D,setObj,Sem.run,C]
  ·exact⟨R.ext.os,R.ext.tape,R.ext.output,by simpa using R.ext.size,fun i A S=>by
    show(w.heap.setIfInBounds l.b _)[i]? = _
    rw[Array.getElem?_setIfInBounds_ne (fun e=>by subst e;rcases a with a|a;exact absurd a (by omega);exact S a)];exact R.ext.block i A S⟩
  ·intro i A
   show(w.heap.setIfInBounds l.b _)[i]? = _
   rw[Array.getElem?_setIfInBounds_ne (Ne.symm A)]
  ·have y:l.b<w.heap.size:=(Array.getElem?_eq_some_iff.1 C).1
   refine⟨en.push {key:=U,val:=X,born:=c},c+1,by show(w.heap.setIfInBounds l.b _)[l.b]? = _;rw[Array.getElem?_setIfInBounds_self_of_lt y],by simp[p],fun i E f=> ?_⟩
   by_cases A:i<O.length
   ·rw[List.getElem?_append_left A]at f
    obtain⟨N,F,G⟩:=n i E f
    exact⟨N,by rw[Array.getElem?_push,if_neg (by omega)];exact F,G⟩
   ·rw[List.getElem?_append_right (by omega)]at f
    have:i=O.length:=by
     have:=bA f
     simp at this;omega
    subst this
    simp at f;subst f
    exact⟨⟨U,X,c⟩,by rw[Array.getElem?_push,if_pos (by omega)],M,hx⟩
  ·have y:l.b<w.heap.size:=(Array.getElem?_eq_some_iff.1 C).1
   show(w.heap.setIfInBounds l.b _)[l.b]? = _
   rw[Array.getElem?_setIfInBounds_self_of_lt y]
 ·cases h
end
end
section
section
variable {P:Program} {tb:TB} {ρ:dH} {gs:wT} {w0:eD gs} {w:World} {H H':GH} {n:Nat} {σ:GF} {a:Act} {R:Type}
def kE (P:Program) {gs:wT} (w0:eD gs) (ρ:dH) (f:Nat) (vs:List Value) (w:World) (g:GV) (H':GH):Prop:=
 (∃v w' b,(callFunc f vs.toArray).run P w = .ok (.value v) w'∧ρ.le b∧eT w0 b H' w'∧Rl b g v)∨
 ((callFunc f vs.toArray).run P w = .ok (.enter f vs.toArray) w∧Calls P f vs.toArray w fun e w'=>∃v b,e = .returned v∧ρ.le b∧eT w0 b H' w'∧Rl b g v)
def qM (P:Program) {gs:wT} (w0:eD gs) (b:CH):Prop:=∀f us H g H',b f us H=some (g,H')->∀ρ w vs,eT w0 ρ H w->oS ρ us vs->kE P w0 ρ f vs w g H'
def Af (P:Program) {gs:wT} (w0:eD gs) (ρ:dH) (σ:GF) (a:Act) (w:World) (o:Oper) (g:GV) (H H':GH):Prop:=
 (dX o.op=false∧kZ o.op=false∧Kn o.op=false∧H'=H∧∃v,Rl ρ g v∧∀w,(execOp a.eval o).run P w = .ok (.value v) w)∨
 (dX o.op=false∧kZ o.op=true∧H'=H∧∃v h l,Ws σ o.op=some h∧ρ h=some l∧(∃x,H.get h=some x)∧Rl ρ g v∧∀w',w'.heap[l.b]? = w.heap[l.b]? -> (execOp a.eval o).run P w' = .ok (.value v) w')∨
 (dX o.op=false∧Kn o.op=true∧H'=H∧∃v,Rl ρ g v∧(execOp a.eval o).run P w = .ok (.value v) w)∨
 (dX o.op=true∧∀K:Act->World->Prop,(∀c w' v,ρ.le c->eT w0 c H' w'->Rl c g v->K (a.put o.dst v) w')->o.wp P a w K Ns)
theorem Af.comp {o:Oper} {g:GV} {s:Sem Value} (e:dX o.op=false) (h:AB P ρ s g) (d:∀w v,s.run P w = .ok v w->(execOp a.eval o).run P w = .ok (.value v) w) (b:kZ o.op=false:=by rfl) (c:Kn o.op=false:=by rfl):Af P w0 ρ σ a w o g H H:=
 let ⟨v,hv,hr⟩:=h;.inl ⟨e,b,c,rfl,v,hv,fun w=>d w v (hr w)⟩
theorem Af.read {o:Oper} {g:GV} {s:Sem Value} (c:dX o.op=false) (d:Kn o.op=true) (h:∃x,Rl ρ g x∧s.run P w = .ok x w) (b:∀v,s.run P w = .ok v w->(execOp a.eval o).run P w = .ok (.value v) w):Af P w0 ρ σ a w o g H H:=
 let ⟨v,hv,hr'⟩:=h;.inr (.inr (.inl ⟨c,d,rfl,v,hv,b v hr'⟩))
theorem Af.does {o:Oper} {g:GV} {s:Sem Value} (i:dX o.op=true) (h:JI P w0 ρ s w g H') (f:∀v w',s.run P w = .ok v w'->(execOp a.eval o).run P w = .ok (.value v) w'):Af P w0 ρ σ a w o g H H':=by
 obtain⟨v,w',c,j,b,d,k⟩:=h
 refine .inr (.inr (.inr ⟨i,fun K e=> ?_⟩))
 simp only[Oper.wp,f v w' j,Oper.upon]
 exact e c w' v b d k
theorem Af.act {o:Oper} {g:GV} {s:Sem Unit} (i:dX o.op=true) (h:g = .un∧∃w' b,s.run P w = .ok () w'∧ρ.le b∧eT w0 b H' w') (f:∀w',s.run P w = .ok () w'->(execOp a.eval o).run P w = .ok .skip w'):Af P w0 ρ σ a w o g H H':=by
 obtain⟨rfl,w',b,j,c,d⟩:=h
 refine .inr (.inr (.inr ⟨i,fun K e=> ?_⟩))
 simp only[Oper.wp,f w' j,Oper.upon]
 exact e b w' undef c d .un
theorem GA (F:jQ ρ n σ a) {o:Option Operand} {g:Option GV} (h:Fc σ o=some g):ZM ρ g (o.map a.eval):=by
 cases o with
 |none=>cases h;exact .inl ⟨rfl,rfl⟩
 |some x=>
  obtain⟨v,b,h⟩:=aD.1 (show ob (i_ σ x) _=some g from h)
  cases h;exact .inr ⟨v,_,rfl,rfl,b_ F b⟩
theorem CF {b:Type} {xs:Array b} {x y:b} (h:xs.toList=[x,y]):xs = #[x,y]:=by
 cases xs;simp at h;rw[h]
theorem GM {b:Type} {xs:Array b} {x:b} (h:xs.toList=[x]):xs = #[x]:=by
 cases xs;simp at h;rw[h]
theorem AV {f:Operand->KT R} {k:GV->GH->Option R} {r:R}:∀{xs:List Operand},HL xs f σ H k=some r->∃x,xs=[x]∧f x σ H k=some r
 | [],h=>by cases h
 | [x],h=>⟨x,rfl,h⟩
 |_::_::_,h=>by cases h
theorem vZ {f:Operand->Operand->KT R} {k:GV->GH->Option R} {r:R}:∀{xs:List Operand},BM xs f σ H k=some r->∃x y,xs=[x,y]∧f x y σ H k=some r
 | [],h=>by cases h
 | [_],h=>by cases h
 | [x,y],h=>⟨x,y,rfl,h⟩
 |_::_::_::_,h=>by cases h
theorem lR {o:OR} {k:GV->GH->Option R} {r:R} (h:kS o k=some r):∃g H',o=some (g,H')∧k g H'=some r:=by
 obtain⟨⟨g,H'⟩,b,c⟩:=aD.1 (show ob o _=some r from h)
 exact⟨g,H',b,c⟩
theorem Wp (B:eK P tb) (F:jQ ρ n σ a) (C:eT w0 ρ H w) {b:Builtin} {xs:Array Operand} {c:Array TypeId} {k:GV->GH->Option R} {r:R} {d:Option Tmp} {ty:TypeId} {pos:String} {aft:Array Edge} {D:Option (Nat×Bool)} (e:c.size=xs.size)
  (h:NW tb xs c b σ H k=some r):∃g H',k g H'=some r∧Af P w0 ρ σ a w ⟨d,.call ⟨.builtin b,xs,c⟩,ty,pos,aft,D⟩ g H H':=by
 cases b with
 | len =>
  obtain⟨x,s,h⟩:=AV (show HL xs.toList (QT tb c.toList) σ H k=some r from h)
  obtain⟨T,f,h⟩:=aD.1 (show ob (EI c.toList 0) _=some r from h)
  obtain⟨v,q,h⟩:=aD.1 h
  obtain⟨g,m,o⟩:=aD.1 h
  have j:=GM s
  subst j
  have i:c = #[T]:=by
   rw[sC]at f
   obtain⟨l⟩:=c
   match l,e with
   | [t],_=>simp at f;subst f;rfl
  subst i
  exact⟨g,H,o,.comp rfl (PX B (ty:=ty) (b_ F q) m) (fun w v p=>by simp[execOp,resolve,invoke,builtin,p])⟩
 | max =>
  obtain⟨x,y,s,h⟩:=vZ (show BM xs.toList (fun x y=>k2 x y UM) σ H k=some r from h)
  obtain⟨v,q,h⟩:=aD.1 (show ob (i_ σ x) _=some r from h)
  obtain⟨u,A,h⟩:=aD.1 h
  obtain⟨g,m,o⟩:=aD.1 h
  have j:=CF s
  subst j
  obtain⟨t1,t2,i⟩:∃t1 t2,c = #[t1,t2]:=by
   obtain⟨l⟩:=c
   match l,e with
   | [t,t'],_=>exact⟨t,t',rfl⟩
  subst i
  exact⟨g,H,o,.comp rfl (P_ (t1:=t1) (t2:=t2) (ty:=ty) (b_ F q) (b_ F A) m) (fun w v p=>by simp[execOp,resolve,invoke,builtin,p])⟩
 | min =>
  obtain⟨x,y,s,h⟩:=vZ (show BM xs.toList (fun x y=>k2 x y UN) σ H k=some r from h)
  obtain⟨v,q,h⟩:=aD.1 (show ob (i_ σ x) _=some r from h)
  obtain⟨u,A,h⟩:=aD.1 h
  obtain⟨g,m,o⟩:=aD.1 h
  have j:=CF s
  subst j
  obtain⟨t1,t2,i⟩:∃t1 t2,c = #[t1,t2]:=by
   obtain⟨l⟩:=c
   match l,e with
   | [t,t'],_=>exact⟨t,t',rfl⟩
  subst i
  exact⟨g,H,o,.comp rfl (Qa (t1:=t1) (t2:=t2) (ty:=ty) (b_ F q) (b_ F A) m) (fun w v p=>by simp[execOp,resolve,invoke,builtin,p])⟩
 | append =>
  obtain⟨x,y,s,h⟩:=vZ (show BM xs.toList (TI tb c.toList) σ H k=some r from h)
  obtain⟨T,f,h⟩:=aD.1 (show ob (EI c.toList 0) _=some r from h)
  obtain⟨T',z,h⟩:=aD.1 h
  obtain⟨v,q,h⟩:=aD.1 h
  obtain⟨u,A,h⟩:=aD.1 h
  obtain⟨g,H',m,o⟩:=lR h
  have j:=CF s
  subst j
  have i:c = #[T,T']:=by
   rw[sC]at f z
   obtain⟨l⟩:=c
   match l,e with
   | [t,t'],_=>simp at f z;subst f z;rfl
  subst i
  exact⟨g,H',o,.does rfl (WR B (ty:=ty) C (b_ F q) (b_ F A) m) (fun v w' p=>by simp[execOp,resolve,invoke,builtin,p])⟩
 | copy =>
  obtain⟨x,y,s,h⟩:=vZ (show BM xs.toList (LZ tb c.toList) σ H k=some r from h)
  obtain⟨T,f,h⟩:=aD.1 (show ob (EI c.toList 0) _=some r from h)
  obtain⟨v,q,h⟩:=aD.1 h
  obtain⟨u,A,h⟩:=aD.1 h
  obtain⟨g,H',m,o⟩:=lR h
  have j:=CF s
  subst j
  obtain⟨T',i⟩:∃T',c = #[T,T']:=by
   rw[sC]at f
   obtain⟨l⟩:=c
   match l,e with
   | [t,t'],_=>simp at f;subst f;exact⟨t',rfl⟩
  subst i
  exact⟨g,H',o,.does rfl (UI B (T':=T') (ty:=ty) C (b_ F q) (b_ F A) m) (fun v w' p=>by simp[execOp,resolve,invoke,builtin,p])⟩
 | cap =>
  obtain⟨x,s,h⟩:=AV (show HL xs.toList (QS tb c.toList) σ H k=some r from h)
  obtain⟨T,f,h⟩:=aD.1 (show ob (EI c.toList 0) _=some r from h)
  obtain⟨v,q,h⟩:=aD.1 h
  obtain⟨g,m,o⟩:=aD.1 h
  have j:=GM s
  subst j
  have i:c = #[T]:=by
   rw[sC]at f
   obtain⟨l⟩:=c
   match l,e with
   | [t],_=>simp at f;subst f;rfl
  subst i
  exact⟨g,H,o,.comp rfl (PV B (ty:=ty) (b_ F q) m) (fun w v p=>by simp[execOp,resolve,invoke,builtin,p])⟩
 |_=>cases h
theorem QR {G:CH} (y:qM P w0 G) (F:jQ ρ n σ a) (J:eT w0 ρ H w) {f:Operand} {xs:Array Operand} {I:Array TypeId} {k:GV->GH->Option R} {r:R} {d:Option Tmp} {ty:TypeId} {pos:String} {aft:Array Edge} {C:Option (Nat×Bool)}
  (h:TJ G xs f σ H k=some r):∃g H',k g H'=some r∧Af P w0 ρ σ a w ⟨d,.call ⟨.value f,xs,I⟩,ty,pos,aft,C⟩ g H H':=by
 obtain⟨v,O,h⟩:=aD.1 (show ob (i_ σ f) _=some r from h)
 obtain⟨p,N,h⟩:=aD.1 h
 obtain⟨us,z,h⟩:=aD.1 h
 obtain⟨g,H',hc,h⟩:=lR h
 refine⟨g,H',h,.inr (.inr (.inr ⟨rfl,fun K D=> ?_⟩))⟩
 have E:=b_ F O
 rw[Su N]at E
 obtain⟨t,cs,M,x,u⟩:=E.fn_inv
 have q:=Cs F z
 have o:=(x.append q).append u
 have c:∀A w',(callFunc p.1 (t++xs.toList.map a.eval++cs).toArray).run P w = .ok A w'->(execOp a.eval ⟨d,.call ⟨.value f,xs,I⟩,ty,pos,aft,C⟩).run P w = .ok A w':=fun A w' m=>by
  have L:(t++xs.toList.map a.eval++cs).toArray=t.toArray++(xs.map a.eval++cs.toArray):=by
   apply Array.toList_inj.1;simp
  rw[L]at m
  simp[execOp,resolve,M,Deferred.ofValue,invoke,m]
 rcases y _ _ _ _ _ hc ρ w _ J o with⟨B,w',l,m,i,s,j⟩|⟨m,b⟩
 ·simp only[Oper.wp,c _ _ m,Oper.upon]
  exact D l w' B i s j
 ·simp only[Oper.wp,c _ _ m,Oper.upon]
  refine b.mono ?_
  rintro e w' ⟨B,l,rfl,i,s,j⟩
  exact D l w' B i s j
def HV:Op->Bool
 | .call c=>Nat.beq c.argTypes.size c.args.size
 |_=>true
theorem NQ (B:eK P tb) {ih:CH} (Q:qM P w0 ih) (F:jQ ρ n σ a) (E:eT w0 ρ H w) {o:Oper} {k:GV->GH->Option R} {r:R} (I:HV o.op=true∨∃c f,o.op = .call c∧c.callee = .value f) (h:KU tb ih o.op σ H k=some r):
  ∃g H',k g H'=some r∧Af P w0 ρ σ a w o g H H':=by
 obtain⟨d,J,ty,pos,aft,gd⟩:=o
 cases J with
 |move x=>
  obtain⟨v,A,h⟩:=aD.1 (show ob (i_ σ x) _=some r from h)
  exact⟨v,H,h,.inl ⟨rfl,rfl,rfl,rfl,_,b_ F A,fun w=>by simp[execOp]⟩⟩
 |assign x=>
  obtain⟨v,A,h⟩:=aD.1 (show ob (i_ σ x) _=some r from h)
  exact⟨v,H,h,.inl ⟨rfl,rfl,rfl,rfl,_,b_ F A,fun w=>by simp[execOp]⟩⟩
 |pick c x y=>
  obtain⟨v,A,h⟩:=aD.1 (show ob (i_ σ c) _=some r from h)
  obtain⟨u,C,h⟩:=aD.1 h
  obtain⟨t,V,h⟩:=aD.1 h
  obtain⟨g,s,h⟩:=aD.1 h
  obtain⟨b,hb,s⟩:=aD.1 (show ob v.asB _=some g from s)
  have hc:=b_ F A
  rw[zO hb]at hc
  cases b with
  |true=>cases s;exact⟨_,H,h,.inl ⟨rfl,rfl,rfl,rfl,_,b_ F C,fun w=>by simp[execOp,hc.bool_inv,asBool]⟩⟩
  |false=>cases s;exact⟨_,H,h,.inl ⟨rfl,rfl,rfl,rfl,_,b_ F V,fun w=>by simp[execOp,hc.bool_inv,asBool]⟩⟩
 |alloc T=>
  obtain⟨g,H',s,h⟩:=lR (show kS (u_ tb T H) k=some r from h)
  exact⟨g,H',h,.does rfl (FA B E s) (fun v w' j=>by simp[execOp,j])⟩
 |box T x=>
  obtain⟨v,A,h⟩:=aD.1 (show ob (i_ σ x) _=some r from h)
  obtain⟨g,H',s,h⟩:=lR h
  exact⟨g,H',h,.does rfl (WS (T:=T) E (b_ F A) s) (fun v w' j=>by simp[execOp,j])⟩
 | build T ps =>
  obtain⟨vs,G,h⟩:=aD.1 (show ob (sB σ ps.toList) _=some r from h)
  obtain⟨g,s,h⟩:=aD.1 h
  exact⟨g,H,h,.comp rfl (Jy B (Am F G) s) (fun w v j=>by
   have e:(ps.toList.map fun p=>(p.1,a.eval p.2)).toArray=ps.map fun p=>(p.1,a.eval p.2):=by apply Array.toList_inj.1;simp
   rw[e]at j
   simp[execOp,j])⟩
 | buildSlice T m ps =>
  obtain⟨vs,G,h⟩:=aD.1 (show ob (sB σ ps.toList) _=some r from h)
  obtain⟨g,H',s,h⟩:=lR h
  exact⟨g,H',h,.does rfl (Oy B E (Am F G) s) (fun v w' j=>by
   have e:(ps.toList.map fun p=>(p.1,a.eval p.2)).toArray=ps.map fun p=>(p.1,a.eval p.2):=by apply Array.toList_inj.1;simp
   rw[e]at j
   simp[execOp,j])⟩
 |load T x=>
  obtain⟨v,A,h⟩:=aD.1 (show ob (i_ σ x) _=some r from h)
  obtain⟨g,s,h⟩:=aD.1 h
  obtain⟨x',p,l,N,U,O,Y,j⟩:=Is (P:=P) B E (b_ F A) s
  exact⟨g,H,h,.inr (.inl ⟨rfl,rfl,rfl,x',p.1,l,by show ob (i_ σ x) _=_;rw[A,N];rfl,U,O,Y,fun w' X=>by have:=j w' X;simp[execOp,this]⟩)⟩
 |store T x y=>
  obtain⟨v,A,h⟩:=aD.1 (show ob (i_ σ x) _=some r from h)
  obtain⟨u,C,h⟩:=aD.1 h
  obtain⟨g,H',s,h⟩:=lR h
  exact⟨g,H',h,.act rfl (FB B E (b_ F A) (b_ F C) s) (fun w' j=>by simp[execOp,j])⟩
 |nilCheck x=>
  obtain⟨v,A,h⟩:=aD.1 (show ob (i_ σ x) _=some r from h)
  obtain⟨g,s,hk⟩:=aD.1 h
  obtain⟨rfl,j⟩:=Mg (P:=P) (b_ F A) s
  exact⟨_,H,hk,.inl ⟨rfl,rfl,rfl,rfl,_,b_ F A,fun w=>j _ x a.eval rfl rfl w⟩⟩
 | binOp J T x y T' =>
  obtain⟨v,A,h⟩:=aD.1 (show ob (i_ σ x) _=some r from h)
  obtain⟨u,C,h⟩:=aD.1 h
  obtain⟨g,s,h⟩:=aD.1 h
  exact⟨g,H,h,.comp rfl (PU B x y (b_ F A) (b_ F C) s) (fun w v j=>by
   simp only[execOp]
   simp at j ⊢
   cases Z:Sem.run P (eqGuard J T x y (a.eval x) (a.eval y)) w with
   |ok u w1=>rw[Z]at j;simp at j;simp[j]
   |halt h1 w1=>rw[Z]at j;cases j)⟩
 |unOp J T x=>
  obtain⟨v,A,h⟩:=aD.1 (show ob (i_ σ x) _=some r from h)
  obtain⟨g,s,h⟩:=aD.1 h
  exact⟨g,H,h,.comp rfl (UO (b_ F A) s) (fun w v j=>by simp[execOp,j])⟩
 |convert S D x=>
  obtain⟨v,A,h⟩:=aD.1 (show ob (i_ σ x) _=some r from h)
  obtain⟨g,s,h⟩:=aD.1 h
  exact⟨g,H,h,.comp rfl (MR B (b_ F A) s) (fun w v j=>by simp[execOp,j])⟩
 | makeFunc fn first caps =>
  cases fn with
  |func f=>
   obtain⟨us,W,h⟩:=aD.1 (show ob (Dt σ first.toList) _=some r from h)
   obtain⟨vs,G,h⟩:=aD.1 h
   refine⟨_,H,h,.inl ⟨rfl,rfl,rfl,rfl,_,Rl.fn' (Cs F W) (Cs F G),fun w=> ?_⟩⟩
   have L:(first.toList.map a.eval).toArray=first.map a.eval:=by apply Array.toList_inj.1;simp
   have M:(caps.toList.map a.eval).toArray=caps.map a.eval:=by apply Array.toList_inj.1;simp
   rw[L,M]
   simp[execOp,Instr.makeFunc]
  |_=>cases h
 | makeMap T q =>
  cases q with
  |none=>
   obtain⟨g,H',s,h⟩:=lR (show kS (AA H) k=some r from h)
   exact⟨g,H',h,.does rfl (MU (T:=T) E s) (fun v w' j=>by simp[execOp,j])⟩
  |some x=>cases h
 |makeSlice T x y=>
  obtain⟨v,A,h⟩:=aD.1 (show ob (i_ σ x) _=some r from h)
  obtain⟨u,C,h⟩:=aD.1 h
  obtain⟨g,H',s,h⟩:=lR h
  exact⟨g,H',h,.does rfl (UL B E (b_ F A) (b_ F C) s) (fun v w' j=>by simp[execOp,j])⟩
 | slice T x lo hi mx =>
  cases mx with
  |none=>
   obtain⟨v,A,h⟩:=aD.1 (show ob (i_ σ x) _=some r from h)
   obtain⟨l,U,h⟩:=aD.1 h
   obtain⟨e,N,h⟩:=aD.1 h
   obtain⟨g,s,h⟩:=aD.1 h
   exact⟨g,H,h,.comp rfl (JB B (.inl ⟨_,_,E⟩) (b_ F A) (GA F U) (GA F N) s) (fun w v j=>by simp[execOp,j])⟩
  |some y=>cases h
 |fieldAddr T x f=>
  obtain⟨v,A,h⟩:=aD.1 (show ob (i_ σ x) _=some r from h)
  obtain⟨g,s,h⟩:=aD.1 h
  exact⟨g,H,h,.comp rfl (Jz B (b_ F A) s) (fun w v j=>by simp[execOp,j])⟩
 |field T x f=>
  obtain⟨v,A,h⟩:=aD.1 (show ob (i_ σ x) _=some r from h)
  obtain⟨g,s,h⟩:=aD.1 h
  exact⟨g,H,h,.comp rfl (MV B (b_ F A) s) (fun w v j=>by simp[execOp,j])⟩
 |indexAddr T x y=>
  obtain⟨v,A,h⟩:=aD.1 (show ob (i_ σ x) _=some r from h)
  obtain⟨u,C,h⟩:=aD.1 h
  obtain⟨g,s,h⟩:=aD.1 h
  exact⟨g,H,h,.comp rfl (JA B (b_ F A) (b_ F C) s) (fun w v j=>by simp[execOp,j])⟩
 |index T x y=>
  obtain⟨v,A,h⟩:=aD.1 (show ob (i_ σ x) _=some r from h)
  obtain⟨u,C,h⟩:=aD.1 h
  obtain⟨g,s,h⟩:=aD.1 h
  exact⟨g,H,h,.comp rfl (UE B (b_ F A) (b_ F C) s) (fun w v j=>by simp[execOp,j])⟩
 |lookup T x y ok=>
  obtain⟨v,A,h⟩:=aD.1 (show ob (i_ σ x) _=some r from h)
  obtain⟨u,C,h⟩:=aD.1 h
  obtain⟨g,s,h⟩:=aD.1 h
  exact⟨g,H,h,.read rfl rfl (UK B E (b_ F A) (b_ F C) s) (fun v j=>by simp[execOp,j])⟩
 |mapUpdate T x y z=>
  obtain⟨v,A,h⟩:=aD.1 (show ob (i_ σ x) _=some r from h)
  obtain⟨u,C,h⟩:=aD.1 h
  obtain⟨t,V,h⟩:=aD.1 h
  obtain⟨g,H',s,h⟩:=lR h
  exact⟨g,H',h,.act rfl (Rp B E (b_ F A) (b_ F C) (b_ F V) s) (fun w' j=>by simp[execOp,j])⟩
 |extract x i=>
  obtain⟨v,A,h⟩:=aD.1 (show ob (i_ σ x) _=some r from h)
  obtain⟨g,s,h⟩:=aD.1 h
  exact⟨g,H,h,.comp rfl (PW (b_ F A) s) (fun w v j=>by simp[execOp,j])⟩
 | call c =>
  obtain⟨K,xs,ts⟩:=c
  cases K with
  |value f=>exact QR Q F E h
  |invoke x m=>cases h
  |builtin b=>
   refine Wp B F E ?_ h
   rcases I with I|⟨c,f,L,M⟩
   ·exact Nat.eq_of_beq_eq_true I
   ·cases L;cases M
 |_=>cases h
end
end
section

theorem Bd {R:Type}:∀(a:gJ) (vs:List GV) (f:GF->Option R),iN a vs f=ob (iN a vs some) f
 | [],[],f=>rfl
 | [],_::_,f=>rfl
 |key::a,[],f=>rfl
 |key::a,v::vs,f=>by
  show iN a vs (fun σ=>f ((key,v)::σ))=ob (iN a vs fun σ=>some ((key,v)::σ)) f
  rw[Bd a vs (fun σ=>f ((key,v)::σ)),Bd a vs (fun σ=>some ((key,v)::σ))]
  cases iN a vs some<;>rfl
theorem pG {R:Type} {a:gJ} {vs:List GV} {f:GF->Option R} {r:R} (h:iN a vs f=some r):∃σ,iN a vs some=some σ∧f σ=some r:=by
 rw[Bd]at h;exact aD.1 h
theorem GE {ρ:dH} {n:Nat} {σ:GF} {a:Act} (F:jQ ρ n σ a):∀{d:gJ} {b:GF},iN d (Au σ d) some=some b->jQ ρ n b a
 | [],b,h=>by cases h;exact⟨F.defers,F.size,fun t g c=>by cases c⟩
 | key :: d, b, h => by
  have i:iN d (Au σ d) (fun b=>some ((key,Option.casesOn (motive:=fun _=>GV) (CN σ key) .bad (fun v=>v))::b))=some b:=h
  obtain⟨s,j,k⟩:=pG i
  cases k
  have l:=GE F j
  refine⟨F.defers,F.size,fun t g c=> ?_⟩
  rw[yG]at c
  by_cases e:t=key
  ·subst e
   rw[if_pos rfl]at c
   cases f:CN σ t with
   |none=>rw[f]at c;cases c;exact .bad _
   |some v=>rw[f]at c;cases c;exact F.slot t v f
  ·rw[if_neg e]at c;exact l.slot t g c
theorem Kx (σ:GF):∀b:gJ,∃a,iN b (Au σ b) some=some a
 | []=>⟨[],rfl⟩
 |key::b=>by
  obtain⟨a,h⟩:=Kx σ b
  refine⟨(key,Option.casesOn (motive:=fun _=>GV) (CN σ key) .bad (fun v=>v))::a,?_⟩
  show iN b (Au σ b) (fun a=>some ((key,Option.casesOn (motive:=fun _=>GV) (CN σ key) .bad (fun v=>v))::a))=_
  rw[Bd,h];rfl
theorem Hf:∀{m i:Nat} {us:List GV} {σ:GF},iN (List.range' i m) us some=some σ->us.length=m
 |0,i,[],σ,h=>rfl
 |0,i,_::_,σ,h=>by cases h
 |m+1,i,[],σ,h=>by cases h
 |m+1,i,u::us,σ,h=>by
  obtain⟨s,a,_⟩:=pG (show iN (List.range' (i+1) m) us (fun σ=>some ((i,u)::σ))=some σ from h)
  simp[Hf a]
theorem JZ {ρ:dH} {n:Nat} {a:Act} (c:a.defers=[]) (d:a.tmps.size=n):∀{m i:Nat} {us:List GV} {vs:dO} {σ:GF},oS ρ us vs->(∀j v,vs[j]? = some v->a.tmps[i+j]? = some v)->iN (List.range' i m) us some=some σ->jQ ρ n σ a
 |0,i,[],vs,σ,_,_,h=>by cases h;exact⟨c,d,fun t g b=>by cases b⟩
 |0,i,_::_,vs,σ,_,_,h=>by cases h
 |m+1,i,[],vs,σ,_,_,h=>by cases h
 | m + 1, i, u :: us, vs, σ, hr, ha, h => by
  obtain⟨v,vs,rfl,k,l⟩:=hr.of_cons
  have f:iN (List.range' (i+1) m) us (fun σ=>some ((i,u)::σ))=some σ:=h
  obtain⟨s,o,p⟩:=pG f
  cases p
  have r:=JZ c d l (fun j v q=>by have:=ha (j+1) v (by simpa using q);rwa[show i+(j+1)=i+1+j by omega]at this) o
  refine⟨c,d,fun t g b=> ?_⟩
  rw[yG]at b
  by_cases e:t=i
  ·subst e;rw[if_pos rfl]at b;cases b
   have:=ha 0 v rfl
   simp[Act.eval,show a.tmps[t]? = some v by simpa using this,k]
  ·rw[if_neg e]at b;exact r.slot t g b

def Fo (n:Nat) (o:Oper):Bool:=iI o&&(match o.dst with|none=>true|some d=>Nat.blt d n)&&(HV o.op||(match o.op with|.call c=>(match c.callee with|.value _=>true|_=>false)|_=>false))
section
variable {P:Program} {tb:TB} {gs:wT} {w0:eD gs}
theorem rS {n:Nat} {o:Oper} (h:Fo n o=true):iI o=true∧(∀d,o.dst=some d->d<n)∧(HV o.op=true∨∃c f,o.op = .call c∧c.callee = .value f):=by
 unfold Fo at h
 simp only[Bool.and_eq_true,Bool.or_eq_true]at h
 obtain⟨⟨i,e⟩,a⟩:=h
 refine⟨i,fun d j=> ?_,?_⟩
 ·rw[j]at e;simpa [Nat.blt_eq]using e
 ·rcases a with a|a
  ·exact .inl a
  ·right
   cases g:o.op with
   |call c=>
    rw[g]at a
    cases hc:c.callee with
    |value f=>exact⟨c,f,rfl,hc⟩
    |invoke x m=>simp only[hc]at a;cases a
    |builtin b=>simp only[hc]at a;cases a
   |_=>rw[g]at a;cases a
theorem jQ.putD {ρ:dH} {n:Nat} {σ:GF} {a:Act} (F:jQ ρ n σ a) {d:Option Nat} (b:∀x,d=some x->x<n) {g:GV} {v:Value} (c:Rl ρ g v):jQ ρ n (putD d g σ) (a.put d v):=by
 cases d with
 |none=>exact⟨F.defers,F.size,F.slot⟩
 |some d=>exact F.put (b d rfl) c
theorem Wc {u:CH} (E:eK P tb) (r:qM P w0 u) {all:List Oper} {n:Nat} {o:Oper} {k:GS->RS} {s:GS} {f:Lj} {ρ:dH} {a:Act} {w:World} (J:Fo n o=true) (F:jQ ρ n s.σ a) (R:eT w0 ρ s.H w) (h:HA tb u all o k s=some f):
  (Region.wanted o (yielded all.toArray a.tmps)=true∧∃g H',k ⟨putD o.dst g s.σ,H'⟩=some f∧Af P w0 ρ s.σ a w o g s.H H')∨
  (Region.wanted o (yielded all.toArray a.tmps)=false∧k ⟨putD o.dst .un s.σ,s.H⟩=some f):=by
 obtain⟨N,O,D⟩:=rS J
 unfold HA at h
 cases p:o.guard with
 |none=>
  rw[p]at h
  obtain⟨g,H',A,B⟩:=NQ E r F R D (show KU tb u o.op s.σ s.H (opK o.dst s k)=some f from h)
  exact .inl ⟨by simp[Region.wanted,p],g,H',A,B⟩
 | some gd =>
  rw[p]at h
  obtain⟨Q,t,h⟩:=aD.1 (show ob (EI all gd.1) _=some f from h)
  obtain⟨j,y,h⟩:=aD.1 h
  obtain⟨v,L,h⟩:=aD.1 h
  obtain⟨g,H',l,m⟩:=lR h
  have e:=F.slot j v L
  rw[sC]at t
  have C:yielded all.toArray a.tmps gd.1=(match a.tmps[j]? with|some (.bool b)=>some b|_=>none):=by
   unfold yielded
   have:(all.toArray[gd.1]?).bind (·.dst)=some j:=by simp[t,y]
   rw[this];rfl
  cases v with
  | bool q =>
   have d:=e.bool_inv
   have K:a.tmps[j]? = some (.bool q):=by
    simp only[Act.eval,Array.getD_eq_getD_getElem?]at d
    cases x:a.tmps[j]? with
    |none=>rw[x]at d;cases d
    |some z=>rw[x]at d;simp at d;rw[d]
   rw[K]at C
   have c:Bool.casesOn (motive:=fun _=>OR) (Pg q gd.2) (some (.un,s.H)) (KU tb u o.op s.σ s.H Gg)=some (g,H'):=l
   rw[Dp]at c
   have G:Region.wanted o (yielded all.toArray a.tmps)=(q==gd.2):=by
    simp only[Region.wanted,p]
    rw[C]
    cases q<;>cases gd.2<;>rfl
   cases i:(q==gd.2)with
   |true=>
    rw[i]at c
    obtain⟨M,I,A,B⟩:=NQ E r F R D (show KU tb u o.op s.σ s.H Gg=some (g,H')from c)
    cases A
    exact .inl ⟨by rw[G,i],g,H',m,B⟩
   |false=>
    rw[i]at c
    cases c
    exact .inr ⟨by rw[G,i],m⟩
  | un =>
   have d:=e.un_inv
   cases l
   refine .inr ⟨?_,m⟩
   simp only[Region.wanted,p]
   rw[C]
   have:(match a.tmps[j]? with|some (.bool b)=>some b|_=>none)=(none:Option Bool):=by
    simp only[Act.eval,Array.getD_eq_getD_getElem?]at d
    cases x:a.tmps[j]? with
    |none=>rfl
    |some z=>rw[x]at d;simp at d;rw[d];rfl
   rw[this];rfl
  |_=>cases l
theorem Ee {u:CH} (x:eK P tb) (e:qM P w0 u) {all:List Oper} {n:Nat} {k:GS->RS} {m:Lj} {Q:Exit->Act->World->Prop}:∀(l:List Oper) (s:GS) (ρ:dH) (a:Act) (w:World),l.all (Fo n)=true->jQ ρ n s.σ a->eT w0 ρ s.H w->CW tb u all k l s=some m->
  (∀q b t w',k q=some m->ρ.le b->jQ b n q.σ t->eT w0 b q.H w'->Q .normal t w')->Sx.wpList P all.toArray Q l a w
 | [],s,ρ,a,w,_,F,R,h,hk=>hk s ρ a w h (dH.le_refl _) F R
 | o :: l, s, ρ, a, w, hl, F, R, h, hk => by
  simp only[List.all_cons,Bool.and_eq_true]at hl
  obtain⟨_,d,_⟩:=rS hl.1
  rcases Wc x e hl.1 F R (show HA tb u all o (CW tb u all k l) s=some m from h)with⟨y,g,H',f,G⟩|⟨y,f⟩
  ·refine kC y ?_
   have c:∀b w' v,ρ.le b->eT w0 b H' w'->Rl b g v->Sx.wpList P all.toArray Q l (a.put o.dst v) w':=fun b w' v p A j=>
    Ee x e l ⟨putD o.dst g s.σ,H'⟩ b _ w' hl.2 ((F.le p).putD d j) A f (fun q r t z B C D E=>hk q r t z B (dH.le_trans p C) D E)
   rcases G with⟨_,_,_,rfl,v,j,i⟩|⟨_,_,rfl,v,_,_,_,_,_,j,i⟩|⟨_,_,rfl,v,j,i⟩|⟨_,i⟩
   ·simp only[Oper.wp,i w,Oper.upon];exact c ρ w v (dH.le_refl _) R j
   ·simp only[Oper.wp,i w rfl,Oper.upon];exact c ρ w v (dH.le_refl _) R j
   ·simp only[Oper.wp,i,Oper.upon];exact c ρ w v (dH.le_refl _) R j
   ·exact HT (i _ c)
  ·unfold Sx.wpList
   rw[if_neg (by rw[y];simp)]
   exact Ee x e l ⟨putD o.dst .un s.σ,s.H⟩ ρ _ w hl.2 (F.putD d .un) R f hk
theorem El {l:List Oper} {p:Op->Bool} (h:Cy l p=true) {i j:Nat} {e f:Oper} (c:l[i]? = some e) (d:l[j]? = some f) (k:p e.op=true) (g:dX f.op=true):before (nP l) i j=true∨before (nP l) j i=true:=by
 unfold Cy at h
 have a:=List.all_eq_true.1 h i (List.mem_range.2 (bA c))
 simp only[c,k,Bool.not_true,Bool.false_or]at a
 have b:=List.all_eq_true.1 a j (List.mem_range.2 (bA d))
 simp only[d,g,Bool.not_true,Bool.false_or,Bool.or_eq_true]at b
 exact b
theorem MZ {c:Type} {H:GH} {h v:Nat} {k:Option c} {a:c} (x:vck H h v k=some a):H.ver h=some v∧k=some a:=by
 obtain⟨u,d,x⟩:=aD.1 (show ob (H.ver h) _=some a from x)
 cases b:Nat.beq u v with
 |false=>rw[b]at x;cases x
 |true=>rw[b]at x;rw[d,Nat.eq_of_beq_eq_true b];exact⟨rfl,x⟩
theorem BE {m:List Nat} {i:Nat} {H:GH} {u:Unit}:∀{e:List (Nat×Option (Nat×Nat))},Hr m i H e=some u->∀p∈e,before m i p.1=false->∀a,p.2=some a->H.ver a.1=some a.2
 | [],h=>fun p o=>by simp at o
 | p :: e, h => by
  have c:Bool.casesOn (motive:=fun _=>Option Unit) (before m i p.1) (pck H p.2 (Hr m i H e)) (Hr m i H e)=some u:=h
  intro q d b a j
  cases g:before m i p.1 with
  | false =>
   rw[g]at c
   have k:(∀a,p.2=some a->H.ver a.1=some a.2)∧Hr m i H e=some u:=by
    cases f:p.2 with
    |none=>rw[f]at c;exact⟨fun _ h=>(by cases h),c⟩
    |some x=>rw[f]at c;obtain⟨l,n⟩:=MZ (show vck H x.1 x.2 _=some u from c);exact⟨fun y r=>by cases r;exact l,n⟩
   rcases List.mem_cons.1 d with rfl|d
   ·exact k.1 a j
   ·exact BE k.2 q d b a j
  |true=>
   rw[g]at c
   rcases List.mem_cons.1 d with rfl|d
   ·rw[g]at b;cases b
   ·exact BE c q d b a j
theorem BF {m:List Nat} {i h v:Nat} {e:Option (Nat×Nat)}:∀{c:List (Nat×GH)},Hs m i h v c=some e->e=some (h,v)∧∀q∈c,before m i q.1=false->q.2.ver h=some v
 | [],x=>by cases x;exact⟨rfl,fun p b=>by simp at b⟩
 | q :: c, x => by
  have d:Bool.casesOn (motive:=fun _=>Option (Option (Nat×Nat))) (before m i q.1) (vck q.2 h v (Hs m i h v c)) (Hs m i h v c)=some e:=x
  cases j:before m i q.1 with
  |false=>
   rw[j]at d
   obtain⟨k,l⟩:=MZ d
   obtain⟨f,g⟩:=BF l
   refine⟨f,fun p b a=> ?_⟩
   rcases List.mem_cons.1 b with rfl|b
   ·exact k
   ·exact g p b a
  |true=>
   rw[j]at d
   obtain⟨f,g⟩:=BF d
   refine⟨f,fun p b a=> ?_⟩
   rcases List.mem_cons.1 b with rfl|b
   ·rw[j]at a;cases a
   ·exact g p b a
end
end
end Go.Gx
end
