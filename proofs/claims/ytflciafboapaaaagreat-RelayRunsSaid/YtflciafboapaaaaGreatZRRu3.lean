/- Models and proofs. Conditions: none. -/
import Derived.Test.YtflciafboapaaaaGreatZRRu2
import Derived.Lib.Strings
import Derived.Lib.AppendZeros
import Derived.Laws.CopyRow
import Derived.Laws.StructEq
set_option linter.unusedVariables false
set_option linter.unusedSimpArgs false
set_option maxHeartbeats 4000000
set_option maxRecDepth 20000
namespace Go.Gx
open Go Go.Sx
noncomputable section
inductive GV where
 |int (k:IntKind) (n:Int)
 |bool (b:Bool)
 |str (n len:Nat)
 |ptr (h off:Nat)
 |pnil
 |sl (h off len sz:Nat)
 |snil
 |map (h:Nat)
 |fn (f:FuncId) (first caps:List GV)
 |fnil
 |inil
 |agg (cs:List GV)
 |tup (vs:List GV)
 |un
 |bad
 |opn (h:Nat)
inductive GO where
 |cells (cs:List GV)
 |mp (es:List (GV×GV))
inductive Tr (α:Type) where
 |lf
 |nd (a:Option α) (l r:Tr α)
def ob {b a:Type} (o:Option b) (f:b->Option a):Option a:=Option.casesOn (motive:=λ_=>Option a) o none f
def Tr.get {b:Type} (t:Tr b):Nat->Option b:=Tr.rec (motive:=λ_=>Nat->Option b) (λ_=>none) (λa _ _ c d n=>Bool.casesOn (motive:=λ_=>Option b) (Nat.beq n 0) (Bool.casesOn (motive:=λ_=>Option b) (Nat.beq (Nat.mod n 2) 1) (d (Nat.sub (Nat.div n 2) 1)) (c (Nat.div n 2))) a) t
def EJ {a:Type} (x:Option a) (f:Nat):Nat->Tr a:=Nat.rec (motive:=λ_=>Nat->Tr a) (λ_=> .lf) (λ_ b n=>bif Nat.beq n 0 then .nd x .lf .lf else bif Nat.beq (Nat.mod n 2) 1 then .nd none (b (Nat.div n 2)) .lf else .nd none .lf (b (Nat.sub (Nat.div n 2) 1))) f
def Tr.set {b:Type} (x:Option b) (t:Tr b):Nat->Tr b:=Tr.rec (motive:=λ_=>Nat->Tr b) (λn=>EJ x (Nat.succ n) n) (λa l r c d n=>Bool.casesOn (motive:=λ_=>Tr b) (Nat.beq n 0) (Bool.casesOn (motive:=λ_=>Tr b) (Nat.beq (Nat.mod n 2) 1) (.nd a l (d (Nat.sub (Nat.div n 2) 1))) (.nd a (c (Nat.div n 2)) r)) (.nd x l r)) t
def Ig {a R:Type} (x:Option a) (f:Nat):Nat->(Tr a->R)->R:=Nat.rec (motive:=λ_=>Nat->(Tr a->R)->R) (λ_ k=>k .lf) (λ_ b n k=>Bool.casesOn (motive:=λ_=>R) (Nat.beq n 0) (Bool.casesOn (motive:=λ_=>R) (Nat.beq (Nat.mod n 2) 1) (b (Nat.sub (Nat.div n 2) 1) λt=>k (.nd none .lf t)) (b (Nat.div n 2) λt=>k (.nd none t .lf))) (k (.nd x .lf .lf))) f
def Tr.setK {b R:Type} (x:Option b) (t:Tr b):Nat->(Tr b->R)->R:=Tr.rec (motive:=λ_=>Nat->(Tr b->R)->R) (λn k=>Ig x (Nat.succ n) n k) (λa l r c d n k=>Bool.casesOn (motive:=λ_=>R) (Nat.beq n 0) (Bool.casesOn (motive:=λ_=>R) (Nat.beq (Nat.mod n 2) 1) (d (Nat.sub (Nat.div n 2) 1) λt=>k (.nd a l t)) (c (Nat.div n 2) λt=>k (.nd a t r))) (k (.nd x l r))) t
def sn {a:Type} (n:Nat) (f:Nat->a):a:=Nat.rec (motive:=λ_=>a) (f 0) (λm _=>f (Nat.succ m)) n
def fi {b:Type} (z:Int) (f:Int->b):b:=Int.casesOn (motive:=λ_=>b) z (λa=>sn a λa=>f (.ofNat a)) (λa=>sn a λa=>f (.negSucc a))
def fb (b:Bool):Option GV:=Bool.casesOn (motive:=λ_=>Option GV) b (some (.bool false)) (some (.bool true))
structure GH where
 n:Nat
 t:Tr (Nat×GO)
def GH.get (H:GH) (h:Nat):Option GO:=ob (H.t.get h) λp=>some p.2
def GH.ver (H:GH) (h:Nat):Option Nat:=ob (H.t.get h) λp=>some p.1
def GH.set (H:GH) (h:Nat) (o:GO):GH:=⟨Nat.succ H.n,H.t.set (some (H.n,o)) h⟩
def GH.del (H:GH) (h:Nat):GH:=⟨H.n,H.t.set none h⟩
def GH.newK {a:Type} (H:GH) (o:GO) (f:Nat->GH->a):a:=sn H.n λn=>H.t.setK (some (n,o)) n λt=>sn (Nat.succ n) λm=>f n ⟨m,t⟩
def GH.setK {a:Type} (H:GH) (h:Nat) (o:GO) (f:GH->a):a:=sn H.n λn=>H.t.setK (some (n,o)) h λt=>sn (Nat.succ n) λm=>f ⟨m,t⟩
def GH.delK {a:Type} (H:GH) (h:Nat) (f:GH->a):a:=H.t.setK none h λt=>f ⟨H.n,t⟩
def acv (o:GO):Option (List GV):=GO.casesOn (motive:=λ_=>Option (List GV)) o (λa=>some a) (λ_=>none)
def GO.asM (o:GO):Option (List (GV×GV)):=GO.casesOn (motive:=λ_=>Option (List (GV×GV))) o (λ_=>none) (λa=>some a)
def GH.cells (H:GH) (h:Nat):Option (List GV):=ob (H.get h) acv
abbrev GF:=List (Nat×GV)
def GY (σ:GF) (t:Nat):Option GV:=List.rec (motive:=λ_=>Option GV) none (λp _ a=>Bool.casesOn (motive:=λ_=>Option GV) (Nat.beq t p.1) a (some p.2)) σ
def ltI (a b:Int):Bool:=Int.casesOn (motive:=λ_=>Bool) a (λa=>Int.casesOn (motive:=λ_=>Bool) b (λb=>Nat.blt a b) (λ_=>false)) (λa=>Int.casesOn (motive:=λ_=>Bool) b (λ_=>true) (λb=>Nat.blt b a))
def eqI (a b:Int):Bool:=Int.casesOn (motive:=λ_=>Bool) a (λa=>Int.casesOn (motive:=λ_=>Bool) b (λb=>Nat.beq a b) (λ_=>false)) (λa=>Int.casesOn (motive:=λ_=>Bool) b (λ_=>false) (λb=>Nat.beq a b))
def asN (a:Int):Option Nat:=Int.casesOn (motive:=λ_=>Option Nat) a (λa=>some a) (λ_=>none)
def RP (a b:Nat×Nat):Bool:=bif Nat.beq a.2 b.2 then Nat.beq a.1 b.1 else false
def Ue (a b:Bool):Bool:=Bool.casesOn (motive:=λ_=>Bool) a (Bool.casesOn (motive:=λ_=>Bool) b true false) b
def Jb {a:Type} (l:List a):Nat->Option a:=List.rec (motive:=λ_=>Nat->Option a) (λ_=>none) (λx _ b n=>Nat.casesOn (motive:=λ_=>Option a) n (some x) b) l
def abj {a:Type} (v:a) (l:List a):Nat->Option (List a):=List.rec (motive:=λ_=>Nat->Option (List a)) (λ_=>none) (λx r b n=>Nat.casesOn (motive:=λ_=>Option (List a)) n (some (v::r)) (λn=>ob (b n) λc=>some (x::c))) l
def Is (e:List GV):Nat->List GV->Option (List GV):=List.rec (motive:=λ_=>Nat->List GV->Option (List GV)) (λ_ a=>some a) (λv _ c o a=>ob (abj v a o) λb=>sn (Nat.succ o) λd=>c d b) e
def tk {a:Type} (l:List a):Nat->Option (List a):=List.rec (motive:=λ_=>Nat->Option (List a)) (λn=>Nat.casesOn (motive:=λ_=>Option (List a)) n (some []) (λ_=>none)) (λx _ b n=>Nat.casesOn (motive:=λ_=>Option (List a)) n (some []) (λn=>ob (b n) λr=>some (x::r))) l
def dp {a:Type} (l:List a):Nat->Option (List a):=List.rec (motive:=λ_=>Nat->Option (List a)) (λn=>Nat.casesOn (motive:=λ_=>Option (List a)) n (some []) (λ_=>none)) (λx r b n=>Nat.casesOn (motive:=λ_=>Option (List a)) n (some (x::r)) b) l
def slc {a:Type} (l:List a) (o n:Nat):Option (List a):=ob (dp l o) λr=>tk r n
def mT (l:List UInt8):Nat:=List.rec (motive:=λ_=>Nat) 0 (λb _ a=>Nat.add b.toNat (Nat.mul 256 a)) l
def bV (s:ByteArray):List UInt8:=s.data.toList
def GV.asI (v:GV):Option (IntKind×Int):=GV.casesOn (motive_1:=λ_=>Option (IntKind×Int)) v (λa b=>some (a,b)) (λ_=>none) (λ_ _=>none) (λ_ _=>none) none (λ_ _ _ _=>none) none (λ_=>none) (λ_ _ _=>none) none none (λ_=>none) (λ_=>none) none none (λ_=>none)
def GV.asB (v:GV):Option Bool:=GV.casesOn (motive_1:=λ_=>Option Bool) v (λ_ _=>none) (λa=>some a) (λ_ _=>none) (λ_ _=>none) none (λ_ _ _ _=>none) none (λ_=>none) (λ_ _ _=>none) none none (λ_=>none) (λ_=>none) none none (λ_=>none)
def GV.asP (v:GV):Option (Nat×Nat):=GV.casesOn (motive_1:=λ_=>Option (Nat×Nat)) v (λ_ _=>none) (λ_=>none) (λ_ _=>none) (λa b=>some (a,b)) none (λ_ _ _ _=>none) none (λ_=>none) (λ_ _ _=>none) none none (λ_=>none) (λ_=>none) none none (λ_=>none)
def GV.asS (v:GV):Option (Nat×Nat×Nat×Nat):=GV.casesOn (motive_1:=λ_=>Option (Nat×Nat×Nat×Nat)) v (λ_ _=>none) (λ_=>none) (λ_ _=>none) (λ_ _=>none) none (λa b c d=>some (a,b,c,d)) none (λ_=>none) (λ_ _ _=>none) none none (λ_=>none) (λ_=>none) none none (λ_=>none)
def GV.asF (v:GV):Option (Nat×List GV×List GV):=GV.casesOn (motive_1:=λ_=>Option (Nat×List GV×List GV)) v (λ_ _=>none) (λ_=>none) (λ_ _=>none) (λ_ _=>none) none (λ_ _ _ _=>none) none (λ_=>none) (λa b c=>some (a,b,c)) none none (λ_=>none) (λ_=>none) none none (λ_=>none)
def GV.asT (v:GV):Option (List GV):=GV.casesOn (motive_1:=λ_=>Option (List GV)) v (λ_ _=>none) (λ_=>none) (λ_ _=>none) (λ_ _=>none) none (λ_ _ _ _=>none) none (λ_=>none) (λ_ _ _=>none) none none (λ_=>none) (λa=>some a) none none (λ_=>none)
def GV.asStr (v:GV):Option (Nat×Nat):=GV.casesOn (motive_1:=λ_=>Option (Nat×Nat)) v (λ_ _=>none) (λ_=>none) (λa b=>some (a,b)) (λ_ _=>none) none (λ_ _ _ _=>none) none (λ_=>none) (λ_ _ _=>none) none none (λ_=>none) (λ_=>none) none none (λ_=>none)
def GV.asM (v:GV):Option (Nat):=GV.casesOn (motive_1:=λ_=>Option (Nat)) v (λ_ _=>none) (λ_=>none) (λ_ _=>none) (λ_ _=>none) none (λ_ _ _ _=>none) none (λa=>some a) (λ_ _ _=>none) none none (λ_=>none) (λ_=>none) none none (λ_=>none)
def GV.asA (v:GV):Option (List GV):=GV.casesOn (motive_1:=λ_=>Option (List GV)) v (λ_ _=>none) (λ_=>none) (λ_ _=>none) (λ_ _=>none) none (λ_ _ _ _=>none) none (λ_=>none) (λ_ _ _=>none) none none (λa=>some a) (λ_=>none) none none (λ_=>none)
def GV.cells (v:GV):Option (List GV):=GV.casesOn (motive_1:=λ_=>Option (List GV)) v (λa b=>some [GV.int a b]) (λa=>some [GV.bool a]) (λa b=>some [GV.str a b]) (λa b=>some [GV.ptr a b]) (some [GV.pnil]) (λa b c d=>some [GV.sl a b c d]) (some [GV.snil]) (λa=>some [GV.map a]) (λa b c=>some [GV.fn a b c]) (some [GV.fnil]) (some [GV.inil]) (λa=>some a) (λa=>none) (none) (none) (λa=>none)
def GV.isSnil (v:GV):Bool:=GV.casesOn (motive_1:=λ_=>Bool) v (λ_ _=>false) (λ_=>false) (λ_ _=>false) (λ_ _=>false) (false) (λ_ _ _ _=>false) (true) (λ_=>false) (λ_ _ _=>false) (false) (false) (λ_=>false) (λ_=>false) (false) (false) (λ_=>false)
def GV.isInil (v:GV):Bool:=GV.casesOn (motive_1:=λ_=>Bool) v (λ_ _=>false) (λ_=>false) (λ_ _=>false) (λ_ _=>false) (false) (λ_ _ _ _=>false) (false) (λ_=>false) (λ_ _ _=>false) (false) (true) (λ_=>false) (λ_=>false) (false) (false) (λ_=>false)
def GV.nilck (v:GV):Option GV:=GV.casesOn (motive_1:=λ_=>Option GV) v (λa b=>none) (λa=>none) (λa b=>none) (λa b=>some (GV.ptr a b)) (none) (λa b c d=>none) (none) (λa=>none) (λa b c=>some (GV.fn a b c)) (none) (none) (λa=>none) (λa=>none) (none) (none) (λa=>none)
def tdE (d:TypeDesc):Bool:=TypeDesc.casesOn (motive:=λ_=>Bool) d false false (λ_=>false) (λ_=>false) (λ_=>false) false false (λ_=>false) (λ_=>false) (λ_ _=>false) (λ_ _=>false) (λ_ _=>false) (λ_=>false) (λ_ _ _=>false) (λa=>Nat.beq (Array.size a) 0) (λ_=>false) (λ_ _=>false)
def Zz (d:TypeDesc):Option TypeId:=TypeDesc.casesOn (motive:=λ_=>Option TypeId) d none none (λ_=>none) (λ_=>none) (λ_=>none) none none (λ_=>none) (λa=>some a) (λ_ _=>none) (λ_ _=>none) (λ_ _=>none) (λ_=>none) (λ_ _ _=>none) (λ_=>none) (λ_=>none) (λ_ _=>none)
def tdA (d:TypeDesc):Option (Nat×TypeId):=TypeDesc.casesOn (motive:=λ_=>Option (Nat×TypeId)) d none none (λ_=>none) (λ_=>none) (λ_=>none) none none (λ_=>none) (λ_=>none) (λa b=>some (a,b)) (λ_ _=>none) (λ_ _=>none) (λ_=>none) (λ_ _ _=>none) (λ_=>none) (λ_=>none) (λ_ _=>none)
def tdF (d:TypeDesc):Option (Array Field):=TypeDesc.casesOn (motive:=λ_=>Option (Array Field)) d none none (λ_=>none) (λ_=>none) (λ_=>none) none none (λ_=>none) (λ_=>none) (λ_ _=>none) (λ_ _=>none) (λ_ _=>none) (λa=>some a) (λ_ _ _=>none) (λ_=>none) (λ_=>none) (λ_ _=>none)
def Zy (d:TypeDesc):Option IntKind:=TypeDesc.casesOn (motive:=λ_=>Option IntKind) d none none (λa=>some a) (λ_=>none) (λ_=>none) none none (λ_=>none) (λ_=>none) (λ_ _=>none) (λ_ _=>none) (λ_ _=>none) (λ_=>none) (λ_ _ _=>none) (λ_=>none) (λ_=>none) (λ_ _=>none)
def Km (d:TypeDesc):Bool:=TypeDesc.casesOn (motive:=λ_=>Bool) d false false (λ_=>false) (λ_=>false) (λ_=>false) (true) false (λ_=>false) (λ_=>false) (λ_ _=>false) (λ_ _=>false) (λ_ _=>false) (λ_=>false) (λ_ _ _=>false) (λ_=>false) (λ_=>false) (λ_ _=>false)
def tdB (d:TypeDesc):Bool:=TypeDesc.casesOn (motive:=λ_=>Bool) d false (true) (λ_=>false) (λ_=>false) (λ_=>false) false false (λ_=>false) (λ_=>false) (λ_ _=>false) (λ_ _=>false) (λ_ _=>false) (λ_=>false) (λ_ _ _=>false) (λ_=>false) (λ_=>false) (λ_ _=>false)
def tdM (d:TypeDesc):Option (TypeId×TypeId):=TypeDesc.casesOn (motive:=λ_=>Option (TypeId×TypeId)) d none none (λ_=>none) (λ_=>none) (λ_=>none) none none (λ_=>none) (λ_=>none) (λ_ _=>none) (λa b=>some (a,b)) (λ_ _=>none) (λ_=>none) (λ_ _ _=>none) (λ_=>none) (λ_=>none) (λ_ _=>none)
def VL:V0->Option GV
 | .int k n=>some (.int k n)
 | .bool b=>some (.bool b)
 | .slice none 0 0=>some .snil
 | .pointer none=>some .pnil
 | .nilFunc=>some .fnil
 | .nilIface=>some .inil
 | .string s=>sn (mT (bV s)) λn=>sn (bV s).length λl=>some (.str n l)
 |_=>none
def abo:fY->Option (List GV)
 | []=>some []
 |v::vs=>ob (VL v) λx=>ob (abo vs) λa=>some (x::a)
def ofV:V0->Option GV
 | .agg cs=>ob (abo cs.toList) λa=>some (.agg a)
 |v=>VL v
def JD (s:Sem V0):Option GV:=match s with
 | .pure v=>VL v
 |_=>none
def XS (z:Int):Bool:=Int.casesOn (motive:=λ_=>Bool) z (λa=>Nat.blt a 9223372036854775808) (λa=>Nat.blt a 9223372036854775808)
def ab_ (k:IntKind):Bool:=IntKind.casesOn (motive:=λ_=>Bool) k false false false true false false false false
def gw (k:IntKind) (z:Int):Option GV:=fi z λz=>bif ab_ k then(bif XS z then some (.int k z)else none)else fi (k.wrap z) λz=>some (.int k z)
def eqK (a b:IntKind):Bool:=decide (a=b)
def aeB (c:BinOp) (k:IntKind) (a b:Int):Option GV:=BinOp.casesOn (motive:=λ_=>Option GV) c (gw k (a+b)) (gw k (a - b)) (JD (binOp .mul 0 (.int k a) (.int k b))) (JD (binOp .quo 0 (.int k a) (.int k b))) (JD (binOp .rem 0 (.int k a) (.int k b))) (JD (binOp .and 0 (.int k a) (.int k b))) (JD (binOp .or 0 (.int k a) (.int k b))) (JD (binOp .xor 0 (.int k a) (.int k b))) (JD (binOp .shl 0 (.int k a) (.int k b))) (JD (binOp .shr 0 (.int k a) (.int k b))) (JD (binOp .andNot 0 (.int k a) (.int k b))) (fb (eqI a b)) (fb (!eqI a b)) (fb (ltI a b)) (fb (!ltI b a)) (fb (ltI b a)) (fb (!ltI a b))
def KR (a:BinOp):Bool:=BinOp.casesOn (motive:=λ_=>Bool) a false false false false false false false false true true false false false false false false false
def adg (a b:Nat×Nat):Option GV:=bif Nat.blt (Nat.add a.2 b.2) 16777216 then sn (Nat.add a.1 (Nat.mul (Nat.pow 2 (Nat.mul 8 a.2)) b.1)) λn=>sn (Nat.add a.2 b.2) λl=>some (.str n l)else none
def ahi (c:BinOp) (a b:Nat×Nat):Option GV:=BinOp.casesOn (motive:=λ_=>Option GV) c (adg a b) none none none none none none none none none none (fb (RP a b)) (fb (!RP a b)) none none none none
def ahg (a:BinOp):Option GV:=BinOp.casesOn (motive:=λ_=>Option GV) a none none none none none none none none none none none (some (.bool true)) (some (.bool false)) none none none none
def ZS (c:BinOp) (a b:Bool):Option GV:=BinOp.casesOn (motive:=λ_=>Option GV) c none none none none none none none none none none none (fb (Ue a b)) (fb (!Ue a b)) none none none none
def lK (a:GF) (o:Operand):Option GV:=Operand.casesOn (motive:=λ_=>Option GV) o (λt=>GY a t) ofV (λ_=>none) (λf=>some (.fn f [] []))
def HN (c:GF) (l:List Operand):Option (List GV):=List.rec (motive:=λ_=>Option (List GV)) (some []) (λx _ a=>ob (lK c x) λv=>ob a λb=>some (v::b)) l
def wG (c:GF) (l:List (Nat×Operand)):Option (List (Nat×GV)):=List.rec (motive:=λ_=>Option (List (Nat×GV))) (some []) (λp _ a=>ob (lK c p.2) λv=>ob a λb=>some ((p.1,v)::b)) l
abbrev TB:=Nat->Option Ty
def Cc (a:TB) (T:TypeId):Option (TypeId×Ty):=ob (a T) λt=>ob (Zz t.desc) λe=>ob (a e) λb=>some (e,b)
def Po (b:TB) (l:List Field):Option (List (Nat×Nat)):=List.rec (motive:=λ_=>Option (List (Nat×Nat))) (some []) (λf _ a=>ob (b f.type) λt=>ob a λr=>some ((f.offset,t.size)::r)) l
def sH (b:TB) (T:TypeId):Option (List Field):=ob (b T) λt=>ob (tdF t.desc) λa=>some a.toList
def QO (a:TB) (T:TypeId):Option (List (Nat×Nat)):=ob (sH a T) λb=>Po a b
abbrev OR:=Option (GV×GH)
def kE (c a b:GV):Option GV:=ob c.asB λq=>Bool.casesOn (motive:=λ_=>Option GV) q (some b) (some a)
def aaX (v:GV):Option Nat:=bif v.isSnil then some 0 else ob v.asS λs=>some s.2.2.1
def SZ (t:Ty) (a b:GV):Option Bool:=Option.casesOn (motive:=λ_=>Option Bool) a.asI (Option.casesOn (motive:=λ_=>Option Bool) a.asStr (ob a.asB λx=>ob b.asB λy=>bif tdB t.desc then some (Ue x y)else none) λx=>ob b.asStr λy=>bif Km t.desc then some (RP x y)else none) λx=>ob b.asI λy=>ob (Zy t.desc) λ_=>bif eqK x.1 y.1 then some (eqI x.2 y.2)else none
def aaN (g:TB) (cs c:List GV) (d:List Field):Option Bool:=List.rec (motive:=λ_=>Option Bool) (some true) (λf _ e=>ob (g f.type) λt=>ob (Jb cs f.offset) λa=>ob (Jb c f.offset) λb=>ob (SZ t a b) λq=>bif q then e else some false) d
def Hm (t:Ty):Bool:=bif tdB t.desc then true else bif Km t.desc then true else Option.casesOn (motive:=λ_=>Bool) (Zy t.desc) false λ_=>true
def zF (c:TB) (a:List Field):Bool:=List.rec (motive:=λ_=>Bool) true (λf _ b=>Option.casesOn (motive:=λ_=>Bool) (c f.type) false λt=>bif Hm t then b else false) a
def Nt (T:Nat):Bool:=bif Nat.blt 31 T then Nat.blt T 512 else false
def Zh (a:TB) (c:BinOp) (T:TypeId) (v u:GV):Option GV:=Option.casesOn (motive:=λ_=>Option GV) v.asA (bif u.isSnil then ob (aaX v) λ_=>ob (a T) λt=>ob (Zz t.desc) λ_=>ZS c v.isSnil true else none) λd=>ob u.asA λe=>bif Nt T then ob (sH a T) λb=>bif zF a b then ob (aaN a d e b) λq=>ZS c q true else none else none
def rJ (d:TB) (c:BinOp) (T:TypeId) (v u:GV):Option GV:=
 Option.casesOn (motive:=λ_=>Option GV) v.asI
  (Option.casesOn (motive:=λ_=>Option GV) v.asStr (Option.casesOn (motive:=λ_=>Option GV) v.asB (bif v.isInil then(bif u.isInil then ob (d T) λt=>bif tdE t.desc then ahg c else none else none)else Zh d c T v u) λa=>ob u.asB λb=>ob (d T) λt=>bif tdB t.desc then ZS c a b else none) λa=>ob u.asStr λb=>ahi c a b)
  λa=>ob u.asI λb=>bif KR c then JD (binOp c 0 (.int a.1 a.2) (.int b.1 b.2))else bif eqK a.1 b.1 then aeB c a.1 a.2 b.2 else none
def UQ (c:UnOp) (v:GV):Option GV:=UnOp.casesOn (motive:=λ_=>Option GV) c (ob v.asI λa=>gw a.1 (0 - a.2)) none (ob v.asB λb=>fb (!b)) none
def acm (b:TB) (S D:TypeId) (v:GV):Option GV:=ob v.asI λa=>ob (b S) λs=>ob (Zy s.desc) λ_=>ob (b D) λt=>ob (Zy t.desc) λk=>fi (k.wrap a.2) λz=>some (.int k z)
def vB (o:Option GV) (d:Nat):Option Nat:=Option.casesOn (motive:=λ_=>Option Nat) o (some d) λv=>ob v.asI λa=>asN a.2
def abP (s:Nat×Nat) (l h:Nat):Option GV:=bif Nat.ble l h then(bif Nat.ble h s.2 then sn (Nat.mod (Nat.shiftRight s.1 (Nat.mul 8 l)) (Nat.pow 2 (Nat.mul 8 (Nat.sub h l)))) λn=>sn (Nat.sub h l) λk=>some (.str n k)else none)else none
def abN (s:Nat×Nat×Nat×Nat) (a l h:Nat):Option GV:=bif Nat.beq a s.2.2.2 then(bif Nat.ble l h then(bif Nat.ble h s.2.2.1 then sn (Nat.add s.2.1 (Nat.mul l a)) λo=>sn (Nat.sub h l) λk=>some (.sl s.1 o k a)else none)else none)else none
def abO (p:Nat×Nat) (n a l h:Nat):Option GV:=bif Nat.ble l h then(bif Nat.ble h n then(bif Nat.beq a 0 then none else sn (Nat.add p.2 (Nat.mul l a)) λo=>sn (Nat.sub h l) λk=>some (.sl p.1 o k a))else none)else none
def Bj (c:TB) (T:TypeId) (v:GV) (f b:Option GV) (H:GH):Option GV:=ob (vB f 0) λl=>ob (c T) λt=>
 Option.casesOn (motive:=λ_=>Option GV) v.asStr
  (Option.casesOn (motive:=λ_=>Option GV) v.asS
   (Bool.casesOn (motive:=λ_=>Option GV) v.isSnil (ob v.asP λp=>ob (tdA t.desc) λe=>ob (c e.2) λa=>ob (vB b e.1) λh=>ob (H.cells p.1) λd=>bif Nat.ble (Nat.add p.2 (Nat.mul e.1 a.size)) d.length then abO p e.1 a.size l h else none) (ob (Zz t.desc) λe=>ob (c e) λa=>ob (vB b 0) λh=>bif Nat.beq l 0 then(bif Nat.beq h 0 then some .snil else none)else none))
   λs=>ob (Zz t.desc) λe=>ob (c e) λa=>ob (vB b s.2.2.1) λh=>abN s a.size l h)
  λs=>ob (vB b s.2) λh=>bif Km t.desc then abP s l h else none
def HZ (a:TB) (T:TypeId) (f:Nat) (v:GV):Option GV:=ob v.asP λp=>ob (sH a T) λb=>ob (Jb b f) λq=>ob (a q.type) λc=>bif Nat.beq c.size 0 then none else sn (Nat.add p.2 q.offset) λo=>some (.ptr p.1 o)
def Du (t:Ty) (a:List GV) (o:Nat):Option GV:=bif Bb t.desc then ob (slc a o t.size) λr=>some (.agg r)else Jb a o
def Zo (a:TB) (T:TypeId) (f:Nat) (v:GV):Option GV:=ob v.asA λb=>ob (sH a T) λc=>ob (Jb c f) λq=>ob (a q.type) λd=>Du d b q.offset
def abM (a:TB) (T:TypeId) (s:Nat×Nat×Nat×Nat) (i:Nat):Option GV:=ob (Cc a T) λb=>bif Nat.blt i s.2.2.1 then sn (Nat.add s.2.1 (Nat.mul i b.2.size)) λo=>some (.ptr s.1 o)else none
def abL (a:TB) (T:TypeId) (p:Nat×Nat) (i:Nat):Option GV:=ob (a T) λt=>ob (tdA t.desc) λe=>ob (a e.2) λb=>bif Nat.blt i e.1 then sn (Nat.add p.2 (Nat.mul i b.size)) λo=>some (.ptr p.1 o)else none
def Ms (a:TB) (T:TypeId) (v w:GV):Option GV:=ob w.asI λn=>ob (asN n.2) λn=>Option.casesOn (motive:=λ_=>Option GV) v.asP (ob v.asS λs=>abM a T s n) λp=>abL a T p n
def vAt (a:TB) (T:TypeId) (v w:GV):Option GV:=ob v.asStr λs=>ob w.asI λn=>ob (asN n.2) λn=>ob (a T) λt=>bif Km t.desc then(bif Nat.blt n s.2 then sn (Nat.mod (Nat.shiftRight s.1 (Nat.mul 8 n)) 256) λb=>some (.int .u8 (.ofNat b))else none)else none
def aed (i:Nat) (v:GV):Option GV:=ob v.asT λa=>Jb a i
def SL (d:HB) (l:List (Nat×GV)):List GV->Option (List GV):=List.rec (motive:=λ_=>List GV->Option (List GV)) (λa=>some a) (λp _ c a=>ob (Jb d p.1) λq=>ob p.2.cells λb=>bif Nat.beq b.length q.2 then(bif Nat.beq q.2 0 then none else ob (Is b q.1 a) c)else none) l
def Js (b:Nat) (l:List (Nat×GV)):List GV->Option (List GV):=List.rec (motive:=λ_=>List GV->Option (List GV)) (λa=>some a) (λp _ d a=>ob p.2.cells λc=>bif Nat.beq c.length b then(bif Nat.beq b 0 then none else ob (Is c (Nat.mul p.1 b) a) d)else none) l
def DZ (a:TB) (T:TypeId):Option (List GV):=ob (a T) λt=>ob (ofV t.zero) λz=>z.cells
def Tv (a:TB) (T:TypeId) (c:List (Nat×GV)):Option GV:=ob (a T) λt=>ob (DZ a T) λd=>Option.casesOn (motive:=λ_=>Option GV) (tdF t.desc) (ob (tdA t.desc) λe=>ob (a e.2) λg=>ob (Js g.size c d) λb=>some (.agg b)) λ_=>ob (QO a T) λf=>ob (SL f c d) λb=>some (.agg b)
def PL (a:TB) (T:TypeId) (v:GV):Option GV:=ob (a T) λt=>Option.casesOn (motive:=λ_=>Option GV) v.asStr (ob (Zz t.desc) λ_=>ob (aaX v) λn=>some (.int .i64 (.ofNat n))) λs=>bif Km t.desc then some (.int .i64 (.ofNat s.2))else none
def afy (a:TB) (T:TypeId) (v:GV):Option GV:=ob (a T) λt=>ob (Zz t.desc) λ_=>bif v.isSnil then some (.int .i64 (.ofNat 0))else none
def PM (v u:GV):Option GV:=ob v.asI λa=>ob u.asI λb=>bif eqK a.1 b.1 then(bif ltI a.2 b.2 then some u else some v)else none
def Zn (v u:GV):Option GV:=ob v.asI λa=>ob u.asI λb=>bif eqK a.1 b.1 then(bif ltI b.2 a.2 then some u else some v)else none
def sR (b:TB) (T:TypeId) (v:GV) (H:GH):Option GV:=ob v.asP λp=>ob (H.cells p.1) λa=>ob (b T) λt=>Du t a p.2
def lQ (e:TB) (T:TypeId) (v u:GV) (H:GH):OR:=ob v.asP λp=>ob (H.cells p.1) λd=>ob (e T) λt=>ob u.cells λb=>bif Nat.beq b.length t.size then bif Nat.beq t.size 0 then none else ob (Is b p.2 d) λa=>H.setK p.1 (.cells a) λc=>some (.un,c)else none
def EC (v:GV) (H:GH):OR:=ob v.cells λb=>H.newK (.cells b) λh a=>some (.ptr h 0,a)
def rH (b:TB) (T:TypeId) (H:GH):OR:=ob (DZ b T) λc=>H.newK (.cells c) λh a=>some (.ptr h 0,a)
def RR (z:List GV) (n:Nat):List GV:=Nat.rec (motive:=λ_=>List GV) [] (λ_ a=>z++a) n
def fc {R:Type} (a:List GV):(List GV->R)->R:=List.rec (motive:=λ_=>(List GV->R)->R) (λk=>k []) (λx _ b k=>b λr=>k (x::r)) a
def pW (b:TB) (T:TypeId) (n:Nat) (f:List (Nat×GV)) (H:GH):OR:=ob (Cc b T) λa=>ob (DZ b a.1) λc=>bif Nat.beq c.length a.2.size then(bif Nat.blt (Nat.mul n a.2.size) 16777216 then(bif Nat.beq a.2.size 0 then none else ob (Js a.2.size f (RR c n)) λe=>H.newK (.cells e) λh d=>some (.sl h 0 n a.2.size,d))else none)else none
def Mu (b:TB) (T:TypeId) (v u:GV) (H:GH):OR:=ob (Cc b T) λa=>ob (DZ b a.1) λd=>ob v.asI λk=>ob u.asI λc=>bif eqI k.2 c.2 then ob (asN k.2) λk=>(bif Nat.beq d.length a.2.size then(bif Nat.blt (Nat.mul k a.2.bytes) 16777216 then(bif Nat.blt k 16777216 then(bif Nat.beq a.2.size 0 then none else fc (RR d k) λl=>H.newK (.cells l) λh e=>some (.sl h 0 k a.2.size,e))else none)else none)else none)else none
def lap {R:Type} (a b:List GV):(List GV->R)->R:=List.rec (motive:=λ_=>(List GV->R)->R) (λk=>k b) (λx _ c k=>c λr=>k (x::r)) a
def vH (H:GH) (a:Nat) (v:GV):Option (Nat×List GV):=bif v.isSnil then some (0,[])else ob v.asS λs=>bif Nat.beq s.2.2.2 a then ob (H.cells s.1) λcs=>ob (slc cs s.2.1 (Nat.mul s.2.2.1 a)) λr=>some (s.2.2.1,r)else none
def SG (H:GH) (v:GV):GH:=Option.casesOn (motive:=λ_=>GH) v.asS H λs=>H.del s.1
def Xs (H:GH) (v:GV) (f:GH->OR):OR:=Option.casesOn (motive:=λ_=>OR) v.asS (f H) λs=>H.delK s.1 f
def Ze (b:TB) (T e:TypeId) (v u:GV) (H:GH):OR:=bif v.isSnil then ob (Cc b T) λa=>ob (b e) λf=>ob (Zy f.desc) λ_=>ob (DZ b a.1) λc=>ob u.asI λk=>ob (asN k.2) λn=>bif Nat.beq c.length a.2.size then(bif Nat.blt (Nat.mul n (Nat.add a.2.bytes 1)) 16777216 then(bif Nat.beq a.2.size 0 then none else(bif Nat.beq n 0 then none else fc (RR c n) λl=>H.newK (.cells l) λh d=>some (.sl h 0 n a.2.size,d)))else none)else none else none
def M_ (b:TB) (T c:TypeId) (v u:GV) (H:GH):OR:=bif Nat.beq T c then ob (Cc b T) λa=>bif Nat.beq a.2.size 0 then none else ob (DZ b a.1) λf=>bif Nat.beq f.length a.2.size then ob (vH H a.2.size v) λp=>ob (vH H a.2.size u) λq=>Nat.casesOn (motive:=λ_=>OR) q.1 (some (v,H)) (λ_=>sn (Nat.add p.1 q.1) λn=>bif Nat.blt (Nat.mul n (Nat.add a.2.bytes 1)) 16777216 then lap p.2 q.2 λl=>Xs H v λe=>e.newK (.cells l) λh d=>some (.sl h 0 n a.2.size,d)else none)else none else Ze b T c v u H
def acn (g:TB) (T:TypeId) (v u:GV) (H:GH):OR:=ob v.asS λs=>ob u.asS λr=>ob (Cc g T) λb=>bif Nat.beq s.2.2.2 b.2.size then(bif Nat.beq r.2.2.2 b.2.size then(bif Nat.beq r.2.2.1 s.2.2.1 then ob (H.cells r.1) λe=>ob (slc e r.2.1 (Nat.mul r.2.2.1 b.2.size)) λc=>ob (H.cells s.1) λf=>List.casesOn (motive:=λ_=>OR) c none (λ_ _=>ob (Is c s.2.1 f) λa=>H.setK s.1 (.cells a) λd=>some (.int .i64 (.ofNat r.2.2.1),d))else none)else none)else none
def IZ (H:GH):OR:=H.newK (.mp []) λh a=>some (.map h,a)
def Un (a b:GV):Option Bool:=Option.casesOn (motive:=λ_=>Option Bool) a.asI (ob a.asStr λx=>ob b.asStr λy=>some (RP x y)) λx=>ob b.asI λy=>bif eqK x.1 y.1 then some (eqI x.2 y.2)else none
def QD (k:GV) (a:List (GV×GV)):Option (Option GV):=List.rec (motive:=λ_=>Option (Option GV)) (some none) (λe _ c=>ob (Un k e.1) λb=>bif b then some (some e.2)else c) a
def LJ (t:Ty) (k:GV):Bool:=Option.casesOn (motive:=λ_=>Bool) k.asI (Option.casesOn (motive:=λ_=>Bool) k.asStr false (λ_=>Km t.desc)) (λx=>Option.casesOn (motive:=λ_=>Bool) (Zy t.desc) false (λ_=>true))
def Yd (a:TB) (T:TypeId):Option (Ty×Ty):=ob (a T) λt=>ob (tdM t.desc) λb=>ob (a b.1) λc=>ob (a b.2) λd=>some (c,d)
def aco (c:TB) (T:TypeId) (a:Bool) (v k:GV) (H:GH):Option GV:=ob v.asM λh=>ob (H.get h) λo=>ob o.asM λb=>ob (Yd c T) λt=>bif LJ t.1 k then ob (QD k b) λr=>ob (ofV t.2.zero) λz=>Option.casesOn (motive:=λ_=>Option GV) r (bif a then some (.tup [z,.bool false])else some z) (λg=>bif a then some (.tup [g,.bool true])else some g)else none
def Zm (c:TB) (T:TypeId) (v k u:GV) (H:GH):OR:=ob v.asM λh=>ob (H.get h) λo=>ob o.asM λa=>ob (Yd c T) λt=>bif LJ t.1 k then ob (QD k a) λr=>Option.casesOn (motive:=λ_=>OR) r (H.setK h (.mp (a++[(k,u)])) λb=>some (.un,b)) (λ_=>none)else none
section
variable {R:Type}
abbrev KT (R:Type):=GF->GH->(GV->GH->Option R)->Option R
def k1 (x:Operand) (f:GV->Option GV):KT R:=λa H k=>ob (some x) λx=>ob (lK a x) λv=>ob (f v) λg=>k g H
def k2 (x y:Operand) (f:GV->GV->Option GV):KT R:=λa H k=>ob (some x) λx=>ob (lK a x) λv=>ob (lK a y) λu=>ob (f v u) λg=>k g H
def k3 (x y z:Operand) (f:GV->GV->GV->Option GV):KT R:=λa H k=>ob (some x) λx=>ob (lK a x) λv=>ob (lK a y) λu=>ob (lK a z) λt=>ob (f v u t) λg=>k g H
def Kd (x:Operand):KT R:=λa H k=>ob (some x) λx=>ob (lK a x) λv=>k v H
def kFn (c:Fn) (first a:Array Operand):KT R:=match c with
 | .func f=>λb H k=>ob (HN b first.toList) λd=>ob (HN b a.toList) λe=>k (.fn f d e) H
 |_=>λ_ _ _=>none
def Jp (a:GF) (o:Option Operand):Option (Option GV):=Option.casesOn (motive:=λ_=>Option (Option GV)) o (some none) λx=>ob (lK a x) λv=>some (some v)
def adG (e:TB) (T:TypeId) (x:Operand) (c b d:Option Operand):KT R:=Option.casesOn (motive:=λ_=>KT R) d (λa H k=>ob (some x) λx=>ob (lK a x) λv=>ob (Jp a c) λl=>ob (Jp a b) λh=>ob (Bj e T v l h H) λg=>k g H) (λ_ _ _ _=>none)
def adF (b:TB) (T:TypeId) (a:List (Nat×Operand)):KT R:=λd H k=>ob (wG d a) λc=>ob (Tv b T c) λg=>k g H
def eH (r:OR) (k:GV->GH->Option R):Option R:=ob r λp=>Prod.casesOn (motive:=λ_=>Option R) p λg h=>k g h
def Uk (a:TB) (T:TypeId) (x:Operand):KT R:=λb H k=>ob (some x) λx=>ob (lK b x) λv=>ob (sR a T v H) λg=>k g H
def OS (b:TB) (T:TypeId) (x y:Operand):KT R:=λa H k=>ob (some x) λx=>ob (lK a x) λv=>ob (lK a y) λu=>eH (lQ b T v u H) k
def abc (x:Operand):KT R:=λa H k=>ob (some x) λx=>ob (lK a x) λv=>eH (EC v H) k
def adE (a:TB) (T:TypeId):KT R:=λb H k=>eH (rH a T H) k
def abe (b:TB) (T:TypeId) (n:Nat) (a:List (Nat×Operand)):KT R:=λd H k=>ob (wG d a) λc=>eH (pW b T n c H) k
def Um (b:TB) (T:TypeId) (x y:Operand):KT R:=λa H k=>ob (some x) λx=>ob (lK a x) λv=>ob (lK a y) λu=>eH (Mu b T v u H) k
def XX (r:Option Operand):KT R:=Option.casesOn (motive:=λ_=>KT R) r (λa H k=>eH (IZ H) k) (λ_ _ _ _=>none)
def Ul (c:TB) (T:TypeId) (x y:Operand) (b:Bool):KT R:=λa H k=>ob (some x) λx=>ob (lK a x) λv=>ob (lK a y) λu=>ob (aco c T b v u H) λg=>k g H
def OQ (b:TB) (T:TypeId) (x y z:Operand):KT R:=λa H k=>ob (some x) λx=>ob (lK a x) λv=>ob (lK a y) λu=>ob (lK a z) λt=>eH (Zm b T v u t H) k
def LG (a:List Operand) (f:Operand->KT R):KT R:=List.casesOn (motive:=λ_=>KT R) a (λ_ _ _=>none) λx r=>List.casesOn (motive:=λ_=>KT R) r (f x) (λ_ _ _ _ _=>none)
def FY (a:List Operand) (f:Operand->Operand->KT R):KT R:=List.casesOn (motive:=λ_=>KT R) a (λ_ _ _=>none) λx r=>List.casesOn (motive:=λ_=>KT R) r (λ_ _ _=>none) λy r=>List.casesOn (motive:=λ_=>KT R) r (f x y) (λ_ _ _ _ _=>none)
def XV (c:TB) (a:List TypeId) (x y:Operand):KT R:=λb H k=>ob (Jb a 0) λT=>ob (Jb a 1) λT'=>ob (lK b x) λv=>ob (lK b y) λu=>eH (M_ c T T' v u H) k
def Qy (b:TB) (c:List TypeId) (x y:Operand):KT R:=λa H k=>ob (Jb c 0) λT=>ob (lK a x) λv=>ob (lK a y) λu=>eH (acn b T v u H) k
def VD (a:TB) (b:List TypeId) (x:Operand):KT R:=λc H k=>ob (Jb b 0) λT=>ob (lK c x) λv=>ob (afy a T v) λg=>k g H
def VE (a:TB) (b:List TypeId) (x:Operand):KT R:=λc H k=>ob (Jb b 0) λT=>ob (lK c x) λv=>ob (PL a T v) λg=>k g H
def SX (a:TB) (xs:Array Operand) (b:Array TypeId):Builtin->KT R
 | .len=>LG xs.toList (VE a b.toList)
 | .max=>FY xs.toList λx y=>k2 x y PM
 | .min=>FY xs.toList λx y=>k2 x y Zn
 | .append=>FY xs.toList (XV a b.toList)
 | .copy=>FY xs.toList (Qy a b.toList)
 | .cap=>LG xs.toList (VD a b.toList)
 |_=>λ_ _ _=>none
abbrev CH:=Nat->List GV->GH->OR
def XW (b:CH) (d:Array Operand) (f:Operand):KT R:=λa H k=>ob (lK a f) λv=>ob v.asF λg=>ob (HN a d.toList) λc=>eH (b g.1 (g.2.1++c++g.2.2) H) k
def aeZ (b:TB) (a:CH) (c:Call):KT R:=Callee.casesOn (motive:=λ_=>KT R) c.callee (XW a c.args) (λ_ _ _ _ _=>none) (SX b c.args c.argTypes)
end
def PO {R:Type} (d:TB) (g:CH) (o:Op):KT R:=Op.casesOn (motive:=λ_=>KT R) o (λa=>Kd a) (λa=>Kd a) (λa b c=>k3 a b c kE) (λa=>adE d a) (λ_ b=>abc b) (λa b=>adF d a b.toList) (λa b c=>abe d a b c.toList) (λ_ _ _ _=>λ_ _ _=>none) (λa b=>Uk d a b) (λa b c=>OS d a b c) (λ_=>λ_ _ _=>none) (λ_=>λ_ _ _=>none) (λa=>k1 a GV.nilck) (λa b c e _=>k2 c e (rJ d a b)) (λa _ c=>k1 c (UQ a)) (λa b c=>k1 c (acm d a b)) (λ_ _=>λ_ _ _=>none) (λ_ _=>λ_ _ _=>none) (λa b c=>kFn a b c) (λ_ b=>XX b) (λ_ _=>λ_ _ _=>none) (λa b c=>Um d a b c) (λa b c e f=>adG d a b c e f) (λa b c=>k1 b (HZ d a c)) (λa b c=>k1 b (Zo d a c)) (λa b c=>k2 b c (Ms d a)) (λa b c=>k2 b c (vAt d a)) (λa b c e=>Ul d a b c e) (λa b c e=>OQ d a b c e) (λ_ _ _=>λ_ _ _=>none) (λ_ _ _ _=>λ_ _ _=>none) (λ_ _=>λ_ _ _=>none) (λ_ _=>λ_ _ _=>none) (λ_=>λ_ _ _=>none) (λ_ _ _ _=>λ_ _ _=>none) (λa b=>k1 a (aed b)) (λa=>aeZ d g a) (λ_=>λ_ _ _=>none) (λ_=>λ_ _ _=>none) (λ_=>λ_ _ _=>none) (λ_ _=>λ_ _ _=>none) (λ_ _ _=>λ_ _ _=>none) (λ_ _=>λ_ _ _=>none)
def afx (x:Operand):Nat:=Operand.casesOn (motive:=λ_=>Nat) x (λt=>Nat.shiftLeft 1 t) (λ_=>0) (λ_=>0) (λ_=>0)
def afw (all:List Oper) (o:Oper):Nat:=Nat.lor (o.op.operands.toList.foldl (λm x=>Nat.lor m (afx x)) 0) (match o.guard with
 |none=>0
 |some g=>match Jb all g.1 with
  |some a=>(match a.dst with|some d=>Nat.shiftLeft 1 d|none=>0)
  |none=>0)
def ahx (m:Nat) (d:Option Nat):Nat:=match d with
 |none=>m
 |some d=>bif Nat.testBit m d then Nat.sub m (Nat.shiftLeft 1 d)else m
def abi (all l:List Oper) (m:Nat):Nat:=l.foldr (λo m=>Nat.lor (ahx m o.dst) (afw all o)) m
structure Cx where
 res:List ResultVar
 retm:Nat
 env:List (Nat×Nat)
def DG (e:List (Nat×Nat)) (id:Nat):Nat:=List.rec (motive:=λ_=>Nat) 0 (λp _ a=>bif Nat.beq p.1 id then p.2 else a) e
def afc (c:Code) (d:Nat):Nat->List (Nat×Nat)->Nat:=Code.rec (motive:=λ_=>Nat->List (Nat×Nat)->Nat)
 (λm _=>m) (λ_ b _ m _=>abi b.toList b.toList m) (λ_ _ f a m e=>f (a m e) e) (λx _ _ f a m e=>Nat.lor (afx x) (Nat.lor (f m e) (a m e))) (λid _ a m e=>a m ((id,m)::e))
 (λ_ a _ e=>Nat.lor (a 0 e) (a (a 0 e) e)) (λ_ _ _ _ _ _ _ _=>0) (λid _ e=>DG e id) (λ_ _ _ _=>0) (λ_ _ _=>0) (λ_ _ _=>0) (λ_ _=>d) (λ_ _ _=>0) c
def live (c:Code) (m:Nat) (a:Cx):Nat:=afc c a.retm m a.env
def ae_ (f m:Nat):Nat->List Nat:=Nat.rec (motive:=λ_=>Nat->List Nat) (λ_=>[]) (λ_ a i=>bif Nat.testBit m i then i::a (Nat.succ i)else a (Nat.succ i)) f
def mL (m:Nat):List Nat:=ae_ (Nat.succ (Nat.log2 m)) m 0
def Ep (c:GF) (b:List Nat):List GV:=List.rec (motive:=λ_=>List GV) [] (λk _ a=>Option.casesOn (motive:=λ_=>GV) (GY c k) .bad (λv=>v)::a) b
def lF {R:Type} (d:List Nat):List GV->(GF->Option R)->Option R:=List.rec (motive:=λ_=>List GV->(GF->Option R)->Option R) (λb k=>List.casesOn (motive:=λ_=>Option R) b (k []) λ_ _=>none) (λa _ c b k=>List.casesOn (motive:=λ_=>Option R) b none λv r=>c r λe=>k ((a,v)::e)) d
inductive Ex where
 |normal
 |exit (id:Nat)
 |ret
inductive acD where
 |fn (f:Nat)
 |loop (b:Code) (cx:Cx)
structure GS where
 σ:GF
 H:GH
structure P_ where
 e:Ex
 vs:List GV
 H:GH
abbrev RS:=Option P_
abbrev QH0:=List GV->GH->RS
abbrev QH:=Nat->List GV->GH->RS
abbrev IH:=acD->List GV->GH->RS
def adS (b:TB) (s:GS) (r:ResultVar):Option GV:=ResultVar.casesOn (motive:=λ_=>Option GV) r (λt=>GY s.σ t) λa T=>ob (GY s.σ a) λv=>sR b T v s.H
def QW (b:TB) (s:GS) (l:List ResultVar):Option (List GV):=List.rec (motive:=λ_=>Option (List GV)) (some []) (λr _ a=>ob (adS b s r) λv=>ob a λc=>some (v::c)) l
def KV (l:List ResultVar):Nat:=List.rec (motive:=λ_=>Nat) 0 (λr _ b=>Nat.lor (ResultVar.casesOn (motive:=λ_=>Nat) r (λt=>Nat.shiftLeft 1 t) (λa _=>Nat.shiftLeft 1 a)) b) l
def VN (a:List GV):GV:=List.casesOn (motive:=λ_=>GV) a (.tup []) (λv r=>List.casesOn (motive:=λ_=>GV) r v (λ_ _=> .tup a))
def putD (d:Option Nat) (v:GV) (a:GF):GF:=Option.casesOn (motive:=λ_=>GF) d a λd=>(d,v)::a
def IF (a:List Nat) (s:GS):RS:=some ⟨.normal,Ep s.σ a,s.H⟩
def Tl (b:TB) (a:Cx) (s:GS):RS:=ob (QW b s a.res) λc=>some ⟨.ret,c,s.H⟩
def aca (a:List Nat) (k:GS->RS) (r:RS):RS:=ob r λo=>Ex.casesOn (motive:=λ_=>RS) o.e (lF a o.vs λb=>k ⟨b,o.H⟩) (λ_=>some o) (some o)
def nB (id:Nat) (r:RS):RS:=ob r λo=>Ex.casesOn (motive:=λ_=>RS) o.e (some o) (λi=>Bool.casesOn (motive:=λ_=>RS) (Nat.beq i id) (some o) (some ⟨.normal,o.vs,o.H⟩)) (some o)
def FD (g:GV) (H:GH):OR:=some (g,H)
def opK (d:Option Nat) (s:GS) (k:GS->RS) (g:GV) (H:GH):RS:=k ⟨putD d g s.σ,H⟩
def evG (c:TB) (a:CH) (o:Oper) (s:GS) (b:Bool) (v:GV):OR:=GV.casesOn (motive_1:=λ_=>OR) v (λ_ _=>none) (λq=>Bool.casesOn (motive:=λ_=>OR) (Ue q b) (some (.un,s.H)) (PO c a o.op s.σ s.H FD)) (λ_ _=>none) (λ_ _=>none) none (λ_ _ _ _=>none) none (λ_=>none) (λ_ _ _=>none) none none (λ_=>none) (λ_=>none) (some (.un,s.H)) none (λ_=>none)
def Lw (b:TB) (a:CH) (all:List Oper) (o:Oper) (k:GS->RS) (s:GS):RS:=Option.casesOn (motive:=λ_=>RS) o.guard (PO b a o.op s.σ s.H (opK o.dst s k)) λg=>ob (Jb all g.1) λd=>ob d.dst λc=>ob (GY s.σ c) λv=>eH (evG b a o s g.2 v) (opK o.dst s k)
def Hk (c:TB) (b:CH) (all:List Oper) (k:GS->RS) (l:List Oper):GS->RS:=List.rec (motive:=λ_=>GS->RS) k (λo _ a s=>Lw c b all o a s) l
def o_:Op->Bool
 | .load .. => true
 |_=>false
def OP:Op->Bool
 | .lookup .. => true
 |_=>false
def ldH (a:GF):Op->Option Nat
 | .load _ x=>ob (some x) λx=>ob (lK a x) λv=>ob v.asP λp=>some p.1
 |_=>none
def vck {a:Type} (H:GH) (h v:Nat) (k:Option a):Option a:=ob (H.ver h) λu=>Bool.casesOn (motive:=λ_=>Option a) (Nat.beq u v) none k
def pck (H:GH) (e:Option (Nat×Nat)) (k:Option Unit):Option Unit:=Option.casesOn (motive:=λ_=>Option Unit) e k λp=>vck H p.1 p.2 k
def Ls (m:List Nat) (i:Nat) (H:GH) (b:List (Nat×Option (Nat×Nat))):Option Unit:=List.rec (motive:=λ_=>Option Unit) (some ()) (λp _ a=>Bool.casesOn (motive:=λ_=>Option Unit) (before m i p.1) (pck H p.2 a) a) b
def Lt (m:List Nat) (i h v:Nat) (b:List (Nat×GH)):Option (Option (Nat×Nat)):=List.rec (motive:=λ_=>Option (Option (Nat×Nat))) (some (some (h,v))) (λq _ a=>Bool.casesOn (motive:=λ_=>Option (Option (Nat×Nat))) (before m i q.1) (vck q.2 h v a) a) b
def ldV (m:List Nat) (i:Nat) (a:List (Nat×GH)) (H:GH) (l:Option Nat):Option (Option (Nat×Nat)):=Option.casesOn (motive:=λ_=>Option (Option (Nat×Nat))) l (some none) λh=>ob (H.ver h) λv=>Lt m i h v a
abbrev WT:=Nat->List (Nat×Option (Nat×Nat))->List (Nat×GH)->GS->RS
def Xz (f:TB) (d:CH) (all:List Oper) (m:List Nat) (o:Oper) (K:WT):WT:=λi b a s=>
 Bool.casesOn (motive:=λ_=>RS) (fS o.op)
  (Bool.casesOn (motive:=λ_=>RS) (o_ o.op) (Lw f d all o (K (Nat.succ i) b a) s)
   (Lw f d all o (λc=>ob (ldV m i a s.H (ldH s.σ o.op)) λe=>K (Nat.succ i) ((i,e)::b) a c) s))
  (Lw f d all o (λc=>ob (Ls m i c.H b) λ_=>K (Nat.succ i) b ((i,s.H)::a) c) s)
def evW (c:TB) (a:CH) (all:List Oper) (m:List Nat) (k:GS->RS) (l:List Oper):WT:=List.rec (motive:=λ_=>WT) (λ_ _ _ s=>k s) (λo _ b=>Xz c a all m o b) l
def GJ (l:List Oper) (p:Op->Bool):Bool:=(List.range l.length).all λi=>match l[i]? with
 |none=>true
 |some o=> !p o.op||(List.range l.length).all λj=>match l[j]? with
  |none=>true
  |some a=> !fS a.op||before (qG l) i j||before (qG l) j i
def aee (a:Bool) (l:List Oper):Bool:=Bool.casesOn (motive:=λ_=>Bool) a false (!GJ l o_)
def NP (r:RS):OR:=ob r λo=>Ex.casesOn (motive:=λ_=>OR) o.e none (λ_=>none) (some (VN o.vs,o.H))
structure GP where
 tab:TB
 cat:Nat
 ext:Nat->List GV->GH->Option (GV×GH)
 exn:Nat->List GV->Option GV
def AH:GV:= .int .i64 (.ofNat 0)
def aeE (l:CH) (m:List GV) (H:GH):OR:=List.casesOn (motive:=λ_=>OR) m none λu r=>List.casesOn (motive:=λ_=>OR) r (ob u.asF λg=>H.newK (.cells [AH]) λa c=>c.newK (.cells [AH]) λb d=>ob (l g.1 (g.2.1++g.2.2) d) λx=>ob (x.2.cells a) λj=>ob (x.2.cells b) λk=>
 bif Nat.beq j.length 1 then(bif Nat.beq k.length 1 then x.2.setK a (.cells [AH]) λe=>e.setK b (.cells [AH]) λf=>f.delK a λh=>h.delK b λi=>some (.tup [AH,AH],i)else none)else none) (λ_ _=>none)
def aeD (a:IH):CH:=λf b H=>NP (a (.fn f) b H)
def callQ (G:GP) (q:QH):CH:=λf a H=>Bool.casesOn (motive:=λ_=>OR) (Nat.beq f G.cat) (Option.casesOn (motive:=λ_=>OR) (G.ext f a H) (Option.casesOn (motive:=λ_=>OR) (G.exn f a) (NP (q f a H)) λg=>some (g,H)) λr=>some r) (aeE (λf a H=>NP (q f a H)) a H)
def FL (G:GP) (a:IH):CH:=callQ G λf b H=>a (.fn f) b H
abbrev ET:=Nat->Cx->(GS->RS)->GS->RS
abbrev LH:=Code->Cx->QH0
def evC (g:TB) (ch:CH) (lp:LH) (c:Code):ET:=Code.rec (motive:=λ_=>ET)
 (λ_ _ k s=>k s)
 (λ_ d h _ _ k s=>Bool.casesOn (motive:=λ_=>RS) (aee h d.toList) (Hk g ch d.toList k d.toList s) (evW g ch d.toList (qG d.toList) k d.toList 0 [] [] s))
 (λ_ b f e m a k s=>f (live b m a) a (e m a k) s)
 (λx _ _ f e m a k s=>ob (lK s.σ x) λv=>ob v.asB λq=>aca (mL m) k (Bool.casesOn (motive:=λ_=>RS) q (e m a (IF (mL m)) s) (f m a (IF (mL m)) s)))
 (λid _ e m a k s=>aca (mL m) k (nB id (e m ⟨a.res,a.retm,(id,m)::a.env⟩ (IF (mL m)) s)))
 (λb _ _ a _ s=>lp b a (Ep s.σ (mL (live (.loop b) 0 a))) s.H)
 (λ_ _ _ _ _ _ _ _ _ _=>none)
 (λid _ a _ s=>some ⟨.exit id,Ep s.σ (mL (DG a.env id)),s.H⟩)
 (λ_ _ _ _ _ _=>none) (λ_ _ _ _ _=>none) (λ_ _ _ _ _=>none)
 (λ_ a _ s=>Tl g a s)
 (λ_ _ _ _ _=>none) c
def Wd (b:TB) (c:CH) (d:LH) (fn:Func) (e:List GV) (H:GH):RS:=ob fn.body λa=>lF (List.range (Nat.add fn.params.size fn.nfree)) e λf=>evC b c d a (KV fn.results.toList) ⟨fn.results.toList,KV fn.results.toList,[]⟩ (Tl b ⟨fn.results.toList,KV fn.results.toList,[]⟩) ⟨f,H⟩
def evL (f:TB) (d:CH) (c:LH) (b:Code) (a:Cx) (g:List GV) (H:GH):RS:=lF (mL (live (.loop b) 0 a)) g λh=>ob (evC f d c b (live (.loop b) 0 a) a (IF (mL (live (.loop b) 0 a))) ⟨h,H⟩) λo=>Ex.casesOn (motive:=λ_=>RS) o.e (c b a o.vs o.H) (λ_=>some o) (some o)
abbrev FT:=Nat->Option Func
def step (G:GP) (d:FT) (a:IH) (t:acD):List GV->GH->RS:=acD.casesOn (motive:=λ_=>List GV->GH->RS) t (λf g H=>ob (d f) λe=>Wd G.tab (FL G a) (λb c=>a (.loop b c)) e g H) (evL G.tab (FL G a) λb c=>a (.loop b c))
def run (G:GP) (b:FT) (a:Nat):IH:=Nat.rec (motive:=λ_=>IH) (λ_ _ _=>none) (λ_ c=>step G b c) a
def TZ (G:GP) (c:FT) (b:Nat) (f:FuncId) (a:List GV) (H:GH):OR:=FL G (run G c b) f a H
def H0:GH:=⟨0,.lf⟩
end
section
variable {α β:Type}
theorem aD {o:Option α} {f:α->Option β} {r:β}:ob o f=some r↔∃x,o=some x/\f x=some r:=by
 cases o<;>simp[ob]
theorem bY {b:Bool} {x:Option α} {r:α}:(bif b then x else none)=some r↔b=true/\x=some r:=by
 cases b<;>simp
theorem lI {b:Bool} {x:Option α} {r:α}:(bif b then none else x)=some r↔b=false/\x=some r:=by
 cases b<;>simp
theorem yM (n:Nat) (f:Nat->α):sn n f=f n:=by cases n<;>rfl
theorem Nw (z:Int) (f:Int->α):fi z f=f z:=by cases z<;>simp[fi,yM]
theorem wH (l:List α):∀n,Jb l n=l[n]?:=by
 induction l with
 |nil=>intro n;rfl
 |cons x l a=>intro n;cases n with
  |zero=>rfl
  |succ n=>exact a n
theorem abk {v:α}:∀{l a:List α} {n:Nat},abj v l n=some a->n<l.length/\a=l.set n v:=by
 intro l
 induction l with
 |nil=>intro a n h;cases h
 | cons x l ih => intro a n h; cases n with
  |zero=>cases h;simp
  |succ n=>
   obtain⟨r,b,c⟩:=aD.1 (show ob (abj v l n) (λf=>some (x::f))=some a from h);obtain⟨d,e⟩:=ih b;cases c;simp[d,e]
theorem afv:∀{l r:List α} {n:Nat},tk l n=some r->n<=l.length/\r=l.take n:=by
 intro l
 induction l with
 |nil=>intro r n h;cases n with
  |zero=>cases h;simp
  |succ n=>cases h
 | cons x l ih => intro r n h; cases n with
  |zero=>cases h;simp
  |succ n=>
   obtain⟨q,a,b⟩:=aD.1 (show ob (tk l n) (λr=>some (x::r))=some r from h);obtain⟨c,d⟩:=ih a;cases b;simp[c,d]
theorem aeG:∀{l r:List α} {n:Nat},dp l n=some r->n<=l.length/\r=l.drop n:=by
 intro l
 induction l with
 |nil=>intro r n h;cases n with
  |zero=>cases h;simp
  |succ n=>cases h
 |cons x l a=>intro r n h;cases n with
  |zero=>cases h;simp
  |succ n=>have:=a (show dp l n=some r from h);simpa using this
theorem Pp {l r:List α} {o n:Nat} (h:slc l o n=some r):o+n<=l.length/\r=(l.drop o).take n:=by
 obtain⟨q,a,b⟩:=aD.1 h;obtain⟨d,rfl⟩:=aeG a;obtain⟨c,rfl⟩:=afv b;simp at c;exact⟨by omega,rfl⟩
def wr (b:List α) (o:Nat) (a:List α):List α:=a.take o++b++a.drop (o+b.length)
end
theorem KQ:∀{b c a:List GV} {o:Nat},Is b o c=some a->(b≠[]->o+b.length<=c.length)/\a.length=c.length/\∀i,a[i]? = if o<=i/\i<o+b.length then b[i - o]? else c[i]?:=by
 intro b
 induction b with
 |nil=>
  intro c a o h;cases h;refine⟨λh=>absurd Z h,rfl,λi=> ?_⟩
  rw[if_neg (by simp)]
 | cons v b ih =>
  intro c a o h;obtain⟨p,l,f⟩:=aD.1 (show ob (abj v c o) (λa=>sn (Nat.succ o) λn=>Is b n a)=some a from h);rw[yM]at f;obtain⟨m,rfl⟩:=abk l;obtain⟨g,j,k⟩:=ih f;simp only[zA1,Nat.succ_eq_add_one]at g j k;refine⟨λ_=> ?_,j,λi=> ?_⟩
  ·cases b with
   |nil=>simp;omega
   |cons y q=>have:=g (by simp);simp at this ⊢;omega
  rw[k i];by_cases e:i=o
  ·subst e;rw[if_neg (by omega),if_pos (by simp),zAh m];simp
  ·by_cases d:o+1<=i/\i<o+1+b.length
   ·rw[if_pos d,if_pos (by simp;omega)];have:i - o=(i - (o+1))+1:=by omega
    rw[this,List.getElem?_cons_succ]
   ·rw[if_neg d,if_neg (by simp;omega),zAq (Ne.symm e)]
theorem Qh {j:Type} (x:Option j):∀(f n m:Nat),n<f->(EJ x f n).get m=if m=n then x else none:=by
 intro f
 induction f with
 |zero=>intro n m h;omega
 | succ f ih =>
  intro n m h;show Tr.get (bif Nat.beq n 0 then .nd x .lf .lf else bif Nat.beq (Nat.mod n 2) 1 then .nd none (EJ x f (Nat.div n 2)) .lf else .nd none .lf (EJ x f (Nat.sub (Nat.div n 2) 1))) m=_;have p:∀(a:Option j) (l r:Tr j),Tr.get (.nd a l r) m=if m=0 then a else if m%2=1 then l.get (m / 2)else r.get (m / 2 - 1):=λa l r=>by
   show Bool.casesOn (motive:=λ_=>Option j) (Nat.beq m 0) (Bool.casesOn (motive:=λ_=>Option j) (Nat.beq (Nat.mod m 2) 1) (r.get (Nat.sub (Nat.div m 2) 1)) (l.get (Nat.div m 2))) a=_;by_cases i:m=0
   ·subst i;rfl
   ·rw[if_neg i,oZ i];by_cases b:m%2=1
    ·rw[if_pos b];have:Nat.beq (Nat.mod m 2) 1=true:=by rw[show Nat.mod m 2=1 from b];rfl
     rw[this];rfl
    ·rw[if_neg b];have:Nat.beq (Nat.mod m 2) 1=false:=oZ b;rw[this];rfl
  have d:∀k,(Tr.lf:Tr j).get k=none:=λ_=>rfl;have q:Nat.div n 2=n / 2:=rfl;have s:Nat.sub (Nat.div n 2) 1=n / 2 - 1:=rfl;by_cases i:n=0
  ·subst i;show Tr.get (.nd x .lf .lf) m=_;simp only[p,d];by_cases g:m=0<;>simp[g]
  ·rw[oZ i];by_cases b:n%2=1
   ·have:Nat.beq (Nat.mod n 2) 1=true:=by rw[show Nat.mod n 2=1 from b];rfl
    simp only[this,cond_true,cond_false,p,d,q];rw[ih _ _ (by omega)];by_cases g:m=0
    ·rw[if_pos g,if_neg (by omega)]
    ·rw[if_neg g];by_cases c:m%2=1
     ·rw[if_pos c];by_cases o:m=n
      ·subst o;simp
      ·rw[if_neg o,if_neg (by omega)]
     ·rw[if_neg c,if_neg (by intro e;subst e;exact c b)]
   ·have:Nat.beq (Nat.mod n 2) 1=false:=oZ b;simp only[this,cond_true,cond_false,p,d,s];rw[ih _ _ (by omega)];by_cases g:m=0
    ·rw[if_pos g,if_neg (by omega)]
    ·rw[if_neg g];by_cases c:m%2=1
     ·rw[if_pos c,if_neg (by intro e;subst e;exact b c)]
     ·rw[if_neg c];by_cases o:m=n
      ·subst o;simp
      ·rw[if_neg o,if_neg (by omega)]
theorem tY {f:Type} (x:Option f):∀(t:Tr f) (n m:Nat),(t.set x n).get m=if m=n then x else t.get m:=by
 intro t
 induction t with
 |lf=>intro n m;exact Qh x _ n m (Nat.lt_succ_self n)
 | nd a l r ihl ihr =>
  intro n m;have h:∀(a:Option f) (l r:Tr f),Tr.get (.nd a l r) m=if m=0 then a else if m%2=1 then l.get (m / 2)else r.get (m / 2 - 1):=λa l r=>by
   show Bool.casesOn (motive:=λ_=>Option f) (Nat.beq m 0) (Bool.casesOn (motive:=λ_=>Option f) (Nat.beq (Nat.mod m 2) 1) (r.get (Nat.sub (Nat.div m 2) 1)) (l.get (Nat.div m 2))) a=_;by_cases g:m=0
   ·subst g;rfl
   ·rw[if_neg g,oZ g];by_cases d:m%2=1
    ·rw[if_pos d];have:Nat.beq (Nat.mod m 2) 1=true:=by rw[show Nat.mod m 2=1 from d];rfl
     rw[this];rfl
    ·rw[if_neg d];have:Nat.beq (Nat.mod m 2) 1=false:=oZ d;rw[this];rfl
  show Tr.get (Bool.casesOn (motive:=λ_=>Tr f) (Nat.beq n 0) (Bool.casesOn (motive:=λ_=>Tr f) (Nat.beq (Nat.mod n 2) 1) (.nd a l (r.set x (Nat.sub (Nat.div n 2) 1))) (.nd a (l.set x (Nat.div n 2)) r)) (.nd x l r)) m=_;have j:Nat.div n 2=n / 2:=rfl;have k:Nat.sub (Nat.div n 2) 1=n / 2 - 1:=rfl;by_cases g:n=0
  ·subst g;show Tr.get (.nd x l r) m=_;rw[h,h];by_cases c:m=0<;>simp[c]
  ·rw[oZ g];by_cases d:n%2=1
   ·have:Nat.beq (Nat.mod n 2) 1=true:=by rw[show Nat.mod n 2=1 from d];rfl
    rw[this];show Tr.get (.nd a (l.set x (Nat.div n 2)) r) m=_;rw[h,h,ihl,j];by_cases c:m=0
    ·rw[if_pos c,if_pos c,if_neg (by omega)]
    ·rw[if_neg c,if_neg c];by_cases b:m%2=1
     ·rw[if_pos b,if_pos b];by_cases i:m=n
      ·subst i;simp
      ·rw[if_neg i,if_neg (by omega)]
     ·rw[if_neg b,if_neg b,if_neg (by intro e;subst e;exact b d)]
   ·have:Nat.beq (Nat.mod n 2) 1=false:=oZ d;rw[this];show Tr.get (.nd a l (r.set x (Nat.sub (Nat.div n 2) 1))) m=_;rw[h,h,ihr,k];by_cases c:m=0
    ·rw[if_pos c,if_pos c,if_neg (by omega)]
    ·rw[if_neg c,if_neg c];by_cases b:m%2=1
     ·rw[if_pos b,if_pos b,if_neg (by intro e;subst e;exact d b)]
     ·rw[if_neg b,if_neg b];by_cases i:m=n
      ·subst i;simp
      ·rw[if_neg i,if_neg (by omega)]
theorem tU (H:GH) (h:Nat) (o:GO) (k:Nat):(H.set h o).get k=if k=h then some o else H.get k:=by
 unfold GH.get GH.set;rw[tY];by_cases e:k=h<;>simp[e,ob]
theorem RZ (H:GH) (h:Nat) (o:GO) (k:Nat):(H.set h o).ver k=if k=h then some H.n else H.ver k:=by
 unfold GH.ver GH.set;rw[tY];by_cases e:k=h<;>simp[e,ob]
theorem HD (H:GH) (h k:Nat):(H.del h).get k=if k=h then none else H.get k:=by
 unfold GH.get GH.del;rw[tY];by_cases e:k=h<;>simp[e,ob]
theorem RX (H:GH) (h k:Nat):(H.del h).ver k=if k=h then none else H.ver k:=by
 unfold GH.ver GH.del;rw[tY];by_cases e:k=h<;>simp[e,ob]
noncomputable def GH.new (H:GH) (o:GO):GH:=⟨H.n+1,H.t.set (some (H.n,o)) H.n⟩
theorem rO (H:GH) (o:GO) (k:Nat):(H.new o).get k=if k=H.n then some o else H.get k:=by
 unfold GH.get GH.new;rw[tY];by_cases e:k=H.n<;>simp[e,ob]
theorem RY (H:GH) (o:GO) (k:Nat):(H.new o).ver k=if k=H.n then some H.n else H.ver k:=by
 unfold GH.ver GH.new;rw[tY];by_cases e:k=H.n<;>simp[e,ob]
theorem Qi {b R:Type} (x:Option b):∀(f n:Nat) (k:Tr b->R),Ig x f n k=k (EJ x f n):=by
 intro f
 induction f with
 |zero=>intro n k;rfl
 |succ f a=>
  intro n k;show Bool.casesOn (motive:=λ_=>R) (Nat.beq n 0) (Bool.casesOn (motive:=λ_=>R) (Nat.beq (Nat.mod n 2) 1) (Ig x f (Nat.sub (Nat.div n 2) 1) λt=>k (.nd none .lf t)) (Ig x f (Nat.div n 2) λt=>k (.nd none t .lf))) (k (.nd x .lf .lf))=k (bif Nat.beq n 0 then .nd x .lf .lf else bif Nat.beq (Nat.mod n 2) 1 then .nd none (EJ x f (Nat.div n 2)) .lf else .nd none .lf (EJ x f (Nat.sub (Nat.div n 2) 1)));rw[a,a];cases Nat.beq n 0<;>cases Nat.beq (Nat.mod n 2) 1<;>rfl
theorem EI {b R:Type} (x:Option b):∀(t:Tr b) (n:Nat) (k:Tr b->R),t.setK x n k=k (t.set x n):=by
 intro t
 induction t with
 |lf=>intro n k;exact Qi x (Nat.succ n) n k
 |nd a l r c d=>
  intro n k;show Bool.casesOn (motive:=λ_=>R) (Nat.beq n 0) (Bool.casesOn (motive:=λ_=>R) (Nat.beq (Nat.mod n 2) 1) (r.setK x (Nat.sub (Nat.div n 2) 1) λt=>k (.nd a l t)) (l.setK x (Nat.div n 2) λt=>k (.nd a t r))) (k (.nd x l r))=k (Bool.casesOn (motive:=λ_=>Tr b) (Nat.beq n 0) (Bool.casesOn (motive:=λ_=>Tr b) (Nat.beq (Nat.mod n 2) 1) (.nd a l (r.set x (Nat.sub (Nat.div n 2) 1))) (.nd a (l.set x (Nat.div n 2)) r)) (.nd x l r));rw[c,d];cases Nat.beq n 0<;>cases Nat.beq (Nat.mod n 2) 1<;>rfl
theorem jQ {a:Type} (H:GH) (o:GO) (f:Nat->GH->a):H.newK o f=f H.n (H.new o):=by simp only[GH.newK,yM,EI];rfl
theorem AW {a:Type} (H:GH) (h:Nat) (o:GO) (f:GH->a):H.setK h o f=f (H.set h o):=by simp only[GH.setK,yM,EI];rfl
theorem HC {a:Type} (H:GH) (h:Nat) (f:GH->a):H.delK h f=f (H.del h):=by simp only[GH.delK,EI];rfl
theorem adH {R:Type} (a b:List GV):∀k:List GV->R,lap a b k=k (a++b):=by
 induction a with
 |nil=>intro k;rfl
 |cons x a c=>intro k;exact c _
theorem Qv {R:Type} (a:List GV):∀k:List GV->R,fc a k=k a:=by
 induction a with
 |nil=>intro k;rfl
 |cons x a b=>intro k;exact b _
theorem Xt (H:GH) (v:GV) (f:GH->OR):Xs H v f=f (SG H v):=by
 unfold Xs SG;cases v.asS with
 |none=>rfl
 |some s=>exact HC H s.1 f
theorem jU {H:GH} {h:Nat} {a:List GV}:H.cells h=some a↔H.get h=some (.cells a):=by
 unfold GH.cells;rw[aD];constructor
 ·rintro⟨o,d,b⟩;cases o with
  |cells c=>cases b;exact d
  |mp e=>cases b
 ·intro h;exact⟨_,h,rfl⟩
theorem GO.asM_eq {o:GO} {a:List (GV×GV)} (h:o.asM=some a):o = .mp a:=by
 cases o with
 |cells c=>cases h
 |mp e=>cases h;rfl
theorem CQ (k:Nat) (v:GV) (σ:GF) (t:Nat):GY ((k,v)::σ) t=if t=k then some v else GY σ t:=by
 show Bool.casesOn (motive:=λ_=>Option GV) (Nat.beq t k) (GY σ t) (some v)=_;by_cases e:t=k
 ·subst e;simp
 ·rw[oZ e,if_neg e]
section
variable {v:GV}
theorem nI {p:IntKind×Int} (h:v.asI=some p):v = .int p.1 p.2:=by cases v<;>cases h;rfl
theorem DD {p:Bool} (h:v.asB=some p):v = .bool p:=by cases v<;>cases h;rfl
theorem FJ {p:Nat×Nat} (h:v.asP=some p):v = .ptr p.1 p.2:=by cases v<;>cases h;rfl
theorem DF {p:Nat×Nat×Nat×Nat} (h:v.asS=some p):v = .sl p.1 p.2.1 p.2.2.1 p.2.2.2:=by cases v<;>cases h;rfl
theorem WO {p:Nat×List GV×List GV} (h:v.asF=some p):v = .fn p.1 p.2.1 p.2.2:=by cases v<;>cases h;rfl
theorem acI {p:List GV} (h:v.asT=some p):v = .tup p:=by cases v<;>cases h;rfl
theorem Lo {p:List GV} (h:v.asA=some p):v = .agg p:=by cases v<;>cases h;rfl
theorem qT {p:Nat×Nat} (h:v.asStr=some p):v = .str p.1 p.2:=by cases v<;>cases h;rfl
theorem asM_eq {p:Nat} (h:v.asM=some p):v = .map p:=by cases v<;>cases h;rfl
theorem yL (h:v.isSnil=true):v = .snil:=by cases v<;>first|rfl|cases h
end
section
variable {d:TypeDesc}
theorem HY {e:TypeId} (h:Zz d=some e):d = .slice e:=by cases d<;>cases h;rfl
theorem Tt {e:Nat×TypeId} (h:tdA d=some e):d = .array e.1 e.2:=by cases d<;>cases h;rfl
theorem PH {e:Array Field} (h:tdF d=some e):d = .struct e:=by cases d<;>cases h;rfl
theorem HX {e:IntKind} (h:Zy d=some e):d = .int e:=by cases d<;>cases h;rfl
theorem aec {e:TypeId×TypeId} (h:tdM d=some e):d = .map e.1 e.2:=by cases d<;>cases h;rfl
theorem Dd (h:Km d=true):d = .string:=by cases d<;>first|rfl|cases h
theorem Tu (h:tdB d=true):d = .bool:=by cases d<;>first|rfl|cases h
end
theorem HF {a:Int} {n:Nat} (h:asN a=some n):a=n:=by cases a<;>cases h;rfl
theorem aez {b:Bool} {p:Prop} [Decidable p] (h:b=true↔p):b=decide p:=by
 cases b
 ·exact(zA3 λa=>by cases h.2 a).symm
 ·exact(zA5 (h.1 Z)).symm
theorem Ju (a b:Int):ltI a b=decide (a<b):=by
  refine aez ?_;cases a with
  | ofNat a => cases b with
    |ofNat b=>show Nat.blt a b=true↔_;rw[zAv];simp
    | negSucc b =>
        constructor
        · intro h;cases h
        · intro h;simp at h;omega
  | negSucc a => cases b with
    | ofNat b =>
        constructor
        · intro _;have:=Int.negSucc_lt_zero a;simp;omega
        · intro _;rfl
    |negSucc b=>show Nat.blt b a=true↔_;rw[zAv];omega
theorem Jm (a b:Int):eqI a b=decide (a=b):=by
  refine aez ?_;cases a with
  | ofNat a => cases b with
    |ofNat b=>show Nat.beq a b=true↔_;simp;omega
    | negSucc b =>
        constructor
        · intro h;cases h
        · intro h;cases h
  | negSucc a => cases b with
    | ofNat b =>
        constructor
        · intro h;cases h
        · intro h;cases h
    |negSucc b=>show Nat.beq a b=true↔_;simp
theorem HK (a b:Bool):Ue a b=(a==b):=by cases a<;>cases b<;>rfl
theorem Jn {a b:IntKind} (h:eqK a b=true):a=b:=zB2 h
theorem Ly (b:Bool):fb b=some (.bool b):=by cases b<;>rfl
end Go.Gx
namespace Go.Gx
open Go Go.Sx Go.RowKit
structure Nh where
 b:Nat
 off:Nat
 size:Nat
 x:Obj
 /-- what the evaluator wrote -/
 o:GO
abbrev fK:=Nat->Option Nh
def fK.le (b a:fK):Prop:=∀h l,b h=some l->a h=some l
theorem fK.le_refl (ρ:fK):ρ.le ρ:=λ_ _ h=>h
theorem fK.le_trans {a b c:fK} (h:a.le b) (k:b.le c):a.le c:=λ_ _ x=>k _ _ (h _ _ x)
inductive Rl (ρ:fK):GV->V0->Prop
 |int (k n):Rl ρ (.int k n) (.int k n)
 |bool (b):Rl ρ (.bool b) (.bool b)
 |str (s:ByteArray):Rl ρ (.str (mT (bV s)) (bV s).length) (.string s)
 |ptr {h l} (off) (hl:ρ h=some l):Rl ρ (.ptr h off) (.pointer (some ⟨l.b,l.off+off,none⟩))
 |pnil:Rl ρ .pnil (.pointer none)
 |sl {h l off len sz cap} {A:Addr} (hl:ρ h=some l) (hc:len<=cap) (ha:cap=0\/(A=⟨l.b,l.off+off,none⟩/\l.off+off+cap*sz<=l.size)):Rl ρ (.sl h off len sz) (.slice (some A) len cap)
 |snil:Rl ρ .snil (.slice none 0 0)
 |map {h l} (hl:ρ h=some l):Rl ρ (.map h) (.map (some l.b))
 | fn {us vs : List GV} {us' vs' : fY} (f) (h1 : us.length = us'.length) (h2 : ∀ (i : Nat) g v, us[i]? = some g → us'[i]? = some v → Rl ρ g v) (h3 : vs.length = vs'.length) (h4 : ∀ (i : Nat) g v, vs[i]? = some g → vs'[i]? = some v → Rl ρ g v) :
   Rl ρ (.fn f us vs) (.func (.func f) us'.toArray vs'.toArray)
 |fnil:Rl ρ .fnil .nilFunc
 |inil:Rl ρ .inil .nilIface
 |agg {cs:List GV} {vs:fY} (h1:cs.length=vs.length) (h2:∀(i:Nat) g v,cs[i]? = some g->vs[i]? = some v->Rl ρ g v) (h3:∀v∈vs,one v=true):Rl ρ (.agg cs) (.agg vs.toArray)
 |tup {cs:List GV} {vs:fY} (h1:cs.length=vs.length) (h2:∀(i:Nat) g v,cs[i]? = some g->vs[i]? = some v->Rl ρ g v):Rl ρ (.tup cs) (.tuple vs.toArray)
 |un:Rl ρ .un undef
 |bad (v):Rl ρ .bad v
 |opn {h l} (v) (hl:ρ h=some l) (hx:l.x = .cells #[v] 0 (0,0)):Rl ρ (.opn h) v
theorem Rl.le {p c:fK} (d:p.le c) {g:GV} {v:V0} (h:Rl p g v):Rl c g v:=by
 induction h with
 |int k n=>exact .int k n
 |bool b=>exact .bool b
 |str s=>exact .str s
 |ptr m h=>exact .ptr m (d _ _ h)
 |pnil=>exact .pnil
 |sl h r q=>exact .sl (d _ _ h) r q
 |snil=>exact .snil
 |map h=>exact .map (d _ _ h)
 |fn f a o e u j l=>exact .fn f a j e l
 |fnil=>exact .fnil
 |inil=>exact .inil
 |agg a o e i=>exact .agg a i e
 |tup a o i=>exact .tup a i
 |un=>exact .un
 |bad v=>exact .bad v
 |opn v h t=>exact .opn v (d _ _ h) t
structure qJ (ρ:fK) (gs:List GV) (vs:fY):Prop where
 len:gs.length=vs.length
 at':∀(i:Nat) g v,gs[i]? = some g->vs[i]? = some v->Rl ρ g v
theorem qJ.nil {ρ:fK}:qJ ρ [] []:=⟨rfl,λi g v h=>by simp at h⟩
theorem qJ.cons {ρ:fK} {g:GV} {v:V0} {gs:List GV} {vs:fY} (h:Rl ρ g v) (r:qJ ρ gs vs):qJ ρ (g::gs) (v::vs):=⟨by simp[r.len],λi a b c d=>by
 cases i with
 |zero=>simp at c d;subst c d;exact h
 |succ i=>simp at c d;exact r.at' i a b c d⟩
theorem qJ.of_cons {e:fK} {g:GV} {gs:List GV} {c:fY} (h:qJ e (g::gs) c):∃v d,c=v::d/\Rl e g v/\qJ e gs d:=by
 cases c with
 |nil=>have:=h.len;simp at this
 |cons v c=>exact⟨v,c,rfl,h.at' 0 _ _ Z Z,by have:=h.len;simpa using this,λi a b f j=>h.at' (i+1) a b (by simpa using f) (by simpa using j)⟩
theorem qJ.of_nil {b:fK} {a:fY} (h:qJ b [] a):a=[]:=zAn h.len.symm
theorem qJ.le {c a:fK} (f:c.le a) {b:List GV} {vs:fY} (h:qJ c b vs):qJ a b vs:=⟨h.len,λi g v d e=>(h.at' i g v d e).le f⟩
theorem qJ.append {ρ:fK} {c a:List GV} {vs b:fY} (h:qJ ρ c vs) (k:qJ ρ a b):qJ ρ (c++a) (vs++b):=by
 induction c generalizing vs with
 |nil=>rw[h.of_nil];exact k
 |cons g c f=>obtain⟨v,vs,rfl,d,e⟩:=h.of_cons;exact .cons d (f e)
theorem qJ.get {ρ:fK} {b:List GV} {a:fY} (h:qJ ρ b a) {i:Nat} {g:GV} (c:b[i]? = some g):∃v,a[i]? = some v/\Rl ρ g v:=by
 have d:=bK c;have:i<a.length:=h.len▸d;exact⟨a[i],zA2 this,h.at' i g _ c (zA2 this)⟩
theorem qJ.sub {ρ:fK} {c:List GV} {d:fY} (h:qJ ρ c d) (o n:Nat):qJ ρ ((c.drop o).take n) ((d.drop o).take n):=
 ⟨by simp[h.len],λi g v a b=>by
  rw[zAs]at a b;split at a
  ·rename_i e;rw[if_pos e]at b;rw[zAt]at a b;exact h.at' _ g v a b
  ·cases a⟩
section
variable {ρ:fK} {V:V0}
theorem Rl.int_inv {k:IntKind} {n:Int} (h:Rl ρ (.int k n) V):V = .int k n:=by cases h;rfl
theorem Rl.bool_inv {b:Bool} (h:Rl ρ (.bool b) V):V = .bool b:=by cases h;rfl
theorem Rl.str_inv {n l:Nat} (h:Rl ρ (.str n l) V):∃s,V = .string s/\n=mT (bV s)/\l=(bV s).length:=by cases h;exact⟨_,rfl,rfl,rfl⟩
theorem Rl.ptr_inv {h o:Nat} (x:Rl ρ (.ptr h o) V):∃l,ρ h=some l/\V = .pointer (some ⟨l.b,l.off+o,none⟩):=by cases x with|ptr o a=>exact⟨_,a,rfl⟩
theorem Rl.sl_inv {h o n a:Nat} (x:Rl ρ (.sl h o n a) V):∃l cap A,ρ h=some l/\V = .slice (some A) n cap/\n<=cap/\(cap=0\/(A=⟨l.b,l.off+o,none⟩/\l.off+o+cap*a<=l.size)):=by
 cases x with|sl e d c=>exact⟨_,_,_,e,rfl,d,c⟩
theorem Rl.snil_inv (h:Rl ρ .snil V):V = .slice none 0 0:=by cases h;rfl
theorem Rl.map_inv {h:Nat} (x:Rl ρ (.map h) V):∃l,ρ h=some l/\V = .map (some l.b):=by cases x with|map a=>exact⟨_,a,rfl⟩
theorem Rl.fn_inv {f:Nat} {c d:List GV} (x:Rl ρ (.fn f c d) V):∃a b,V = .func (.func f) a.toArray b.toArray/\qJ ρ c a/\qJ ρ d b:=by
 cases x with|fn f e g h i=>exact⟨_,_,rfl,⟨e,g⟩,⟨h,i⟩⟩
theorem Rl.agg_inv {b:List GV} (x:Rl ρ (.agg b) V):∃a,V = .agg a.toArray/\qJ ρ b a/\∀v∈a,one v=true:=by
 cases x with|agg c d e=>exact⟨_,rfl,⟨c,d⟩,e⟩
theorem Rl.tup_inv {a:List GV} (x:Rl ρ (.tup a) V):∃b,V = .tuple b.toArray/\qJ ρ a b:=by
 cases x with|tup c d=>exact⟨_,rfl,⟨c,d⟩⟩
theorem Rl.opn_inv {h:Nat} (x:Rl ρ (.opn h) V):∃l,ρ h=some l/\l.x = .cells #[V] 0 (0,0):=by cases x with|opn v a b=>exact⟨_,a,b⟩
theorem Rl.un_inv (x:Rl ρ .un V):V=undef:=by cases x;rfl
theorem Sg {f:Nat} {e g:List GV} {a b:List V0} (c:qJ ρ e a) (d:qJ ρ g b):Rl ρ (.fn f e g) (.func (.func f) a.toArray b.toArray):= .fn f c.len c.at' d.len d.at'
theorem Ie {cs:List GV} {vs:List V0} (h:qJ ρ cs vs) (a:∀v∈vs,one v=true):Rl ρ (.agg cs) (.agg vs.toArray):= .agg h.len h.at' a
theorem KF {a:List GV} {b:List V0} (h:qJ ρ a b):Rl ρ (.tup a) (.tuple b.toArray):= .tup h.len h.at'
theorem Rl.cells {g:GV} {cs:List GV} (h:Rl ρ g V) (a:g.cells=some cs):∃vs,V.cells=vs.toArray/\qJ ρ cs vs/\∀v∈vs,one v=true:=by
 have b:∀g V,Rl ρ g V->one V=true->∃vs,#[V]=vs.toArray/\qJ ρ [g] vs/\∀v∈vs,one v=true:=λg V h c=>⟨[V],rfl,.cons h .nil,λv e=>by simp at e;subst e;exact c⟩
 have f:=h;cases h with
 |agg c d i=>cases a;exact⟨_,rfl,⟨c,d⟩,i⟩
 |tup c d=>cases a
 |un=>cases a
 |bad v=>cases a
 |opn v j k=>cases a
 |_=>cases a;exact b _ _ f Z
end
theorem Pb {ρ:fK} {v:V0} {g:GV} (h:VL v=some g):Rl ρ g v/\one v=true:=by
 unfold VL at h;split at h
 ·cases h;exact⟨.int _ _,rfl⟩
 ·cases h;exact⟨.bool _,rfl⟩
 ·cases h;exact⟨.snil,rfl⟩
 ·cases h;exact⟨.pnil,rfl⟩
 ·cases h;exact⟨.fnil,rfl⟩
 ·cases h;exact⟨.inil,rfl⟩
 ·simp only[yM]at h;cases h;exact⟨.str _,rfl⟩
 ·cases h
theorem Uu {ρ:fK}:∀{f:List V0} {e:List GV},abo f=some e->qJ ρ e f/\∀v∈f,one v=true
 | [],e,h=>by cases h;exact⟨.nil,λv h=>by simp at h⟩
 | v :: f, e, h => by
  obtain⟨x,j,k⟩:=aD.1 (show ob (VL v) (λx=>ob (abo f) λi=>some (x::i))=some e from h);obtain⟨i,l,m⟩:=aD.1 k;cases m;obtain⟨a,b⟩:=Uu l;obtain⟨c,d⟩:=Pb (ρ:=ρ) j;exact⟨.cons c a,λu g=>by
   rcases zAm.1 g with rfl|g
   ·exact d
   ·exact b u g⟩
theorem Tf {ρ:fK} {v:V0} {g:GV} (h:ofV v=some g):Rl ρ g v:=by
 unfold ofV at h;split at h
 ·obtain⟨e,c,d⟩:=aD.1 h;cases d;obtain⟨a,b⟩:=Uu (ρ:=ρ) c;have:=Ie a b;simpa using this
 ·exact(Pb h).1
theorem UA {ρ:fK} {s:Sem V0} {g:GV} (h:JD s=some g):∃v,Rl ρ g v/\s = .pure v:=by
 unfold JD at h;split at h
 ·exact⟨_,(Pb h).1,rfl⟩
 ·cases h
structure mE (ρ:fK) (n:Nat) (σ:GF) (a:Act):Prop where
 defers:a.defers=[]
 size:a.tmps.size=n
 slot:∀t g,GY σ t=some g->Rl ρ g (a.eval (.tmp t))
theorem mE.le {c b:fK} (f:c.le b) {n:Nat} {d:GF} {a:Act} (h:mE c n d a):mE b n d a:=⟨h.defers,h.size,λt g e=>(h.slot t g e).le f⟩
theorem mE.put {c:fK} {n:Nat} {f:GF} {a:Act} (h:mE c n f a) {d:Nat} (i:d<n) {g:GV} {v:V0} (j:Rl c g v):mE c n ((d,g)::f) (a.put (some d) v):=
 ⟨h.defers,by simp[Act.put,h.size],λt u b=>by
  rw[CQ]at b;by_cases e:t=d
  ·subst e;rw[if_pos Z]at b;cases b;have:(a.put (some t) v).eval (.tmp t)=v:=by simp[Act.put,Act.eval,h.size,i]
   rw[this];exact j
  ·rw[if_neg e]at b;have:(a.put (some d) v).eval (.tmp t)=a.eval (.tmp t):=by
    simp only[Act.put,Act.eval,Array.getD_eq_getD_getElem?];rw[zB6 (Ne.symm e)]
   rw[this];exact h.slot t u b⟩
section
variable {ρ:fK} {n:Nat} {σ:GF} {a:Act}
theorem dH (F:mE ρ n σ a) {x:Operand} {g:GV} (h:lK σ x=some g):Rl ρ g (a.eval x):=by
 cases x with
 |tmp t=>exact F.slot t g h
 |const v=>exact Tf h
 |global g=>cases h
 |func f=>cases h;exact Sg .nil .nil
theorem GG (F:mE ρ n σ a):∀{b:List Operand} {gs:List GV},HN σ b=some gs->qJ ρ gs (b.map a.eval)
 | [],gs,h=>by cases h;exact .nil
 |x::b,gs,h=>by
  obtain⟨v,d,e⟩:=aD.1 (show ob (lK σ x) (λv=>ob (HN σ b) λc=>some (v::c))=some gs from h);obtain⟨c,f,g⟩:=aD.1 e;cases g;exact .cons (dH F d) (GG F f)
def RlP (ρ:fK) (b:List (Nat×GV)) (c:List (Nat×V0)):Prop:=b.map (·.1)=c.map (·.1)/\qJ ρ (b.map (·.2)) (c.map (·.2))
theorem Eh (F:mE ρ n σ a):∀{b:List (Nat×Operand)} {gs:List (Nat×GV)},wG σ b=some gs->RlP ρ gs (b.map λp=>(p.1,a.eval p.2))
 | [],gs,h=>by cases h;exact⟨rfl,.nil⟩
 |x::b,gs,h=>by
  obtain⟨v,f,g⟩:=aD.1 (show ob (lK σ x.2) (λv=>ob (wG σ b) λc=>some ((x.1,v)::c))=some gs from h);obtain⟨c,i,j⟩:=aD.1 g;cases j;obtain⟨d,e⟩:=Eh F i;exact⟨by simp only[zBf,d],.cons (dH F f) e⟩
end
def EE (P:Program) (ρ:fK) (s:Sem V0) (g:GV):Prop:=∃v,Rl ρ g v/\∀w,s.run P w = .ok v w
structure gQ (P:Program) (tb:TB):Prop where
 tab:∀{T d},tb T=some d->tS P T d
 /-- structs of leaves may be compared -/
 eqs:∀{T fs},Nt T=true->sH tb T=some fs->zF tb fs=true->P.stoodInHeld T=false/\∀f∈fs,f.name ≠ "_"
noncomputable def aeH (P:Program) (b:TB):Bool:=(List.range 512).all λT=>bif Nt T then(Option.casesOn (motive:=λ_=>Bool) (sH b T) true λa=>bif zF b a then(!P.stoodInHeld T&&a.all λf=> !(f.name == "_"))else true)else true
theorem adu {P:Program} {c:TB} (h:aeH P c=true) {T:Nat} {b:List Field} (a:Nt T=true) (i:sH c T=some b) (j:zF c b=true):P.stoodInHeld T=false/\∀f∈b,f.name ≠ "_":=by
 have g:T<512:=by
  obtain⟨_,h⟩:=bY.1 (show(bif Nat.blt 31 T then(bif Nat.blt T 512 then some ()else none)else none)=some () by
   unfold Nt at a;cases e:Nat.blt 31 T<;>rw[e]at a
   ·cases a
   ·rw[cond_true]at a;rw[a];rfl)
  obtain⟨h,_⟩:=bY.1 h;simpa [zAv]using h
 have:=zA8.1 h T (zAp.2 g);rw[a,cond_true,i]at this;have this:(bif zF c b then(!P.stoodInHeld T&&b.all λf=> !(f.name == "_"))else true)=true:=this;rw[j,cond_true,zA6]at this;exact⟨by simpa using this.1,λf d=>by simpa using zA8.1 this.2 f d⟩
section
variable {P:Program} {tb:TB} {ρ:fK} {V U W:V0} {v u t g:GV}
theorem TA {k:IntKind} {z:Int} {g:GV} (h:gw k z=some g):g = .int k (k.wrap z):=by
  unfold gw at h;rw[Nw]at h;cases b:ab_ k with
  | true =>
    rw[b]at h;obtain⟨c,d⟩:=bY.1 h;cases d;have e:k = .i64:=by cases k<;>first|rfl|cases b
    subst e;have : -9223372036854775808<=z/\z<=9223372036854775807:=by
      cases z with
      | ofNat a =>
          have : a < 9223372036854775808 := by simpa [XS, zAv] using c
          simp only[Int.ofNat_eq_natCast];omega
      | negSucc a =>
          have : a < 9223372036854775808 := by simpa [XS, zAv] using c
          omega
    rw[Oe this.1 this.2]
  | false =>
    rw[b]at h;simp only[cond_false,Nw]at h;cases h;rfl
theorem ZT {l:BinOp} {k:IntKind} {a b:Int} {T:TypeId} (i:KR l=false) (h:aeB l k a b=some g):∃v,Rl ρ g v/\binOp l T (.int k a) (.int k b) = .pure v:=by
 have j:∀{p:Prop} [Decidable p] {c:Bool},c=decide p->fb c=some g->Rl ρ g (.bool (decide p)):=λe h=>by rw[Ly]at h;cases h;rw[e];exact .bool _
 have d:∀f,KR f=false->JD (binOp f 0 (.int k a) (.int k b))=some g->∃v,Rl ρ g v/\binOp f T (.int k a) (.int k b) = .pure v:=λf m h=>by
  obtain⟨v,n,o⟩:=UA (ρ:=ρ) h;refine⟨v,n,?_⟩
  rw[<-o];cases f<;>first|rfl|cases m
 cases l with
 |add=>exact⟨_,by rw[TA h];exact .int _ _,by simp[binOp,Op.intArith];rfl⟩
 |sub=>exact⟨_,by rw[TA h];exact .int _ _,by simp[binOp,Op.intArith];rfl⟩
 |eql=>exact⟨.bool (decide (a=b)),j (Jm a b) h,by simp[binOp,Op.intCmp];rfl⟩
 |neq=>exact⟨.bool (decide (¬a=b)),j (by rw[Jm];simp) h,by simp[binOp,Op.intCmp];rfl⟩
 |lss=>exact⟨.bool (decide (a<b)),j (Ju a b) h,by simp[binOp,Op.intCmp];rfl⟩
 |leq=>exact⟨.bool (decide (a<=b)),j (by rw[Ju,<-decide_not];exact decide_eq_decide.2 (by omega)) h,by simp[binOp,Op.intCmp];rfl⟩
 |gtr=>exact⟨.bool (decide (b<a)),j (Ju b a) h,by simp[binOp,Op.intCmp];rfl⟩
 |geq=>exact⟨.bool (decide (b<=a)),j (by rw[Ju,<-decide_not];exact decide_eq_decide.2 (by omega)) h,by simp[binOp,Op.intCmp];rfl⟩
 |shl=>cases i
 |shr=>cases i
 |mul=>exact d .mul i h
 |quo=>exact d .quo i h
 |rem=>exact d .rem i h
 |and=>exact d .and i h
 |or=>exact d .or i h
 |xor=>exact d .xor i h
 |andNot=>exact d .andNot i h
end
theorem yK (b:UInt8) (l:List UInt8):mT (b::l)=b.toNat+256*mT l:=rfl
theorem Io:∀{x y:List UInt8},x.length=y.length->mT x=mT y->x=y
 | [],[],_,_=>rfl
 | [],_::_,h,_=>by simp at h
 |_::_,[],h,_=>by simp at h
 |a::x,b::y,h,e=>by
  rw[yK,yK]at e;have f:=a.toNat_lt;have g:=b.toNat_lt;have c:a.toNat=b.toNat:=by omega
  have d:mT x=mT y:=by omega
  rw[UInt8.toNat_inj.1 c,Io (by simpa using h) d]
theorem Jk:∀(x:List UInt8) (n:Nat),mT x / 256^n=mT (x.drop n)
 |x,0=>by simp
 | [],n+1=>by simp[mT]
 |b::x,n+1=>by
  rw[yK,List.drop_succ_cons,<-Jk x n,Nat.pow_succ,Nat.mul_comm (256^n) 256,<-Nat.div_div_eq_div_mul];have:=b.toNat_lt;congr 1;omega
theorem Ns:∀(x:List UInt8) (n:Nat),mT x%256^n=mT (x.take n)
 |x,0=>by simp[mT,Nat.mod_one]
 | [],n+1=>by simp[mT]
 |b::x,n+1=>by
  rw[yK,List.take_succ_cons,yK,<-Ns x n,Nat.pow_succ,Nat.mul_comm (256^n) 256,Nat.mod_mul];have d:=b.toNat_lt;have a:(b.toNat+256*mT x)%256=b.toNat:=by omega
  have c:(b.toNat+256*mT x) / 256=mT x:=by omega
  rw[a,c]
theorem afs (n l:Nat):Nat.shiftRight n (Nat.mul 8 l)=n / 256^l:=by
 show n >>> (8*l)=_;rw[Nat.shiftRight_eq_div_pow,Nat.pow_mul]
theorem afj (k:Nat):Nat.pow 2 (Nat.mul 8 k)=256^k:=by
 show 2^(8*k)=_;rw[Nat.pow_mul]
theorem Xu (x:List UInt8) (l k:Nat):Nat.mod (Nat.shiftRight (mT x) (Nat.mul 8 l)) (Nat.pow 2 (Nat.mul 8 k))=mT ((x.drop l).take k):=by
 rw[afs,afj];show mT x / 256^l%256^k=_;rw[Jk,Ns]
theorem Ud (x:List UInt8) (i:Nat) (h:i<x.length):Nat.mod (Nat.shiftRight (mT x) (Nat.mul 8 i)) 256=(x[i]).toNat:=by
 rw[afs];show mT x / 256^i%256=_;rw[Jk,List.drop_eq_getElem_cons h,yK];have:=(x[i]).toNat_lt;omega
theorem Vk (s:ByteArray) (i:Nat):s[i]? = (bV s)[i]?:=by
 unfold bV;by_cases h:i<s.size
 ·rw[getElem?_pos s i h,zAk,Array.getElem?_eq_getElem (by simpa using h)];rfl
 ·rw[getElem?_neg s i h];rw[zAo (by have:=Lib.size_eq s;omega)]
section
variable {P:Program} {tb:TB} {ρ:fK} {V U W:V0} {v u t g:GV}
theorem aeA (a b:ByteArray):(a==b)=(a.toList==b.toList):=by
 rw[Lib.toList_data,Lib.toList_data];obtain⟨⟨x⟩⟩:=a;obtain⟨⟨y⟩⟩:=b;have:((⟨⟨x⟩⟩:ByteArray)==⟨⟨y⟩⟩)=((⟨x⟩:Array UInt8)==⟨y⟩):=rfl;rw[this];simp
theorem adt {a b:Nat×Nat} {s r:ByteArray} (f:a.1=mT (bV s)) (h:a.2=(bV s).length) (i:b.1=mT (bV r)) (j:b.2=(bV r).length):RP a b=(s.toList==r.toList):=by
 rw[Lib.toList_data,Lib.toList_data];unfold RP;rw[f,h,i,j];by_cases d:(bV s).length=(bV r).length
 ·have k:Nat.beq (bV r).length (bV r).length=true:=by simp
  rw[d,k,cond_true];by_cases c:mT (bV s)=mT (bV r)
  ·have:=Io d c;unfold bV at this;rw[c,this];simp
  ·rw[oZ c];symm;rw[beq_eq_false_iff_ne];intro e;exact c (by unfold bV;rw[e])
 ·rw[oZ d,cond_false];symm;rw[beq_eq_false_iff_ne];intro e;exact d (by unfold bV;rw[e])
theorem VF (z:gQ P tb) {T:TypeId} {t:Ty} (C:tb T=some t) {q:Bool} (e:Rl ρ v V) (d:Rl ρ u U) (h:SZ t v u=some q) (m:Nat) (w:World):(Op.equalIn (m+1) T V U).run P w = .ok q w:=by
 have c:=(z.tab C).run_und w;unfold SZ at h;cases j:v.asI with
 |some a=>
  rw[j]at h;obtain⟨b,f,h⟩:=aD.1 h;obtain⟨k,B,h⟩:=aD.1 h;obtain⟨l,h⟩:=bY.1 h;cases h;rw[nI j]at e;rw[nI f]at d;rw[e.int_inv,d.int_inv,<-Jn l];rw[HX B]at c;unfold Op.equalIn;rw[Jm];simp[c];rfl
 | none =>
  rw[j]at h;simp only at h;cases n:v.asStr with
  |some a=>
   rw[n]at h;obtain⟨b,f,h⟩:=aD.1 h;obtain⟨i,h⟩:=bY.1 h;cases h;rw[qT n]at e;rw[qT f]at d;obtain⟨s,rfl,o,p⟩:=e.str_inv;obtain⟨r,rfl,x,y⟩:=d.str_inv;rw[Dd i]at c;rw[adt o p x y,<-aeA];unfold Op.equalIn;simp[c]
  |none=>
   rw[n]at h;obtain⟨a,A,h⟩:=aD.1 (show ob v.asB _=some q from h);obtain⟨b,f,h⟩:=aD.1 h;obtain⟨i,h⟩:=bY.1 h;cases h;rw[DD A]at e;rw[DD f]at d;rw[e.bool_inv,d.bool_inv];rw[Tu i]at c;unfold Op.equalIn;rw[HK];simp[c]
theorem NE {t:Ty} (h:Hm t=true):(∃k,t.desc = .int k)\/t.desc = .string\/t.desc = .bool:=by
 unfold Hm at h;cases a:tdB t.desc with
 |true=>exact .inr (.inr (Tu a))
 | false =>
  rw[a]at h;cases c:Km t.desc with
  |true=>exact .inr (.inl (Dd c))
  |false=>
   rw[c]at h;cases b:Zy t.desc with
   |none=>rw[b]at h;cases h
   |some k=>exact .inl ⟨k,HX b⟩
theorem Ke {f:Field} {a:List Field} (h:zF tb (f::a)=true):∃t,tb f.type=some t/\Hm t=true/\zF tb a=true:=by
 have h:(Option.casesOn (motive:=λ_=>Bool) (tb f.type) false λt=>bif Hm t then zF tb a else false)=true:=h;cases c:tb f.type with
 |none=>rw[c]at h;cases h
 |some t=>
  rw[c]at h;have h:(bif Hm t then zF tb a else false)=true:=h;cases b:Hm t with
  |false=>rw[b]at h;cases h
  |true=>rw[b]at h;exact⟨t,rfl,b,h⟩
theorem Q_ (c:gQ P tb) {T:TypeId} {t:Ty} (h:tb T=some t) (f:Hm t=true) {cs:Array V0} {b:Nat} {x:V0} (i:cs[b]? = some x) (w:World):(part T cs b).run P w = .ok x w:=by
 have a:=(c.tab h).run_und w;have d:(isAgg T).run P w = .ok false w:=by
  unfold isAgg;rcases NE f with⟨k,e⟩|e|e<;>rw[e]at a<;>simp[a]
 unfold part;simp[d,i]
theorem QY (k:gQ P tb) {cs n:List GV} {z s:List V0} (D:qJ ρ cs z) (C:qJ ρ n s) (m:Nat) (w:World):∀{c:List Field} {q:Bool},aaN tb cs n c=some q->zF tb c=true->(∀f∈c,f.name ≠ "_")->
  Sem.run P (forIn c ((none,()):Option Bool×Unit) λf __s=>if f.name = "_" then pure (ForInStep.yield (none,()))else do
   let __do_lift <-part f.type z.toArray f.offset;let __do_lift_1 <-part f.type s.toArray f.offset;let __do_lift <-Op.equalIn (m+1) f.type __do_lift __do_lift_1
   if __do_lift=false then pure (ForInStep.done (some false,()))else pure (ForInStep.yield (none,()))) w = .ok (if q then none else some false,()) w
 | [],q,h,_,_=>by
  have:q=true:=by have h:some true=some q:=h;cases h;rfl
  subst this;simp
 | f :: c, q, h, hl, hn => by
  obtain⟨t,l,h⟩:=aD.1 (show ob (tb f.type) _=some q from h);obtain⟨a,A,h⟩:=aD.1 h;obtain⟨b,B,h⟩:=aD.1 h;obtain⟨e,H,h⟩:=aD.1 h;obtain⟨M,j,d,o⟩:=Ke hl;rw[l]at j;cases j;rw[wH]at A B;obtain⟨x,J,p⟩:=D.get A;obtain⟨y,K,r⟩:=C.get B;have E:=Q_ k l d (cs:=z.toArray) (by simpa using J) w;have F:=Q_ k l d (cs:=s.toArray) (by simpa using K) w;have G:=VF k l p r H m w;have i:=hn f zAf;cases e with
  |false=>
   have:q=false:=by have h:some false=some q:=h;cases h;rfl
   subst this;simp[List.forIn_cons,i,E,F,G]
  |true=>
   have L:=QY k D C m w (show aaN tb cs n c=some q from h) o λf I=>hn f (zAl _ I);simp[List.forIn_cons,i,E,F,G,L]
theorem Vr (f:gQ P tb) {T:TypeId} {d:List Field} (r:Nt T=true) (b:sH tb T=some d) (p:zF tb d=true) {n o:List GV} {l j:List V0} (B:qJ ρ n l) (A:qJ ρ o j) {q:Bool} (h:aaN tb n o d=some q) (w:World):
  (Op.equal T (.agg l.toArray) (.agg j.toArray)).run P w = .ok q w:=by
 obtain⟨y,x⟩:=f.eqs r b p;obtain⟨t,z,e⟩:=aD.1 (show ob (tb T) _=some d from b);obtain⟨a,s,e⟩:=aD.1 e;cases e;have c:=(f.tab z).run_und w;rw[PH s]at c;obtain⟨a⟩:=a;have i:∀m,(Op.equalIn (m+1+1) T (.agg l.toArray) (.agg j.toArray)).run P w = .ok q w:=λm=>by
  have k:=QY f B A m w h p x;unfold Op.equalIn;simp[c,y];simp only[]at k;rw[k];cases q<;>simp
 exact i 9998
theorem Jl (b:gQ P tb):∀(m:Nat) {T:TypeId} {t:Ty},tb T=some t->Hm t=true->P.eqGuardType (m+1) T=false:=λm T t d c=>by
 have a:=(b.tab d).und;unfold Program.eqGuardType;rcases NE c with⟨k,e⟩|e|e<;>rw[e]at a<;>simp[a]
theorem Lu (p:gQ P tb) {T:TypeId} {d:List Field} (k:sH tb T=some d) (s:zF tb d=true):P.eqGuardType P.depth T=false:=by
 obtain⟨t,w,e⟩:=aD.1 (show ob (tb T) _=some d from k);obtain⟨a,r,e⟩:=aD.1 e;cases e;have c:=(p.tab w).und;rw[PH r]at c;have o:∀m,P.eqGuardType (m+2) T=false:=λm=>by
  unfold Program.eqGuardType;rw[c];simp only;rw[Array.any_eq_false'];intro f b;have:f∈a.toList:=by simpa using b
  have n:∀(l:List Field),zF tb l=true->∀f∈l,∃t,tb f.type=some t/\Hm t=true:=by
   intro l
   induction l with
   |nil=>intro _ f b;cases b
   |cons x l y=>
    intro h f b;obtain⟨t,i,j,q⟩:=Ke h;rcases zAm.1 b with rfl|b
    ·exact⟨t,i,j⟩
    ·exact y q f b
  obtain⟨z,i,j⟩:=n _ s f this;simp[Jl p m i j]
 unfold Program.depth;exact o _
theorem VA (f:gQ P tb) {e:BinOp} {T:TypeId} {d:List Field} (c:sH tb T=some d) (i:zF tb d=true) (x y:Operand) (a b:Array V0) (w:World):(eqGuard e T x y (.agg a) (.agg b)).run P w = .ok () w:=by
 have h:=Lu f c i;unfold eqGuard;cases e<;>simp[h]
theorem HG {d:BinOp} {T:TypeId} {q:Bool} {V U:V0} {x y:Operand} (f:∀w,(eqGuard d T x y V U).run P w = .ok () w) (e:∀w,(Op.equal T V U).run P w = .ok q w) (i:binOp .eql T V U=(do pure (.bool (<-Op.equal T V U)))) (j:binOp .neq T V U=(do pure (.bool (!(<-Op.equal T V U))))) (h:ZS d q true=some g):
  EE P ρ (do eqGuard d T x y V U;binOp d T V U) g:=by
 cases d with
 |eql=>exact⟨.bool q,by have c:fb (Ue q true)=some g:=h;rw[Ly,HK]at c;cases c;cases q<;>exact .bool _,λw=>by have a:=f w;have b:=e w;rw[i];simp[a,b]⟩
 |neq=>exact⟨.bool (!q),by have c:fb (!Ue q true)=some g:=h;rw[Ly,HK]at c;cases c;cases q<;>exact .bool _,λw=>by have a:=f w;have b:=e w;rw[j];simp[a,b]⟩
 |_=>cases h
theorem Zi (m:gQ P tb) {f:BinOp} {T:TypeId} (x y:Operand) (c:Rl ρ v V) (j:Rl ρ u U) (h:Zh tb f T v u=some g):EE P ρ (do eqGuard f T x y V U;binOp f T V U) g:=by
 unfold Zh at h;cases o:v.asA with
 |some K=>
  rw[o]at h;obtain⟨L,D,h⟩:=aD.1 (show ob u.asA _=some g from h);obtain⟨z,h⟩:=bY.1 h;obtain⟨M,d,h⟩:=aD.1 h;obtain⟨p,h⟩:=bY.1 h;obtain⟨q,F,h⟩:=aD.1 h;rw[Lo o]at c;rw[Lo D]at j;obtain⟨O,rfl,G,_⟩:=c.agg_inv;obtain⟨N,rfl,r,_⟩:=j.agg_inv;exact HG (VA m d p x y _ _) (Vr m z d p G r F) Z Z h
 | none =>
  rw[o]at h;obtain⟨J,h⟩:=bY.1 (show(bif u.isSnil then _ else none)=some g from h);obtain⟨n,i,h⟩:=aD.1 h;obtain⟨t,I,h⟩:=aD.1 h;obtain⟨e,E,h⟩:=aD.1 h;rw[yL J]at j;have B:=j.snil_inv;subst B;have b:=λw=>(m.tab I).run_und w;rw[HY E]at b;cases a:v.isSnil with
  | true =>
   rw[a]at h;rw[yL a]at c;have C:=c.snil_inv;subst C;refine HG (λw=> ?_) (q:=true) (λw=> ?_) Z Z h
   ·unfold eqGuard;cases f<;>simp
   ·have:(Op.equalIn (9999+1) T (.slice none 0 0) (.slice none 0 0)).run P w = .ok true w:=by
     unfold Op.equalIn;simp[b w]
    exact this
  | false =>
   rw[a]at h;unfold aaX at i;rw[a]at i;obtain⟨s,H,i⟩:=aD.1 (show ob v.asS _=some n from i);rw[DF H]at c;obtain⟨l,k,A,p,rfl,_,_⟩:=c.sl_inv;refine HG (λw=> ?_) (q:=false) (λw=> ?_) Z Z h
   ·unfold eqGuard;cases f<;>simp
   ·have:(Op.equalIn (9999+1) T (.slice (some A) s.2.2.1 k) (.slice none 0 0)).run P w = .ok false w:=by
     unfold Op.equalIn;simp[b w]
    exact this
theorem Ka:∀(x y:List UInt8),mT (x++y)=mT x+256^x.length*mT y
 | [],y=>by simp[mT]
 |b::x,y=>by
  rw[List.cons_append,yK,yK,Ka x y,zA9,Nat.pow_succ];rw[Nat.mul_add,Nat.mul_comm (256^x.length) 256,Nat.mul_assoc];omega
theorem T_ {a b:Nat×Nat} {s r:ByteArray} (f:a.1=mT (bV s)) (c:a.2=(bV s).length) (j:b.1=mT (bV r)) (k:b.2=(bV r).length) (h:adg a b=some g) (w:World):Rl ρ g (.string (s++r))/\(Op.stringOp .add s r).run P w = .ok (.string (s++r)) w:=by
 unfold adg at h;obtain⟨e,h⟩:=bY.1 h;rw[yM,yM]at h;cases h;have e:a.2+b.2<16777216:=by simpa [zAv]using e
 have d:bV (s++r)=bV s++bV r:=by
  unfold bV;obtain⟨⟨x⟩⟩:=s;obtain⟨⟨y⟩⟩:=r;simp
 constructor
 ·have l:Nat.add a.1 (Nat.mul (Nat.pow 2 (Nat.mul 8 a.2)) b.1)=mT (bV (s++r)):=by
   rw[d,Ka,afj,f,c,j];rfl
  have m:Nat.add a.2 b.2=(bV (s++r)).length:=by rw[d,zA4,c,k];rfl
  rw[l,m];exact .str _
 ·have B:(s.size:Int)+(r.size:Int)<=9223372036854775807:=by
   have o:=Lib.size_eq s;have p:=Lib.size_eq r;have q:(bV s).length=s.data.size:=by unfold bV;simp
   have z:(bV r).length=r.data.size:=by unfold bV;simp
   have A:s.data.toList.length=s.data.size:=by simp
   have i:r.data.toList.length=r.data.size:=by simp
   omega
  have n:¬((((s.size+r.size:Nat)):Int)>IntKind.i64.max):=by
   show¬((((s.size+r.size:Nat)):Int)>9223372036854775807);omega
  unfold Op.stringOp;simp only[];rw[if_neg n];rfl
theorem UK (S:gQ P tb) {i:BinOp} {T:TypeId} (x y:Operand) (B:Rl ρ v V) (A:Rl ρ u U) (h:rJ tb i T v u=some g):EE P ρ (do eqGuard i T x y V U;binOp i T V U) g:=by
 unfold rJ at h;cases hi:v.asI with
 | some a =>
  rw[hi]at h;obtain⟨b,C,h⟩:=aD.1 h;rw[nI hi]at B;rw[nI C]at A;rw[B.int_inv,A.int_inv];have hg:∀w,(eqGuard i T x y (.int a.1 a.2) (.int b.1 b.2)).run P w = .ok () w:=λw=>pD w;cases M:KR i with
  |true=>
   rw[M]at h;obtain⟨z,j,l⟩:=UA (ρ:=ρ) h;have e:binOp i T (.int a.1 a.2) (.int b.1 b.2)=binOp i 0 (.int a.1 a.2) (.int b.1 b.2):=by cases i<;>first|rfl|cases M
   exact⟨z,j,λw=>by rw[e,l];simp[hg w]⟩
  |false=>
   rw[M]at h;simp only[cond_false]at h;obtain⟨K,h⟩:=bY.1 h;have K:=Jn K;obtain⟨z,j,l⟩:=ZT (ρ:=ρ) (T:=T) M h;exact⟨z,j,λw=>by rw[<-K,l];have:=hg w;rw[<-K]at this;simp[this]⟩
 | none =>
  rw[hi]at h;simp only at h;cases q:v.asStr with
  | some a =>
   rw[q]at h;obtain⟨b,C,h⟩:=aD.1 h;rw[qT q]at B;rw[qT C]at A;obtain⟨s,rfl,D,E⟩:=B.str_inv;obtain⟨r,rfl,O,Q⟩:=A.str_inv;have o:RP a b=(s.toList==r.toList):=by
    rw[Lib.toList_data,Lib.toList_data];unfold RP;rw[D,E,O,Q];by_cases L:(bV s).length=(bV r).length
    ·have C:Nat.beq (bV r).length (bV r).length=true:=by simp
     rw[L,C,cond_true];by_cases J:mT (bV s)=mT (bV r)
     ·have:=Io L J;unfold bV at this;rw[J,this];simp
     ·rw[oZ J];symm;rw[beq_eq_false_iff_ne];intro hh;exact J (by unfold bV;rw[hh])
    ·rw[oZ L,cond_false];symm;rw[beq_eq_false_iff_ne];intro hh;exact L (by unfold bV;rw[hh])
   have d:∀w,(eqGuard i T x y (.string s) (.string r)).run P w = .ok () w:=λw=>by unfold eqGuard;cases i<;>simp
   have f:∀c:Bool,fb c=some g->Rl ρ g (.bool c):=λc hc=>by rw[Ly]at hc;cases hc;exact .bool _
   cases i with
   |eql=>exact⟨_,f _ h,λw=>by rw[o];have:=d w;simp[this,binOp,Op.stringOp]⟩
   |neq=>exact⟨_,f _ h,λw=>by rw[o];have:=d w;simp[this,binOp,Op.stringOp]⟩
   |add=>exact⟨_,(T_ (P:=P) D E O Q h default).1,λw=>by have:=d w;have k:=(T_ (ρ:=ρ) (P:=P) D E O Q h w).2;simp only[Sem.run_bind,this,Result.andThen_ok,binOp,k]⟩
   |_=>cases h
  | none =>
   rw[q]at h;simp only at h;cases X:v.asB with
   | none =>
    rw[X]at h;simp only at h;cases j:v.isInil with
    |false=>rw[j]at h;exact Zi S x y B A h
    |true=>
    rw[j]at h;have n:=h;clear h;obtain⟨l,h⟩:=bY.1 (show(bif u.isInil then _ else none)=some g from n);clear n;obtain⟨t,ht,n⟩:=aD.1 h;clear h;obtain⟨F,p⟩:=bY.1 n;clear n;have D:v = .inil:=by cases v<;>first|rfl|cases j
    have E:u = .inil:=by cases u<;>first|rfl|cases l
    subst D;subst E;cases B;cases A;obtain⟨N,H,h0⟩:∃N,t.desc = .interface N/\N.size=0:=by
     cases hq:t.desc<;>rw[hq]at F<;>first|(exact⟨_,rfl,zA7 F⟩)|cases F
    have I:∀w:World,_:=λw=>(S.tab ht).run_und w;have R:N.isEmpty=true:=by simp[Array.isEmpty,h0]
    have Y:∀w,(Op.eqGuardIn Op.maxDepth T .nilIface .nilIface).run P w = .ok false w:=λw=>by
     have f:∀m:Nat,(Op.eqGuardIn (m+1) T .nilIface .nilIface).run P w = .ok false w:=by
      intro m;unfold Op.eqGuardIn;simp[I w,H,R]
     exact f 9999
    have G:∀w,(Op.equal T .nilIface .nilIface).run P w = .ok true w:=λw=>by
     have f:∀m:Nat,(Op.equalIn (m+1) T .nilIface .nilIface).run P w = .ok true w:=by
      intro m;unfold Op.equalIn;simp[I w,H]
     exact f 9999
    have d:∀w,(eqGuard i T x y .nilIface .nilIface).run P w = .ok () w:=λw=>by
     unfold eqGuard;cases i<;>simp[Y w]
     all_goals (split<;>simp)
    cases i with
    |eql=>cases p;exact⟨.bool true,.bool _,λw=>by have j:=d w;have l:=G w;simp[j,binOp,l]⟩
    |neq=>cases p;exact⟨.bool false,.bool _,λw=>by have j:=d w;have l:=G w;simp[j,binOp,l]⟩
    |_=>cases p
   | some a =>
    rw[X]at h;simp only at h;obtain⟨b,C,h⟩:=aD.1 h;obtain⟨t,ht,h⟩:=aD.1 h;obtain⟨F,h⟩:=bY.1 h;rw[DD X]at B;rw[DD C]at A;rw[B.bool_inv,A.bool_inv];have d:∀w,(eqGuard i T x y (.bool a) (.bool b)).run P w = .ok () w:=λw=>by unfold eqGuard;cases i<;>simp
    have o:∀w,(Op.equal T (.bool a) (.bool b)).run P w = .ok (a==b) w:=λw=>by
     have A:=(S.tab ht).run_und w;rw[Tu F]at A;have f:∀m:Nat,(Op.equalIn (m+1) T (.bool a) (.bool b)).run P w = .ok (a==b) w:=by
      intro m;unfold Op.equalIn;simp[A]
     exact f 9999
    cases i with
    |eql=>exact⟨.bool (a==b),by have n:fb (Ue a b)=some g:=h;rw[Ly,HK]at n;cases n;exact .bool _,λw=>by have j:=d w;have l:=o w;simp[j,binOp,l]⟩
    |neq=>exact⟨.bool (!(a==b)),by have n:fb (!Ue a b)=some g:=h;rw[Ly,HK]at n;cases n;exact .bool _,λw=>by have j:=d w;have l:=o w;simp[j,binOp,l]⟩
    |_=>cases h
theorem Zp {d:UnOp} (b:Rl ρ v V) (h:UQ d v=some g):EE P ρ (Op.unary d V) g:=by
 cases d with
 |neg=>
  obtain⟨a,c,h⟩:=aD.1 (show ob v.asI _=some g from h);rw[nI c]at b;rw[b.int_inv,TA h];exact⟨_,.int _ _,λw=>by simp[Op.unary,Op.intArith]⟩
 |not=>
  obtain⟨a,c,h⟩:=aD.1 (show ob v.asB _=some g from h);rw[DD c]at b;rw[b.bool_inv];rw[Ly]at h;cases h;exact⟨_,.bool _,λw=>by simp[Op.unary]⟩
 |_=>cases h
theorem Ry (e:gQ P tb) {S D:TypeId} (f:Rl ρ v V) (h:acm tb S D v=some g):EE P ρ (convert S D V) g:=by
 obtain⟨a,i,h⟩:=aD.1 (show ob v.asI _=some g from h);obtain⟨s,l,h⟩:=aD.1 h;obtain⟨n,b,h⟩:=aD.1 h;obtain⟨t,m,h⟩:=aD.1 h;obtain⟨k,j,h⟩:=aD.1 h;rw[Nw]at h;cases h;rw[nI i]at f;rw[f.int_inv];refine⟨_,.int _ _,λw=> ?_⟩
 have c:=(e.tab l).run_und w;have d:=(e.tab m).run_und w;rw[HX b]at c;rw[HX j]at d;simp[convert,c,d,Conv.intToInt]
theorem QG (d:Rl ρ v V) (h:v.nilck=some g):g=v/\∀(o:Oper) (x:Operand) (a:Operand->V0),o.op = .nilCheck x->a x=V->∀w,(execOp a o).run P w = .ok (.value V) w:=by
 cases d with
 |ptr e m=>cases h;exact⟨rfl,λo x a b c w=>by simp[execOp,b,c]⟩
 |fn f i j k l=>cases h;exact⟨rfl,λo x a b c w=>by simp[execOp,b,c]⟩
 |_=>cases h
theorem Kc (c:gQ P tb) {T:TypeId} {b:List Field} (h:sH tb T=some b):∃d,tS P T d/\d.desc = .struct b.toArray:=by
 obtain⟨t,f,h⟩:=aD.1 (show ob (tb T) _=some b from h);obtain⟨a,e,h⟩:=aD.1 h;cases h;exact⟨t,c.tab f,by rw[PH e]⟩
theorem NZ (m:gQ P tb) {T:TypeId} {f:Nat} (o:Rl ρ v V) (h:HZ tb T f v=some g):EE P ρ (Instr.fieldAt T V f) g:=by
 obtain⟨p,y,h⟩:=aD.1 (show ob v.asP _=some g from h);obtain⟨A,a,h⟩:=aD.1 h;obtain⟨q,n,h⟩:=aD.1 h;obtain⟨z,i,h⟩:=aD.1 h;obtain⟨j,h⟩:=lI.1 h;rw[yM]at h;cases h;rw[FJ y]at o;obtain⟨l,x,rfl⟩:=o.ptr_inv;obtain⟨d,r,s⟩:=Kc m a;rw[wH]at n;refine⟨_,.ptr _ x,λw=> ?_⟩
 have k:=r.run_und w;rw[s]at k;have c:z.size≠0:=λe=>by rw[e]at j;cases j
 have e:l.off+(p.2+q.offset)=l.off+p.2+q.offset:=by omega
 show(Instr.fieldAt T (.pointer (some ⟨l.b,l.off+p.2,none⟩)) f).run P w = .ok (.pointer (some ⟨l.b,l.off+(p.2+q.offset),none⟩)) w;rw[e];simp[Instr.fieldAt,k,n,Instr.sureAddr,fieldPlace,(m.tab i).run_size w,c,fF]
theorem Te (n:gQ P tb) {T:TypeId} {t:Ty} {f:List GV} {e:List V0} {o:Nat} (d:tS P T t) (c:qJ ρ f e) (j:∀v∈e,one v=true) (h:Du t f o=some g):EE P ρ (part T e.toArray o) g:=by
 unfold Du at h;cases b:Bb t.desc with
 |true=>
  rw[b]at h;obtain⟨r,k,h⟩:=aD.1 h;cases h;obtain⟨p,rfl⟩:=Pp k;refine⟨_,Ie (c.sub o t.size) (λv l=>j v (List.mem_of_mem_drop (List.mem_of_mem_take l))),λw=> ?_⟩
  have a:=d.run_agg w;have i:=d.run_size w;rw[b]at a;simp[part,a,i]
 |false=>
  rw[b]at h;rw[cond_false,wH]at h;obtain⟨x,m,c⟩:=c.get h;refine⟨x,c,λw=> ?_⟩
  have a:=d.run_agg w;rw[b]at a;simp[part,a,m]
theorem RB (b:gQ P tb) {T:TypeId} {f:Nat} (k:Rl ρ v V) (h:Zo tb T f v=some g):EE P ρ (Instr.field T V f) g:=by
 obtain⟨s,m,h⟩:=aD.1 (show ob v.asA _=some g from h);obtain⟨y,c,h⟩:=aD.1 h;obtain⟨q,j,h⟩:=aD.1 h;obtain⟨z,e,h⟩:=aD.1 h;rw[Lo m]at k;obtain⟨A,rfl,p,l⟩:=k.agg_inv;obtain⟨d,n,o⟩:=Kc b c;rw[wH]at j;obtain⟨x,r,a⟩:=Te (T:=q.type) b (b.tab e) p l h;refine⟨x,r,λw=> ?_⟩
 have i:=n.run_und w;rw[o]at i;have:=a w;simp[Instr.field,i,j,asAgg,this]
theorem yJ (c:gQ P tb) {T:TypeId} {e:TypeId×Ty} (h:Cc tb T=some e):(∃d,tS P T d/\d.desc = .slice e.1)/\tS P e.1 e.2/\tb e.1=some e.2:=by
 obtain⟨t,i,h⟩:=aD.1 (show ob (tb T) _=some e from h);obtain⟨a,f,h⟩:=aD.1 h;obtain⟨j,b,h⟩:=aD.1 h;cases h;exact⟨⟨t,c.tab i,HY f⟩,c.tab b,b⟩
theorem N_ (q:gQ P tb) {T:TypeId} (k:Rl ρ v V) (B:Rl ρ u U) (h:Ms tb T v u=some g):EE P ρ (Instr.indexAt T V U) g:=by
 obtain⟨n,G,h⟩:=aD.1 (show ob u.asI _=some g from h);obtain⟨i,F,h⟩:=aD.1 h;rw[nI G]at B;rw[B.int_inv,HF F];cases y:v.asP with
 |some p=>
  rw[y]at h;rw[FJ y]at k;obtain⟨l,x,rfl⟩:=k.ptr_inv;obtain⟨t,I,h⟩:=aD.1 (show ob (tb T) _=some g from h);obtain⟨e,E,h⟩:=aD.1 h;obtain⟨f,c,h⟩:=aD.1 h;obtain⟨a,h⟩:=bY.1 h;rw[yM]at h;cases h;refine⟨_,.ptr _ x,λw=> ?_⟩
  have j:=(q.tab I).run_und w;rw[Tt E]at j;have a:i<e.1:=by simpa [zAv]using a
  have o:l.off+(p.2+i*f.size)=l.off+p.2+i*f.size:=by omega
  show(Instr.indexAt T (.pointer (some ⟨l.b,l.off+p.2,none⟩)) (.int n.1 i)).run P w = .ok (.pointer (some ⟨l.b,l.off+(p.2+i*f.size),none⟩)) w;rw[o];simp[Instr.indexAt,asIntOf,j,Instr.sureAddr,a,(q.tab c).run_size w,fF]
 |none=>
  rw[y]at h;obtain⟨s,H,h⟩:=aD.1 (show ob v.asS _=some g from h);rw[DF H]at k;obtain⟨l,m,A,x,rfl,J,z⟩:=k.sl_inv;obtain⟨f,c,h⟩:=aD.1 (show ob (Cc tb T) _=some g from h);obtain⟨a,h⟩:=bY.1 h;rw[yM]at h;cases h;obtain⟨⟨d,D,r⟩,C,_⟩:=yJ q c;have a:i<s.2.2.1:=by simpa [zAv]using a
  rcases z with z|⟨rfl,_⟩
  ·omega
  refine⟨_,.ptr _ x,λw=> ?_⟩
  have j:=D.run_und w;rw[r]at j;have o:l.off+(s.2.1+i*f.2.size)=l.off+s.2.1+i*f.2.size:=by omega
  show(Instr.indexAt T (.slice (some ⟨l.b,l.off+s.2.1,none⟩) s.2.2.1 m) (.int n.1 i)).run P w = .ok (.pointer (some ⟨l.b,l.off+(s.2.1+i*f.2.size),none⟩)) w;rw[o];simp[Instr.indexAt,asIntOf,j,a,C.run_size w,fF]
theorem Zg (k:gQ P tb) {T:TypeId} (e:Rl ρ v V) (d:Rl ρ u U) (h:vAt tb T v u=some g):EE P ρ (Instr.index T V U) g:=by
 obtain⟨s,p,h⟩:=aD.1 (show ob v.asStr _=some g from h);obtain⟨n,o,h⟩:=aD.1 h;obtain⟨i,m,h⟩:=aD.1 h;obtain⟨t,q,h⟩:=aD.1 h;obtain⟨l,h⟩:=bY.1 h;obtain⟨a,h⟩:=bY.1 h;rw[yM]at h;cases h;rw[nI o]at d;rw[d.int_inv,HF m];rw[qT p]at e;obtain⟨r,rfl,f,j⟩:=e.str_inv;have a:i<(bV r).length:=by rw[<-j];simpa [zAv]using a
 rw[f,Ud _ _ a];refine⟨_,.int _ _,λw=> ?_⟩
 have b:=(k.tab q).run_und w;rw[Dd l]at b;have c:=Vk r i;rw[zA2 a]at c;simp[Instr.index,asIntOf,b,c]
theorem UM {i:Nat} (b:Rl ρ v V) (h:aed i v=some g):EE P ρ (Instr.extract V i) g:=by
 obtain⟨f,c,h⟩:=aD.1 (show ob v.asT _=some g from h);rw[acI c]at b;obtain⟨e,rfl,a⟩:=b.tup_inv;rw[wH]at h;obtain⟨x,d,a⟩:=a.get h;exact⟨x,a,λw=>by simp[Instr.extract,d]⟩
theorem UO {t1 t2 ty:TypeId} (j:Rl ρ v V) (i:Rl ρ u U) (h:PM v u=some g):EE P ρ (Builtin.max_ #[t1,t2] ty #[V,U]) g:=by
 obtain⟨a,k,h⟩:=aD.1 (show ob v.asI _=some g from h);obtain⟨b,l,h⟩:=aD.1 h;obtain⟨f,h⟩:=bY.1 h;have f:=Jn f;have d:=j;have c:=i
 rw[nI k]at d;rw[nI l]at c;rw[Ju]at h;by_cases e:a.2<b.2
 ·rw[zA5 e]at h;cases h;refine⟨U,i,λw=> ?_⟩
  rw[d.int_inv,c.int_inv,<-f];simp[Builtin.max_,Builtin.max2];omega
 ·rw[zA3 e]at h;cases h;refine⟨V,j,λw=> ?_⟩
  rw[d.int_inv,c.int_inv,<-f];simp[Builtin.max_,Builtin.max2];omega
theorem UP {t1 t2 ty:TypeId} (j:Rl ρ v V) (i:Rl ρ u U) (h:Zn v u=some g):EE P ρ (Builtin.min_ #[t1,t2] ty #[V,U]) g:=by
 obtain⟨a,k,h⟩:=aD.1 (show ob v.asI _=some g from h);obtain⟨b,l,h⟩:=aD.1 h;obtain⟨f,h⟩:=bY.1 h;have f:=Jn f;have d:=j;have c:=i
 rw[nI k]at d;rw[nI l]at c;rw[Ju]at h;by_cases e:b.2<a.2
 ·rw[zA5 e]at h;cases h;refine⟨U,i,λw=> ?_⟩
  rw[d.int_inv,c.int_inv,<-f];simp[Builtin.min_,Builtin.min2];omega
 ·rw[zA3 e]at h;cases h;refine⟨V,j,λw=> ?_⟩
  rw[d.int_inv,c.int_inv,<-f];simp[Builtin.min_,Builtin.min2];omega
theorem UL (c:gQ P tb) {T ty:TypeId} (b:Rl ρ v V) (h:afy tb T v=some g):EE P ρ (Builtin.cap_ #[T] ty #[V]) g:=by
 obtain⟨t,i,h⟩:=aD.1 (show ob (tb T) _=some g from h);obtain⟨e,f,h⟩:=aD.1 h;obtain⟨j,h⟩:=bY.1 h;cases h;rw[yL j]at b;have d:=b.snil_inv;subst d;have a:=λw=>(c.tab i).run_und w;rw[HY f]at a;exact⟨_,.int _ _,λw=>by simp[Builtin.cap_,a w,goInt]⟩
theorem UN (d:gQ P tb) {T ty:TypeId} (b:Rl ρ v V) (h:PL tb T v=some g):EE P ρ (Builtin.len_ #[T] ty #[V]) g:=by
 obtain⟨t,e,h⟩:=aD.1 (show ob (tb T) _=some g from h);cases c:v.asStr with
 |some s=>
  rw[c]at h;obtain⟨o,h⟩:=bY.1 h;cases h;rw[qT c]at b;obtain⟨r,rfl,p,m⟩:=b.str_inv;refine⟨_,.int _ _,λw=> ?_⟩
  have i:=(d.tab e).run_und w;rw[Dd o]at i;rw[m];have:r.size=(bV r).length:=Lib.size_eq r;simp[Builtin.len_,i,goInt,this]
 | none =>
  rw[c]at h;obtain⟨E,j,h⟩:=aD.1 (show ob (Zz t.desc) _=some g from h);obtain⟨n,a,h⟩:=aD.1 h;cases h;unfold aaX at a;cases f:v.isSnil with
  |true=>
   rw[f]at a;cases a;rw[yL f]at b;rw[b.snil_inv];exact⟨_,.int _ _,λw=>Pk w (d.tab e) (HY j) _ _ _ _⟩
  |false=>
   rw[f]at a;obtain⟨s,c,a⟩:=aD.1 (show ob v.asS _=some n from a);cases a;rw[DF c]at b;obtain⟨l,k,A,y,rfl,x,q⟩:=b.sl_inv;exact⟨_,.int _ _,λw=>Pk w (d.tab e) (HY j) _ _ _ _⟩
end
theorem Uh (a:Nat):∀(c:fY) (k:Nat) (b:Array V0),a+k+c.length<=b.size->
  ((c.zipIdx k).foldl (λb p=>b.setIfInBounds (a+p.2) p.1) b).size=b.size/\
  ∀i,((c.zipIdx k).foldl (λb p=>b.setIfInBounds (a+p.2) p.1) b)[i]? = if a+k<=i/\i<a+k+c.length then c[i - (a+k)]? else b[i]?
 | [],k,b,_=>⟨rfl,λi=>by rw[if_neg (by simp)];rfl⟩
 | v :: c, k, b, h => by
  simp only[zA9]at h;simp only[List.zipIdx_cons,List.foldl_cons];obtain⟨f,g⟩:=Uh a c (k+1) (b.setIfInBounds (a+k) v) (by simp;omega);refine⟨by rw[f];simp,λi=> ?_⟩
  rw[g i];by_cases e:i=a+k
  ·subst e;rw[if_neg (by omega),if_pos (by simp),zBa (by omega)];simp
  ·by_cases d:a+(k+1)<=i/\i<a+(k+1)+c.length
   ·rw[if_pos d,if_pos (by simp;omega)];have:i - (a+k)=(i - (a+(k+1)))+1:=by omega
    rw[this,List.getElem?_cons_succ]
   ·rw[if_neg d,if_neg (by simp;omega),zB6 (Ne.symm e)]
section
variable {P:Program} {tb:TB} {ρ:fK} {V U W:V0} {v u t g:GV}
structure TE (ρ:fK) (cs:List GV) (a:Array V0):Prop where
 r:qJ ρ cs a.toList
 one:∀v∈a.toList,Go.Sx.one v=true
theorem ON {a:Array V0} (h:∀v∈a.toList,one v=true) {i:Nat} {v:V0} (b:a[i]? = some v):one v=true:=h v (by
 rw[<-zAk]at b;exact zA0 b)
theorem Nx {f B l:List GV} {a:Array V0} {d A:Nat} {x:V0} (w:TE ρ f a) (L:Rl ρ g x) (h:g.cells=some l) (J:l.length=A) (H:A≠0) (K:Is l d f=some B):
  (x.cells.size=A/\d+x.cells.size<=a.size)/\TE ρ B (x.cells.zipIdx.foldl (λf (c,j)=>f.setIfInBounds (d+j) c) a):=by
 obtain⟨q,e,o,I⟩:=L.cells h;obtain⟨E,N,O⟩:=KQ K;have s:l≠[]:=by intro e;subst e;exact H J.symm
 have E:=E s;have D:l.length=q.length:=o.len;have z:f.length=a.size:=by have:=w.r.len;simpa using this
 rw[e];have n:d+0+q.length<=a.size:=by omega
 obtain⟨G,C⟩:=Uh d q 0 a n;have F:(q.toArray.zipIdx.foldl (λf (c,j)=>f.setIfInBounds (d+j) c) a)=((q.zipIdx 0).foldl (λf p=>f.setIfInBounds (d+p.2) p.1) a):=by
  simp
 refine⟨⟨by simp;omega,by simp;omega⟩,?_⟩
 rw[F];refine⟨⟨by simp[G,N,z],λi b c m h=> ?_⟩,λy M=> ?_⟩
 ·rw[O i]at m;rw[zAk,C i]at h;simp only[Nat.add_zero]at h;by_cases k:d<=i/\i<d+l.length
  ·rw[if_pos k]at m;rw[if_pos (by omega)]at h;exact o.at' _ _ _ m h
  ·rw[if_neg k]at m;rw[if_neg (by omega)]at h;exact w.r.at' i b c m (by rw[zAk];exact h)
 ·obtain⟨i,k⟩:=List.mem_iff_getElem?.1 M;rw[zAk,C i]at k;split at k
  ·exact I y (zA0 k)
  ·exact ON w.one k
theorem GI {d:Nat}:∀{l:List (Nat×GV)} {b:List (Nat×V0)} {f c:List GV} {a:Array V0},RlP ρ l b->TE ρ f a->Js d l f=some c->
  ∃j,Instr.fill (λi=>some (i*d,d)) a b=some j/\TE ρ c j
 | [],b,f,c,a,hp,hr,h=>by
  have:b=[]:=by have:=hp.1;simpa using this.symm
  subst this;cases h;exact⟨a,rfl,hr⟩
 | p :: l, b, f, c, a, hp, hr, h => by
  cases b with
  |nil=>have:=hp.1;simp at this
  |cons q b=>
   obtain⟨n,x⟩:=hp;simp only[zBf,List.cons.injEq]at n;obtain⟨y,H,r,A,B⟩:=x.of_cons;simp only[zBf,List.cons.injEq]at r;obtain⟨rfl,rfl⟩:=r;obtain⟨m,o,h⟩:=aD.1 (show ob p.2.cells (λm=>bif Nat.beq m.length d then(bif Nat.beq d 0 then none else ob (Is m (Nat.mul p.1 d) f) (Js d l))else none)=some c from h);obtain⟨D,h⟩:=bY.1 h;obtain⟨k,h⟩:=lI.1 h;obtain⟨F,C,h⟩:=aD.1 h;have k:d≠0:=λe=>by rw[e]at k;cases k
   obtain⟨⟨G,E⟩,w⟩:=Nx hr A o (zA7 D) k C;obtain⟨j,s,z⟩:=GI ⟨n.2,B⟩ w h;refine⟨j,?_,z⟩
   have e:Nat.mul p.1 d=q.1*d:=by rw[<-n.1];rfl
   rw[e]at E w s;show Instr.fill _ a ((q.1,q.2)::b)=_;unfold Instr.fill;simp only;rw[if_neg (by simp only[ne_eq,zB5,zAa,not_or,zAx];omega)];exact s
theorem NA {i:List (Nat×Nat)}:∀{l:List (Nat×GV)} {b:List (Nat×V0)} {d c:List GV} {a:Array V0},RlP ρ l b->TE ρ d a->SL i l d=some c->
  ∃j,Instr.fill (i.toArray[·]?) a b=some j/\TE ρ c j
 | [],b,d,c,a,hp,hr,h=>by
  have:b=[]:=by have:=hp.1;simpa using this.symm
  subst this;cases h;exact⟨a,rfl,hr⟩
 | p :: l, b, d, c, a, hp, hr, h => by
  cases b with
  |nil=>have:=hp.1;simp at this
  |cons q b=>
   obtain⟨n,w⟩:=hp;simp only[zBf,List.cons.injEq]at n;obtain⟨y,I,r,A,B⟩:=w.of_cons;simp only[zBf,List.cons.injEq]at r;obtain⟨rfl,rfl⟩:=r;obtain⟨s,f,h⟩:=aD.1 (show ob (Jb i p.1) (λq=>ob p.2.cells λm=>bif Nat.beq m.length q.2 then(bif Nat.beq q.2 0 then none else ob (Is m q.1 d) (SL i l))else none)=some c from h);obtain⟨m,o,h⟩:=aD.1 h;obtain⟨D,h⟩:=bY.1 h;obtain⟨k,h⟩:=lI.1 h;obtain⟨F,C,h⟩:=aD.1 h;have k:s.2≠0:=λe=>by rw[e]at k;cases k
   obtain⟨⟨G,H⟩,E⟩:=Nx hr A o (zA7 D) k C;obtain⟨j,x,z⟩:=NA ⟨n.2,B⟩ E h;refine⟨j,?_,z⟩
   rw[wH,n.1]at f;show Instr.fill _ a ((q.1,q.2)::b)=_;unfold Instr.fill;have:i.toArray[q.1]? = some s:=by simpa using f
   simp only[this];rw[if_neg (by simp only[ne_eq,zB5,zAa,not_or,zAx];omega)];exact x
theorem vZ (f:gQ P tb) {T:TypeId} {a:List GV} (h:DZ tb T=some a):∃d,tb T=some d/\tS P T d/\TE ρ a d.zero.cells:=by
 obtain⟨d,b,h⟩:=aD.1 (show ob (tb T) _=some a from h);obtain⟨z,j,h⟩:=aD.1 h;obtain⟨k,e,i,c⟩:=(Tf (ρ:=ρ) j).cells h;exact⟨d,b,f.tab b,by rw[e];exact⟨i,c⟩⟩
theorem Ma (c:gQ P tb):∀{b:List Field} {a:List (Nat×Nat)},Po tb b=some a->b.mapM (λf=>(P.info? f.type).map λi=>(f.offset,i.size))=some a
 | [],a,h=>by cases h;rfl
 |f::b,a,h=>by
  obtain⟨t,k,h⟩:=aD.1 (show ob (tb f.type) (λt=>ob (Po tb b) λr=>some ((f.offset,t.size)::r))=some a from h);obtain⟨r,e,h⟩:=aD.1 h;cases h;obtain⟨i,d,j,_,_⟩:=(c.tab k).info;simp[List.mapM_cons,d,j,Ma c e]
theorem NY (B:gQ P tb) {T:TypeId} {l:List (Nat×GV)} {a:List (Nat×V0)} (L:RlP ρ l a) (h:Tv tb T l=some g):EE P ρ (Instr.build T a.toArray) g:=by
 obtain⟨t,M,h⟩:=aD.1 (show ob (tb T) _=some g from h);obtain⟨zc,R,h⟩:=aD.1 h;obtain⟨d,J,I,H⟩:=vZ (ρ:=ρ) B R;rw[M]at J;cases J;obtain⟨i,K,X,_,c⟩:=I.info;have s:=I.und
 suffices hh:∃f,P.built T a=some f/\∃k,g = .agg k/\TE ρ k f by
  obtain⟨f,O,k,rfl,n⟩:=hh;refine⟨.agg f,?_,λw=>run_build w T a.toArray f (by simpa using O)⟩
  have:=Ie n.r n.one;simpa using this
 cases q:tdF t.desc with
 | some fs =>
  rw[q]at h;obtain⟨S,m,h⟩:=aD.1 (show ob (QO tb T) _=some g from h);obtain⟨x,b,h⟩:=aD.1 h;cases h;obtain⟨G,C,m⟩:=aD.1 (show ob (sH tb T) _=some S from m);have o:G=fs.toList:=by
   obtain⟨t',p,A⟩:=aD.1 (show ob (tb T) _=some G from C);rw[M]at p;cases p;obtain⟨N,j,A⟩:=aD.1 A;rw[q]at j;cases j;cases A;rfl
  subst o;obtain⟨f,y,z⟩:=NA L H b;refine⟨f,?_,x,rfl,z⟩
  rw[PH q]at s;unfold Program.built;simp only[K,s,c,Ma B m];exact y
 |none=>
  rw[q]at h;obtain⟨e,Q,h⟩:=aD.1 (show ob (tdA t.desc) _=some g from h);obtain⟨te,F,h⟩:=aD.1 h;obtain⟨x,b,h⟩:=aD.1 h;cases h;obtain⟨f,y,z⟩:=GI L H b;refine⟨f,?_,x,rfl,z⟩
  rw[Tt Q]at s;obtain⟨Y,D,E,_,_⟩:=(B.tab F).info;unfold Program.built;simp only[K,s,c,D,E];exact y
end
def AI (f:fK) (w:World) (l:Nh):GO->Prop
 | .cells cs=>∃(c:Array V0) (T:TypeId),w.heap[l.b]? = some (.cells c T (0,0))/\c.size=l.size/\l.off+cs.length<=l.size/\∀(i:Nat) g,cs[i]? = some g->∃v,c[l.off+i]? = some v/\Rl f g v/\one v=true
 | .mp es=>∃(d:Array MapEntry) (a:Nat),w.heap[l.b]? = some (.map d a)/\d.size=es.length/\∀(i:Nat) e,es[i]? = some e->∃m,d[i]? = some m/\Rl f e.1 m.key/\Rl f e.2 m.val
theorem AI.lt {c:fK} {w:World} {l:Nh} {o:GO} (h:AI c w l o):l.b<w.heap.size:=by
 cases o with
 |cells d=>obtain⟨a,T,h,_⟩:=h;exact(zAj.1 h).1
 |mp e=>obtain⟨a,T,h,_⟩:=h;exact(zAj.1 h).1
theorem AI.move {r d:fK} {w w':World} {l:Nh} {o:GO} (h:AI r w l o) (q:r.le d) (e:w'.heap[l.b]? = w.heap[l.b]?):AI d w' l o:=by
 cases o with
 |cells x=>obtain⟨f,T,j,k,n,u⟩:=h;exact⟨f,T,by rw[e];exact j,k,n,λi g p=>let ⟨v,a,b,c⟩:=u i g p;⟨v,a,b.le q,c⟩⟩
 |mp y=>obtain⟨t,s,j,k,n⟩:=h;exact⟨t,s,by rw[e];exact j,k,λi g p=>let ⟨m,a,b,c⟩:=n i g p;⟨m,a,b.le q,c.le q⟩⟩
structure BY where
 obs:List (Nat×Obj)
 env:List V0
def JN (a:BY) (w:World) (O:Nat->Prop):Prop:=∀p∈a.obs,w.heap[p.1]? = some p.2/\¬O p.1
structure f_ (gs:BY) where
 w:World
 O:Nat->Prop
 ok:JN gs w O
def f_.mine {a:BY} (b:f_ a) (k:Nat):Prop:=b.w.heap.size<=k\/b.O k
structure iD {gs:BY} (w0:f_ gs) (ρ:fK) (H:GH) (w:World):Prop where
 ext:Eb w0.O w0.w w
 live:∀h o,H.get h=some o->∃l,ρ h=some l/\w0.mine l.b/\AI ρ w l o
 inj:∀h h' o o' l l',H.get h=some o->H.get h'=some o'->ρ h=some l->ρ h'=some l'->l.b=l'.b->h=h'
 fresh:∀h,H.n<=h->ρ h=none
 dense:∀h,h<H.n->∃l,ρ h=some l
 /-- the block holds what was written last -/
 vers:∀h v l,H.ver h=some v->ρ h=some l->∃lv,ρ v=some lv/\w.heap[l.b]? = some lv.x/\H.get h=some lv.o
 /-- the first handles stand for the open values -/
 env:∀i v,gs.env[i]? = some v->∃l,ρ i=some l/\l.x = .cells #[v] 0 (0,0)
theorem iD.lt {c:BY} {e:f_ c} {w:World} {f:fK} {H:GH} (R:iD e f H w) {h:Nat} {o:GO} (d:H.get h=some o):h<H.n:=by
 rcases zAu h H.n with a|a
 ·exact a
 ·obtain⟨l,b,_⟩:=R.live h o d;rw[R.fresh h a]at b;cases b
def Og (P:Program) {d:BY} (e:f_ d) (ρ:fK) (s:Sem V0) (w:World) (g:GV) (c:GH):Prop:=∃v b a,s.run P w = .ok v b/\ρ.le a/\iD e a c b/\Rl a g v
def fK.upd (ρ:fK) (h:Nat) (l:Nh):fK:=λk=>if k=h then some l else ρ k
theorem Ba {b:fK} {h:Nat} {l:Nh} (c:b h=none):b.le (b.upd h l):=λk x a=>by
 unfold fK.upd;by_cases e:k=h
 ·subst e;rw[c]at a;cases a
 ·rw[if_neg e];exact a
theorem iD.new {L:BY} {B:f_ L} {w w':World} {ρ:fK} {H:GH} (R:iD B ρ H w) {o:GO} {l:Nh} (S:Eb B.O B.w w') (C:∀h u k,H.get h=some u->ρ h=some k->w'.heap[k.b]? = w.heap[k.b]? /\ k.b≠l.b) (M:B.mine l.b)
    (U:AI (ρ.upd H.n l) w' l o) (W:w'.heap[l.b]? = some l.x) (E:l.o=o:=by rfl):ρ.le (ρ.upd H.n l)/\iD B (ρ.upd H.n l) (H.new o) w':=by
  have m:ρ.le (ρ.upd H.n l):=Ba (R.fresh _ (zAe _));have T:∀h u,H.get h=some u->h≠H.n:=λh u g=>Nat.ne_of_lt (R.lt g);have d:∀h,h≠H.n->(ρ.upd H.n l) h=ρ h:=λh s=>by simp[fK.upd,s]
  have f:(ρ.upd H.n l) H.n=some l:=by simp[fK.upd]
  refine⟨m,S,?_,?_,?_,?_,?_,λi v e=>let ⟨l,a,b⟩:=R.env i v e;⟨l,m _ _ a,b⟩⟩
  · intro h u g;rw[rO]at g;by_cases e:h=H.n
    · subst e;rw[if_pos Z]at g;cases g;exact⟨l,f,M,U⟩
    · rw[if_neg e]at g;obtain⟨k,c,D,F⟩:=R.live h u g;exact⟨k,by rw[d h e];exact c,D,F.move m (C h u k g c).1⟩
  · intro h y J K G I g j A c r;rw[rO]at g j;by_cases e:h=H.n
    · by_cases q:y=H.n
      · rw[e,q]
      · rw[if_neg q]at j;rw[d y q]at c;subst e;rw[f]at A;cases A;exact absurd r.symm (C y K I j c).2
    · rw[if_neg e]at g;rw[d h e]at A;by_cases q:y=H.n
      · subst q;rw[f]at c;cases c;exact absurd r (C h J G g A).2
      · rw[if_neg q]at j;rw[d y q]at c;exact R.inj h y J K G I g j A c r
  · intro h s;have : h ≠ H.n := by
        have : H.n + 1 ≤ h := s;omega
    rw[d h this];exact R.fresh h (by
        have : H.n + 1 ≤ h := s;omega)
  · intro h s;have s:h<H.n+1:=s;by_cases e:h=H.n
    · subst e;exact⟨l,f⟩
    · rw[d h e];exact R.dense h (by omega)
  · intro h v k z c;rw[RY]at z;by_cases e:h=H.n
    · subst e;rw[if_pos Z]at z;cases z;rw[f]at c;cases c;exact⟨l,f,W,by rw[rO,if_pos Z,E]⟩
    · rw[if_neg e]at z;rw[d h e]at c;obtain⟨X,N,P,Q⟩:=R.vers h v k z c;obtain⟨p,V,_⟩:=aD.1 (show ob (H.t.get h) _=some v from z);exact⟨X,m _ _ N,by rw[(C h p.2 k (by unfold GH.get;rw[V];rfl) c).1];exact P,by rw[rO,if_neg e];exact Q⟩
theorem iD.set {T:BY} {K:f_ T} {w w':World} {m:fK} {H:GH} (R:iD K m H w) {h:Nat} {o q:GO} {l:Nh} {X:Obj} (u:H.get h=some o) (A:m h=some l) (V:Eb K.O K.w w') (S:∀k,k≠l.b->w'.heap[k]? = w.heap[k]?) (Y:AI m w' l q) (J:w'.heap[l.b]? = some X):
  m.le (m.upd H.n ⟨l.b,l.off,l.size,X,q⟩)/\iD K (m.upd H.n ⟨l.b,l.off,l.size,X,q⟩) (H.set h q) w':=by
 have f:m.le (m.upd H.n ⟨l.b,l.off,l.size,X,q⟩):=Ba (R.fresh _ (zAe _));have c:∀k,k≠H.n->(m.upd H.n ⟨l.b,l.off,l.size,X,q⟩) k=m k:=λk g=>by simp[fK.upd,g]
 have j:(m.upd H.n ⟨l.b,l.off,l.size,X,q⟩) H.n=some ⟨l.b,l.off,l.size,X,q⟩:=by simp[fK.upd]
 have F:∀k x,(if k=h then some q else H.get k)=some x->∃y,H.get k=some y:=λk x J=>by
  by_cases e:k=h
  ·subst e;exact⟨o,u⟩
  ·rw[if_neg e]at J;exact⟨x,J⟩
 refine⟨f,V,?_,?_,?_,?_,?_,λi v e=>let ⟨l,a,b⟩:=R.env i v e;⟨l,f _ _ a,b⟩⟩
 ·intro k x g;rw[tU]at g;by_cases e:k=h
  ·subst e;rw[if_pos Z]at g;cases g;obtain⟨r,d,M,_⟩:=R.live k o u;rw[A]at d;cases d;exact⟨l,f _ _ A,M,Y.move f Z⟩
  ·rw[if_neg e]at g;obtain⟨r,d,M,P⟩:=R.live k x g;refine⟨r,f _ _ d,M,P.move f (S _ λL=>e (R.inj k h x o r l g u d A L))⟩
 ·intro k Q o1 o2 l1 l2 G I B C N;rw[tU]at G I;obtain⟨y1,D⟩:=F k o1 G;obtain⟨y2,E⟩:=F Q o2 I;rw[c k (Nat.ne_of_lt (R.lt D))]at B;rw[c Q (Nat.ne_of_lt (R.lt E))]at C;exact R.inj k Q y1 y2 l1 l2 D E B C N
 ·intro k g;have W:H.n+1<=k:=g;rw[c k (by omega)];exact R.fresh k (by omega)
 ·intro k g;have g:k<H.n+1:=g;by_cases e:k=H.n
  ·subst e;exact⟨_,j⟩
  ·rw[c k e];exact R.dense k (by omega)
 ·intro k v r s d;rw[RZ]at s;by_cases e:k=h
  ·subst e;rw[if_pos Z]at s;cases s;rw[c k (Nat.ne_of_lt (R.lt u)),A]at d;cases d;exact⟨_,j,J,by rw[tU,if_pos Z]⟩
  ·rw[if_neg e]at s;obtain⟨p,hp,_⟩:=aD.1 (show ob (H.t.get k) _=some v from s);have z:H.get k=some p.2:=by unfold GH.get;rw[hp];rfl
   rw[c k (Nat.ne_of_lt (R.lt z))]at d;obtain⟨lv,G,I,U⟩:=R.vers k v r s d;exact⟨lv,f _ _ G,by rw[S r.b λL=>e (R.inj k h p.2 o r l z u d A L)];exact I,by rw[tU,if_neg e];exact U⟩
theorem iD.del {i:BY} {g:f_ i} {w:World} {ρ:fK} {H:GH} (R:iD g ρ H w) (h:Nat):iD g ρ (H.del h) w:=by
 have b:∀k x,(H.del h).get k=some x->H.get k=some x:=λk x a=>by
  rw[HD]at a;by_cases e:k=h
  ·rw[if_pos e]at a;cases a
  ·rw[if_neg e]at a;exact a
 exact⟨R.ext,λk x a=>R.live k x (b k x a),λk n r s o p d f=>R.inj k n r s o p (b _ _ d) (b _ _ f),R.fresh,R.dense,λk v l c m=>by
  rw[RX]at c;by_cases e:k=h
  ·rw[if_pos e]at c;cases c
  ·rw[if_neg e]at c;obtain⟨q,d,f,j⟩:=R.vers k v l c m;exact⟨q,d,f,by rw[HD,if_neg e];exact j⟩,R.env⟩
theorem iD.ext' {g:BY} {f:f_ g} {w w':World} {ρ:fK} {H:GH} (R:iD f ρ H w) (e:Nb w w'):iD f ρ H w':=
 ⟨R.ext.trans e,λh o k=>let ⟨l,a,b,c⟩:=R.live h o k;⟨l,a,b,c.move (fK.le_refl _) (e.block _ c.lt)⟩,R.inj,R.fresh,R.dense,λh v l n m=>by
  obtain⟨p,i,d,j⟩:=R.vers h v l n m;exact⟨p,i,(by rw[e.block _ (zAj.1 d).1];exact d),j⟩,R.env⟩
theorem iD.mono {g b:BY} {j:f_ g} {d:f_ b} {w w':World} {e a:fK} {H H':GH} (R:iD j e H w) (f:iD d a H' w') (c:e.le a):H.n<=H'.n:=by
 rcases zAu H'.n H.n with h|h
 ·obtain⟨l,i⟩:=R.dense _ h;have:=f.fresh _ (zAe _);rw[c _ _ i]at this;cases this
 ·exact h
def Wm (a:fK) (H:GH) (k:Nat):Prop:=∃h o l,H.get h=some o/\a h=some l/\l.b=k
theorem iD.glo {f:BY} {d:f_ f} {w:World} {j:fK} {H:GH} (R:iD d j H w):JN f w (Wm j H):=λp n=>by
 obtain⟨g,i⟩:=d.ok p n;have c:p.1<d.w.heap.size:=(zAj.1 g).1;refine⟨by rw[R.ext.block p.1 c i];exact g,fun⟨h,o,l,k,m,e⟩=> ?_⟩
 obtain⟨q,b,a,_⟩:=R.live h o k;rw[m]at b;cases b;rw[e]at a;rcases a with a|a
 ·omega
 ·exact i a
def iD.base {a:BY} {b:f_ a} {w:World} {ρ:fK} {H:GH} (R:iD b ρ H w):f_ a:=⟨w,Wm ρ H,R.glo⟩
def f_.of {a:BY} (w:World) (h:JN a w λ_=>False):f_ a:=⟨w,λ_=>False,h⟩
def noG:BY:=⟨[],[]⟩
def f_.one (w:World):f_ noG:= .of w λ_ h=>absurd h zB7
theorem iD.rebase {e:BY} {f:f_ e} {w:World} {d:fK} {H:GH} (R:iD f d H w):iD R.base d H w:=
 ⟨Eb.refl _,λh o b=>let ⟨l,a,_,c⟩:=R.live h o b;⟨l,a,.inr ⟨h,o,l,b,a,rfl⟩,c⟩,R.inj,R.fresh,R.dense,R.vers,R.env⟩
theorem iD.back {t:BY} {n:f_ t} {w m:World} {p d:fK} {H q:GH} (R:iD n p H w) (a:iD R.base d q m):iD n d q m/\∀k,k<w.heap.size->¬Wm p H k->m.heap[k]? = w.heap[k]?:=by
 have s:∀k,Wm p H k->n.mine k:=λk ⟨h,o,l,g,j,e⟩=>by
  obtain⟨v,c,b,_⟩:=R.live h o g;rw[j]at c;cases c;rw[<-e];exact b
 refine⟨⟨⟨a.ext.os.trans R.ext.os,a.ext.tape.trans R.ext.tape,a.ext.output.trans R.ext.output,zB1 R.ext.size a.ext.size,λk f r=> ?_⟩,λh o g=> ?_,a.inj,a.fresh,a.dense,a.vers,a.env⟩,λk f i=>a.ext.block k f i⟩
 ·rw[a.ext.block k (zB4 f R.ext.size) (λi=>by rcases s k i with h|h;exact absurd h (by omega);exact r h)];exact R.ext.block k f r
 ·obtain⟨l,j,b,u⟩:=a.live h o g;refine⟨l,j,?_,u⟩
  rcases b with b|b
  ·exact .inl (zB1 R.ext.size b)
  ·exact s _ b
section
variable {P:Program} {tb:TB} {ρ:fK} {V U W:V0} {v u t g:GV} {gs:BY} {w0:f_ gs} {w:World} {H H':GH}
theorem iD.alloc (R:iD w0 ρ H w) {cs:List GV} {a:Array V0} (T:TypeId) (f:TE ρ cs a):
  ∃b,ρ.le b/\b=ρ.upd H.n ⟨w.heap.size,0,a.size,.cells a T,.cells cs⟩/\iD w0 b (H.new (.cells cs)) (w.alloc (.cells a T)):=by
 have e:Nb w (w.alloc (.cells a T)):=(Below.refl _ _).alloc (zAe _) _;have h:=R.new (o:= .cells cs) (l:=⟨w.heap.size,0,a.size,.cells a T,.cells cs⟩) (R.ext.trans e) (λh q s d p=>by
  obtain⟨l,c,_,m⟩:=R.live h q d;rw[p]at c;cases c;exact⟨e.block _ m.lt,Nat.ne_of_lt m.lt⟩) (.inl R.ext.size) (by
  refine⟨a,T,heap_alloc_new w _,rfl,by have:=f.r.len;simp at this;simp[this],λi g d=> ?_⟩
  obtain⟨x,k,j⟩:=f.r.get d;rw[zAk]at k;exact⟨x,by simpa using k,j.le (Ba (R.fresh _ (zAe _))),ON f.one k⟩) (heap_alloc_new w _)
 exact⟨_,h.1,rfl,h.2⟩
theorem abK {T:TypeId} (R:iD w0 ρ H w) (k:Rl ρ v V) (h:EC v H=some (g,H')):Og P w0 ρ (Instr.box T V) w g H':=by
 obtain⟨c,i,h⟩:=aD.1 (show ob v.cells _=some (g,H')from h);rw[jQ]at h;cases h;obtain⟨n,e,j,f⟩:=k.cells i;obtain⟨m,b,rfl,d⟩:=R.alloc T (cs:=c) (a:=V.cells) (by rw[e];exact⟨j,f⟩);refine⟨_,_,_,?_,b,d,.ptr (l:=⟨w.heap.size,0,V.cells.size,.cells V.cells T,.cells c⟩) 0 (by simp[fK.upd])⟩
 simp[Instr.box,newVar,newRow]
theorem JJ (e:gQ P tb) {T:TypeId} (R:iD w0 ρ H w) (h:rH tb T H=some (g,H')):Og P w0 ρ (Instr.alloc T true (.tuple #[])) w g H':=by
 obtain⟨j,i,h⟩:=aD.1 (show ob (DZ tb T) _=some (g,H')from h);rw[jQ]at h;cases h;obtain⟨d,m,f,c⟩:=vZ (ρ:=ρ) e i;obtain⟨k,a,rfl,b⟩:=R.alloc T c;exact⟨_,_,_,JB w f,a,b,.ptr (l:=⟨w.heap.size,0,d.zero.cells.size,.cells d.zero.cells T,.cells j⟩) 0 (by simp[fK.upd])⟩
theorem iD.cells (R:iD w0 ρ H w) {h:Nat} {cs:List GV} (b:H.cells h=some cs) {l:Nh} (c:ρ h=some l):AI ρ w l (.cells cs):=by
 obtain⟨e,a,_,d⟩:=R.live h _ (jU.1 b);rw[c]at a;cases a;exact d
theorem Mt (hG:gQ P tb) {T:TypeId} (R:iD w0 ρ H w) (X:Rl ρ v V) (h:sR tb T v H=some g):∃(x:V0) (p:Nat×Nat) (l:Nh),v = .ptr p.1 p.2/\ρ p.1=some l/\(∃o,H.get p.1=some o)/\Rl ρ g x/\∀E,E.heap[l.b]? = w.heap[l.b]? -> (Instr.loadAt T V).run P E = .ok x E:=by
 obtain⟨p,S,h⟩:=aD.1 (show ob v.asP _=some g from h);obtain⟨G,z,h⟩:=aD.1 h;obtain⟨t,ht,h⟩:=aD.1 h;have C:=FJ S;have A:=jU.1 z;rw[FJ S]at X;obtain⟨l,K,rfl⟩:=X.ptr_inv;obtain⟨I,T',N,aa,Q,c⟩:=R.cells z K;have M:=hG.tab ht;unfold Du at h;cases F:Bb t.desc with
 | true =>
  rw[F]at h;obtain⟨r,hs,h⟩:=aD.1 h;cases h;obtain⟨O,rfl⟩:=Pp hs;let n:=((I.toList.drop (l.off+p.2)).take t.size)
  have m:n.length=t.size:=by simp[n];omega
  have D:qJ ρ ((G.drop p.2).take t.size) n:=⟨by rw[m];simp;omega,λi a b d e=>by
   simp only[n]at e;rw[zAs]at d e;by_cases k:i<t.size
   ·rw[if_pos k,zAt]at d e;obtain⟨x,s,J,_⟩:=c _ _ d;rw[zAk,show l.off+p.2+i=l.off+(p.2+i) by omega,s]at e;cases e;exact J
   ·rw[if_neg k]at d;cases d⟩
  have B:∀x∈n,one x=true:=λx q=>by
   obtain⟨i,k⟩:=List.mem_iff_getElem?.1 q;have L:=bK k;have d:((G.drop p.2).take t.size)[i]? = some (G[p.2+i]'(by omega)):=by
    rw[zAs,if_pos (by omega),zAt,zA2 (by omega)]
   simp only[n]at k;rw[zAs,if_pos (by omega),zAt,zAk,show l.off+p.2+i=l.off+(p.2+i) by omega]at k;obtain⟨y,s,_,Y⟩:=c (p.2+i) _ (zA2 (by omega));rw[s]at k;cases k;exact Y
  refine⟨_,p,l,C,K,⟨_,A⟩,Ie D B,λE f=> ?_⟩
  rw[N]at f;refine BX M F m (λj x q=> ?_);rw[fF];have L:=bK q;simp only[n]at q;rw[zAs,if_pos (by omega),zAt,zAk]at q;simp[World.cell?,f,q]
 |false=>
  rw[F]at h;rw[cond_false,wH]at h;obtain⟨x,s,J,_⟩:=c _ _ h;exact⟨x,p,l,C,K,⟨_,A⟩,J,λE f=>CL M F (by rw[N]at f;simp[World.cell?,f,s])⟩
theorem JK (hG:gQ P tb) {T:TypeId} (R:iD w0 ρ H w) (X:Rl ρ v V) (hu:Rl ρ u U) (h:lQ tb T v u H=some (g,H')):g = .un/\∃w' B,(Instr.storeAt T V U).run P w = .ok () w'/\ρ.le B/\iD w0 B H' w':=by
 obtain⟨p,hp,h⟩:=aD.1 (show ob v.asP _=some (g,H')from h);obtain⟨cs,n,h⟩:=aD.1 h;obtain⟨t,ht,h⟩:=aD.1 h;obtain⟨E,N,h⟩:=aD.1 h;obtain⟨K,h⟩:=bY.1 h;obtain⟨O,h⟩:=lI.1 h;obtain⟨c1,r,h⟩:=aD.1 h;rw[AW]at h;cases h;refine⟨rfl,?_⟩
 rw[FJ hp]at X;obtain⟨l,J,rfl⟩:=X.ptr_inv;obtain⟨c,C,F,ac,S,m⟩:=R.cells n J;obtain⟨f,eU,z,j⟩:=hu.cells N;have hT:=hG.tab ht;have d:E.length=t.size:=zA7 K;have ad:E.length=f.length:=z.len;have L:E≠[]:=by intro e;rw[e]at d;simp at d;rw[<-d]at O;cases O
 obtain⟨Y,p2,p3⟩:=KQ r;have Y:=Y L;have s:=run_storeCells_at P l.b (l.off+p.2) C f 0 c w F (by omega) (λx o=>pT (j x o));simp only[Nat.add_zero]at s;refine⟨w.setRow l.b (c.toList.take (l.off+p.2)++f++c.toList.drop (l.off+p.2+f.length)).toArray,_,?_,R.set (jU.1 n) J ?_ (λk I=>setRow_other w l.b k _ I) ?_ (setRow_heap w l.b _ _ C _ F)⟩
 ·have hs:=hT.run_size w;simp only[Instr.storeAt,Instr.sureAddr,storeVar,eU];have e:f.toArray.size=t.size:=by simp;omega
  simp[hs,e,s]
 ·obtain⟨l',q,a,_⟩:=R.live _ _ (jU.1 n);rw[J]at q;cases q;exact⟨R.ext.os,R.ext.tape,R.ext.output,by simpa using R.ext.size,λk I Q=>by
   rw[setRow_other w l.b k _ (λe=>by subst e;rcases a with a|a;exact absurd a (by omega);exact Q a)];exact R.ext.block k I Q⟩
 ·refine⟨_,C,setRow_heap w l.b _ _ C _ F,?_,by omega,λi x o=> ?_⟩
  ·simp;omega
  ·rw[p3 i]at o;have aa:c.toList.length=c.size:=by simp
   have A:(c.toList.take (l.off+p.2)++f++c.toList.drop (l.off+p.2+f.length)).toArray[l.off+i]? = if p.2<=i/\i<p.2+f.length then f[i - p.2]? else c[l.off+i]?:=by
    rw[List.getElem?_toArray,zAz];by_cases G:i<p.2
    ·rw[if_neg (by omega),zAc (by simp;omega),zAs,if_pos (by omega),zAk]
    ·rw[zAb (by simp;omega),List.length_take];have e1:min (l.off+p.2) c.toList.length=l.off+p.2:=by omega
     rw[e1];by_cases ab:i<p.2+f.length
     ·rw[if_pos (by omega),zAc (by omega)];congr 1;omega
     ·rw[if_neg (by omega),zAb (by omega),zAt,zAk];congr 1;omega
   by_cases G:p.2<=i/\i<p.2+E.length
   ·rw[if_pos G]at o;obtain⟨y,D,M⟩:=z.get o;exact⟨y,by rw[A,if_pos (by omega)];exact D,M,j y (zA0 D)⟩
   ·rw[if_neg G]at o;obtain⟨y,D,M⟩:=m i x o;exact⟨y,by rw[A,if_neg (by omega)];exact D,M⟩
end
section
variable {P:Program} {tb:TB} {ρ:fK} {V U W:V0} {v u t g:GV} {gs:BY} {w0:f_ gs} {w:World} {H H':GH}
theorem ID (z:List GV):∀n,(RR z n).length=n*z.length
 |0=>by show([]:List GV).length=_;simp
 |n+1=>by
  have:RR z (n+1)=z++RR z n:=rfl;rw[this,zA4,ID z n,zAy];omega
theorem Ux (z:List GV) (b:0<z.length):∀(n i:Nat),i<n*z.length->(RR z n)[i]? = z[i%z.length]?
 |0,i,h=>by simp at h
 |n+1,i,h=>by
  have:RR z (n+1)=z++RR z n:=rfl;rw[this];by_cases a:i<z.length
  ·rw[zAc a,Nat.mod_eq_of_lt a]
  ·rw[zAb (by omega),Ux z b n (i - z.length) (by have:(n+1)*z.length=n*z.length+z.length:=Nat.succ_mul n z.length;omega),<-Nat.mod_eq_sub_mod (by omega)]
theorem IE {c:List GV} {z:Array V0} (f:TE ρ c z) (l:0<c.length) (n:Nat):TE ρ (RR c n) ((Array.range (n*c.length)).map (z[· % z.size]!)):=by
 have o:c.length=z.size:=by have:=f.r.len;simpa using this
 have q:0<z.size:=by omega
 have d:∀i,i<n*c.length->z[i%z.size]? = some (z[i%z.size]!):=λi _=>by
  have p:i%z.size<z.size:=Nat.mod_lt _ q;rw[getElem!_pos z (i%z.size) p];simp
 refine⟨⟨by simp[ID],λi a b h m=> ?_⟩,λx k=> ?_⟩
 ·have e:=bK h;rw[ID]at e;rw[Ux c l n i e]at h;have j:some (z[i%z.size]!)=some b:=by
   rw[<-m,zAk];simp[e]
  cases j;refine f.r.at' (i%c.length) a _ h ?_;rw[zAk,o];exact d i e
 ·simp only[Array.toList_map,zB9]at k;obtain⟨i,e,rfl⟩:=k;have e:i<n*c.length:=by simpa using e
  exact ON f.one (d i e)
theorem HO {c:Nat}:∀{l:List (Nat×GV)} {b a:List GV},Js c l b=some a->a.length=b.length
 | [],b,a,h=>by cases h;rfl
 |p::l,b,a,h=>by
  obtain⟨d,e,h⟩:=aD.1 (show ob p.2.cells (λd=>bif Nat.beq d.length c then(bif Nat.beq c 0 then none else ob (Is d (Nat.mul p.1 c) b) (Js c l))else none)=some a from h);obtain⟨_,h⟩:=bY.1 h;obtain⟨_,h⟩:=lI.1 h;obtain⟨i,f,h⟩:=aD.1 h;rw[HO h];exact(KQ f).2.1
theorem Tw (hG:gQ P tb) {T:TypeId} {n:Nat} {l:List (Nat×GV)} {parts:List (Nat×V0)} (R:iD w0 ρ H w) (hp:RlP ρ l parts) (h:pW tb T n l H=some (g,H')):Og P w0 ρ (Instr.buildSlice T n parts.toArray) w g H':=by
 obtain⟨te,hte,h⟩:=aD.1 (show ob (Cc tb T) _=some (g,H')from h);obtain⟨zc,hz,h⟩:=aD.1 h;obtain⟨hlen,h⟩:=bY.1 h;obtain⟨hbig,h⟩:=bY.1 h;obtain⟨h0,h⟩:=lI.1 h;obtain⟨cs,hfill,h⟩:=aD.1 h;rw[jQ]at h;cases h;obtain⟨⟨d,hd,hde⟩,hE,htab⟩:=yJ hG hte;obtain⟨dz,hdz,_,hC⟩:=vZ (ρ:=ρ) hG hz;rw[htab]at hdz;cases hdz;have hlen:zc.length=te.2.size:=zA7 hlen;have h0:te.2.size≠0:=λe=>by rw[e]at h0;cases h0
 have hbig:n*te.2.size<16777216:=by simpa [zAv]using hbig
 have hrep:=IE hC (by omega) n;rw[hlen]at hrep;obtain⟨a',f1,f2⟩:=GI hp hrep hfill;obtain⟨ρ',hle,rfl,R'⟩:=R.alloc te.1 f2;have hsz:a'.size=n*te.2.size:=by
  have e1:=f2.r.len;have:cs.length=(RR zc n).length:=HO hfill;rw[this,ID,hlen]at e1;simp at e1;omega
 refine⟨_,_,_,?_,hle,R',.sl (l:=⟨w.heap.size,0,a'.size,.cells a' te.1,.cells cs⟩) (cap:=n) (A:=⟨w.heap.size,0,none⟩) (by simp[fK.upd]) (zAe _) (.inr ⟨rfl,by simp[hsz]⟩)⟩
 have hu:=hd.run_und w;rw[hde]at hu;by_cases hn:n*te.2.size=0
 ·have hz0:n=0:=by rcases Nat.mul_eq_zero.1 hn with h|h;exact h;exact absurd h h0
  subst hz0;have e0:(Array.range (0*te.2.size)).map (te.2.zero.cells[· % te.2.zero.cells.size]!)=(#[]:Array V0):=by simp
  rw[e0]at f1;have e1:(Array.range 0).map (λ_=>(default:V0)) = #[]:=by simp
  simp[Instr.buildSlice,hu,hE.run_size w,newRow];simp[e1,f1]
 ·simp[Instr.buildSlice,hu,hE.run_size w,hE.run_zero w,hn,f1,newRow,show¬(16777216<n*te.2.size) by omega]
theorem Zl (D:gQ P tb) {T:TypeId} (R:iD w0 ρ H w) (F:Rl ρ v V) (E:Rl ρ u U) (h:Mu tb T v u H=some (g,H')):Og P w0 ρ (Instr.makeSlice T V U) w g H':=by
 obtain⟨a,B,h⟩:=aD.1 (show ob (Cc tb T) _=some (g,H')from h);obtain⟨I,hz,h⟩:=aD.1 h;obtain⟨k,Q,h⟩:=aD.1 h;obtain⟨c,N,h⟩:=aD.1 h;obtain⟨f,h⟩:=bY.1 h;obtain⟨n,S,h⟩:=aD.1 h;obtain⟨b,h⟩:=bY.1 h;obtain⟨m,h⟩:=bY.1 h;obtain⟨p,h⟩:=bY.1 h;obtain⟨r,h⟩:=lI.1 h;rw[Qv,jQ]at h;cases h;obtain⟨⟨d,O,x⟩,L,q⟩:=yJ D B;obtain⟨dz,o,_,K⟩:=vZ (ρ:=ρ) D hz;rw[q]at o;cases o;have b:I.length=a.2.size:=zA7 b;have r:a.2.size≠0:=λe=>by rw[e]at r;cases r
 have m:n*a.2.bytes<16777216:=by simpa [zAv]using m
 have p:n<16777216:=by simpa [zAv]using p
 rw[nI Q]at F;rw[nI N]at E;rw[Jm]at f;have f:=zB2 f;rw[F.int_inv,E.int_inv,<-f,HF S];have i:=IE K (by omega) n;rw[b]at i;obtain⟨aa,z,rfl,J⟩:=R.alloc a.1 i;obtain⟨G,y,Y,M,C⟩:=L.info;have j:=O.und;rw[x]at j;have s:(G.bytes:Int)*(n:Int)<=281474976710656:=by
  have e:(a.2.bytes:Int)*(n:Int)=((n*a.2.bytes:Nat):Int):=by rw[Nat.mul_comm];simp
  rw[M,e];omega
 have X:=run_make (P:=P) w T a.1 G a.2.zero j y C k.1 c.1 n n (by omega) (Int.le_refl _) s (by omega);refine⟨_,_,_,?_,z,J,.sl (l:=⟨w.heap.size,0,((Array.range (n*a.2.size)).map (a.2.zero.cells[· % a.2.zero.cells.size]!)).size,.cells ((Array.range (n*a.2.size)).map (a.2.zero.cells[· % a.2.zero.cells.size]!)) a.1,.cells (RR I n)⟩) (cap:=n) (A:=⟨w.heap.size,0,none⟩) (by simp[fK.upd]) (zAe _) (.inr ⟨rfl,by simp⟩)⟩
 rw[X];simp[madeCells,Y]
theorem acl {o:Option GV} {O:Option V0} {d n:Nat} (e:(o=none/\O=none)\/∃g x,o=some g/\O=some x/\Rl ρ g x) (h:vB o d=some n):(o=none/\O=none/\n=d)\/∃k:IntKind,O=some (.int k n):=by
 rcases e with⟨rfl,rfl⟩|⟨g,x,rfl,rfl,b⟩
 ·cases h;exact .inl ⟨rfl,rfl,rfl⟩
 ·obtain⟨a,c,h⟩:=aD.1 (show ob g.asI _=some n from h);rw[nI c]at b;exact .inr ⟨a.1,by rw[b.int_inv,HF h]⟩
def RlO (ρ:fK) (o:Option GV) (O:Option V0):Prop:=(o=none/\O=none)\/∃g x,o=some g/\O=some x/\Rl ρ g x
theorem Fc {sl:Bool} {len cap l h:Nat} {j i:Option GV} {e d:Option V0} (c:RlO ρ j e) (b:RlO ρ i d) (k:vB j 0=some l) (m:vB i len=some h) (a:l<=h) (f:h<=cap) (w:World):
  (Instr.sliceBounds sl len cap e d none).run P w = .ok (l,h,cap) w:=by
 rcases acl c k with⟨_,rfl,rfl⟩|⟨n,rfl⟩<;>rcases acl b m with⟨_,rfl,rfl⟩|⟨o,rfl⟩
 ·simp[Instr.sliceBounds]
 ·simp[Instr.sliceBounds,Instr.sliceBound,asIntOf,f]
 ·simp[Instr.sliceBounds,Instr.sliceBound,asIntOf,a]
 ·simp[Instr.sliceBounds,Instr.sliceBound,asIntOf,a,f]
theorem Oa (G:gQ P tb) {T:TypeId} {Y Q:Option GV} {LO HI:Option V0} (R:(∃(w0:f_ gs) (w:World),iD w0 ρ H w)\/∀t,tb T=some t->tdA t.desc=none) (z:Rl ρ v V) (x:RlO ρ Y LO) (o:RlO ρ Q HI) (h:Bj tb T v Y Q H=some g):EE P ρ (Instr.sliceAt T V LO HI none) g:=by
 obtain⟨l,J,h⟩:=aD.1 (show ob (vB Y 0) _=some g from h);obtain⟨t,ht,h⟩:=aD.1 h;have I:=G.tab ht;cases S:v.asStr with
 | some s =>
  rw[S]at h;obtain⟨e,D,h⟩:=aD.1 (show ob (vB Q s.2) _=some g from h);obtain⟨hd,h⟩:=bY.1 h;obtain⟨d,h⟩:=bY.1 (show(bif Nat.ble l e then _ else none)=some g from h);obtain⟨a,h⟩:=bY.1 h;simp only[yM]at h;cases h;have d:l<=e:=by simpa using d
  have a:e<=s.2:=by simpa using a
  rw[qT S]at z;obtain⟨r,rfl,K,e2⟩:=z.str_inv;have j:r.size=s.2:=by rw[e2];exact Lib.size_eq r
  have hx:=Lib.extract_data r l e;refine⟨.string (r.extract l e),?_,λw=> ?_⟩
  ·have:Rl ρ (.str (mT (bV (r.extract l e))) (bV (r.extract l e)).length) (.string (r.extract l e)):= .str _;have e3:bV (r.extract l e)=((bV r).drop l).take (e - l):=hx;rw[e3]at this;rw[K,Xu];have e4:(((bV r).drop l).take (e - l)).length=Nat.sub e l:=by
    simp only[List.length_take,List.length_drop,<-e2];show _=e - l;omega
   rw[e4]at this;exact this
  ·have m:=I.run_und w;rw[Dd hd]at m;have n:=Fc (P:=P) (sl:=false) (cap:=s.2) x o J D d a w;simp[Instr.sliceAt,m,Instr.slice,j,n]
 | none =>
  rw[S]at h;cases M:v.asS with
  | some s =>
   simp only[M]at h;obtain⟨E,B,h⟩:=aD.1 (show ob (Zz t.desc) _=some g from h);obtain⟨f,k,h⟩:=aD.1 h;obtain⟨e,D,h⟩:=aD.1 h;obtain⟨j,h⟩:=bY.1 (show(bif Nat.beq f.size s.2.2.2 then _ else none)=some g from h);obtain⟨d,h⟩:=bY.1 h;obtain⟨a,h⟩:=bY.1 h;simp only[yM]at h;cases h;have j:f.size=s.2.2.2:=zA7 j;have d:l<=e:=by simpa using d
   have a:e<=s.2.2.1:=by simpa using a
   rw[DF M]at z;obtain⟨i,c,A,q,rfl,hc,ha⟩:=z.sl_inv;refine⟨.slice (if c=l then some A else(some A).map (·.add (l*f.size))) (e - l) (c - l),?_,λw=> ?_⟩
   ·have K:(if c=l then some A else(some A).map (·.add (l*f.size)))=some (if c=l then A else A.add (l*f.size)):=by split<;>rfl
    rw[K];refine .sl q (show e - l<=c - l by omega) ?_;by_cases C:c - l=0
    ·exact .inl C
    ·right;rw[if_neg (by omega)];rcases ha with ha|⟨rfl,n⟩
     ·omega
     ·rw[fF];refine⟨by show _=(⟨i.b,i.off+(s.2.1+l*f.size),none⟩:Addr);rw[Nat.add_assoc],?_⟩
      have:c*s.2.2.2=l*f.size+(c - l)*f.size:=by rw[<-j,<-zAy];congr 1;omega
      show i.off+(s.2.1+l*f.size)+(c - l)*f.size<=i.size;omega
   ·have m:=I.run_und w;rw[HY B]at m;have n:=Fc (P:=P) (sl:=true) (cap:=c) x o J D d (by omega) w;simp[Instr.sliceAt,m,Instr.slice,n,(G.tab k).run_size w]
  | none =>
   simp only[M]at h;cases X:v.isSnil with
   |true=>
    rw[X]at h;obtain⟨E,B,h⟩:=aD.1 (show ob (Zz t.desc) _=some g from h);obtain⟨f,k,h⟩:=aD.1 h;obtain⟨e,D,h⟩:=aD.1 h;obtain⟨F,h⟩:=bY.1 h;obtain⟨L,h⟩:=bY.1 h;cases h;have F:l=0:=zA7 F;have L:e=0:=zA7 L;subst F L;rw[yL X]at z;rw[z.snil_inv];refine⟨_,.snil,λw=> ?_⟩
    have m:=I.run_und w;rw[HY B]at m;have n:=Fc (P:=P) (sl:=true) (len:=0) (cap:=0) x o J D (zAe _) (zAe _) w;simp[Instr.sliceAt,m,Instr.slice,n,(G.tab k).run_size w]
   |false=>
   rw[X]at h;obtain⟨p,hp,h⟩:=aD.1 (show ob v.asP _=some g from h);obtain⟨E,B,h⟩:=aD.1 h;obtain⟨f,k,h⟩:=aD.1 h;obtain⟨e,D,h⟩:=aD.1 h;obtain⟨cs,N,h⟩:=aD.1 h;obtain⟨y,h⟩:=bY.1 h;obtain⟨d,h⟩:=bY.1 (show(bif Nat.ble l e then _ else none)=some g from h);obtain⟨a,h⟩:=bY.1 h;obtain⟨F,h⟩:=lI.1 h;simp only[yM]at h;cases h;have y:p.2+E.1*f.size<=cs.length:=by simpa using y
   have d:l<=e:=by simpa using d
   have a:e<=E.1:=by simpa using a
   rw[FJ hp]at z;obtain⟨i,q,rfl⟩:=z.ptr_inv;rcases R with⟨w0,w,R⟩|R
   rotate_left
   ·rw[R t ht]at B;cases B
   obtain⟨ab,T',n,aa,O,_⟩:=R.cells N q;refine⟨.slice (some (if E.1=l then⟨i.b,i.off+p.2,none⟩else Addr.add ⟨i.b,i.off+p.2,none⟩ (l*f.size))) (e - l) (E.1 - l),?_,λw=> ?_⟩
   ·refine .sl q (show e - l<=E.1 - l by omega) ?_;by_cases C:E.1 - l=0
    ·exact .inl C
    ·right;rw[if_neg (by omega),fF];refine⟨by show _=(⟨i.b,i.off+(p.2+l*f.size),none⟩:Addr);rw[Nat.add_assoc],?_⟩
     have:E.1*f.size=l*f.size+(E.1 - l)*f.size:=by rw[<-zAy];congr 1;omega
     show i.off+(p.2+l*f.size)+(E.1 - l)*f.size<=i.size;omega
   ·have m:=I.run_und w;rw[Tt B]at m;have n:=Fc (P:=P) (sl:=false) (cap:=E.1) x o J D d a w;simp[Instr.sliceAt,m,Instr.sureAddr,n,(G.tab k).run_size w]
end
section
variable {P:Program} {tb:TB} {ρ:fK} {V U W:V0} {v u t g:GV} {gs:BY} {w0:f_ gs} {w:World} {H H':GH}
structure UW (ρ:fK) (w:World) (sz n:Nat) (r:List GV) (V:V0) (ns:List V0):Prop where
 rel:qJ ρ r ns
 len:ns.length=n*sz
 one:∀x∈ns,Go.Sx.one x=true
 val:∃base cap,V = .slice base n cap/\n<=cap/\((base=none/\n=0/\cap=0)\/∃A,base=some A/\∀(j:Nat) x,ns[j]? = some x->w.cell? (A.add j)=some x)
theorem EK (R:iD w0 ρ H w) {m:Nat} {p:Nat×List GV} (F:Rl ρ v V) (h:vH H m v=some p):∃k,UW ρ w m p.1 p.2 V k:=by
 unfold vH at h;cases K:v.isSnil with
 |true=>
  rw[K]at h;cases h;rw[yL K]at F;exact⟨[],.nil,by simp,λx f=>by simp at f,none,0,F.snil_inv,zAe _,.inl ⟨rfl,rfl,rfl⟩⟩
 | false =>
  rw[K]at h;obtain⟨s,hs,h⟩:=aD.1 (show ob v.asS _=some p from h);obtain⟨D,h⟩:=bY.1 h;obtain⟨cs,I,h⟩:=aD.1 h;obtain⟨r,hr,h⟩:=aD.1 h;cases h;have D:s.2.2.2=m:=zA7 D;obtain⟨N,rfl⟩:=Pp hr;have N:s.2.1+s.2.2.1*m<=cs.length:=N;rw[DF hs]at F;obtain⟨l,G,A,Y,rfl,S,M⟩:=F.sl_inv;obtain⟨o,T,X,J,O,e⟩:=R.cells I Y;let k:=(o.toList.drop (l.off+s.2.1)).take (s.2.2.1*m);have n:k.length=s.2.2.1*m:=by simp[k];omega
  have C:qJ ρ ((cs.drop s.2.1).take (s.2.2.1*m)) k:=⟨by rw[n];simp;omega,λi a b c d=>by
   simp only[k]at d;rw[zAs]at c d;by_cases E:i<s.2.2.1*m
   ·rw[if_pos E,zAt]at c d;obtain⟨x,q,z,_⟩:=e _ _ c;rw[zAk,show l.off+s.2.1+i=l.off+(s.2.1+i) by omega,q]at d;cases d;exact z
   ·rw[if_neg E]at c;cases c⟩
  have B:∀(j:Nat) x,k[j]? = some x->j<s.2.2.1*m/\o[l.off+(s.2.1+j)]? = some x:=λj x f=>by
   have aa:=bK f;simp only[k]at f;rw[zAs,if_pos (by omega),zAt,zAk,show l.off+s.2.1+j=l.off+(s.2.1+j) by omega]at f;exact⟨by omega,f⟩
  refine⟨k,C,n,λx f=> ?_,_,G,rfl,S,.inr ⟨A,rfl,λj x f=> ?_⟩⟩
  ·obtain⟨i,E⟩:=List.mem_iff_getElem?.1 f;obtain⟨q,z⟩:=B i x E;obtain⟨y,L,_,Q⟩:=e (s.2.1+i) _ (zA2 (by omega));rw[z]at L;cases L;exact Q
  ·obtain⟨q,z⟩:=B j x f;rcases M with M|⟨rfl,_⟩
   ·have:s.2.2.1=0:=by omega
    rw[this]at q;simp at q
   ·rw[fF,show l.off+s.2.1+j=l.off+(s.2.1+j) by omega];simp[World.cell?,X,z]
theorem UW.src {e n:Nat} {r:List GV} {b:List V0} (h:UW ρ w e n r V b) {T E:TypeId} (d:P.underlying T=some (.slice E)):Src P e T V n b w:=by
 obtain⟨base,c,rfl,_,i⟩:=h.val;have a:∀x∈b,x.oneCell'=true:=λx j=>pT (h.one x j);rcases i with⟨rfl,rfl,rfl⟩|⟨A,rfl,f⟩
 ·have:b=[]:=zAn (by have:=h.len;simpa using this);subst this;exact Src.ofNil w d 0
 ·exact Src.ofSlice w d A n c b h.len f a
theorem UW.old {b n:Nat} {r:List GV} {a:List V0} (h:UW ρ w b n r V a):(Builtin.firstCells b n V).run P w.drew = .ok a.toArray w.drew:=by
 obtain⟨base,c,rfl,_,e⟩:=h.val;rcases e with⟨rfl,rfl,rfl⟩|⟨A,rfl,d⟩
 ·have:a=[]:=zAn (by have:=h.len;simpa using this);subst this;exact run_firstCells_none w.drew b 0 0 0
 ·exact run_firstCells_some w.drew b n A n c a h.len d
theorem iD.alloc' (R:iD w0 ρ H w) {cs:List GV} {a:Array V0} (T:TypeId) (f:cs.length<=a.size) (p:∀(i:Nat) g,cs[i]? = some g->∃x,a[i]? = some x/\Rl ρ g x/\one x=true):
  ∃b,ρ.le b/\b=ρ.upd H.n ⟨w.heap.size,0,a.size,.cells a T,.cells cs⟩/\iD w0 b (H.new (.cells cs)) (w.alloc (.cells a T)):=by
 have e:Nb w (w.alloc (.cells a T)):=(Below.refl _ _).alloc (zAe _) _;have h:=R.new (o:= .cells cs) (l:=⟨w.heap.size,0,a.size,.cells a T,.cells cs⟩) (R.ext.trans e) (λh r s d f=>by
  obtain⟨l,c,_,k⟩:=R.live h r d;rw[f]at c;cases c;exact⟨e.block _ k.lt,Nat.ne_of_lt k.lt⟩) (.inl R.ext.size) (by
  refine⟨a,T,heap_alloc_new w _,rfl,by simpa using f,λi g d=> ?_⟩
  obtain⟨x,q,j,m⟩:=p i g d;exact⟨x,by simpa using q,j.le (Ba (R.fresh _ (zAe _))),m⟩) (heap_alloc_new w _)
 exact⟨_,h.1,rfl,h.2⟩
theorem SC {e:Nat} {p:Nat×List GV} {s:Nat×Nat×Nat×Nat} (h:vH H e v=some p) (f:v.asS=some s):s.2.2.2=e/\∃cs,H.cells s.1=some cs/\s.2.1+s.2.2.1*e<=cs.length/\p.1=s.2.2.1:=by
 unfold vH at h;have c:v.isSnil=false:=by rw[DF f];rfl
 rw[c]at h;obtain⟨j,a,h⟩:=aD.1 (show ob v.asS _=some p from h);rw[f]at a;cases a;obtain⟨d,h⟩:=bY.1 h;obtain⟨cs,b,h⟩:=aD.1 h;obtain⟨r,i,h⟩:=aD.1 h;cases h;exact⟨zA7 d,cs,b,(Pp i).1,rfl⟩
theorem Vg (R:iD w0 ρ H w) {D a k f m q:Nat} {l:Nh} {cs s z:List GV} {ac d:List V0} (C:H.cells D=some cs) (hl:ρ D=some l) (F:UW ρ w f k s (.slice (some ⟨l.b,l.off+a,none⟩) k q) ac)
  (r2:qJ ρ z d) (l2:d.length=m*f) (o2:∀x∈d,one x=true) (E:k+m<=q) (N:l.off+a+q*f<=l.size):
  ∃c r,w.heap[l.b]? = some (.cells c r (0,0))/\l.off+a+q*f<=c.size/\ρ.le (ρ.upd H.n ⟨l.b,l.off+a,l.size,(.cells (c.toList.take (l.off+a+k*f)++d++c.toList.drop (l.off+a+k*f+d.length)).toArray r),.cells (s++z)⟩)/\
   iD w0 (ρ.upd H.n ⟨l.b,l.off+a,l.size,(.cells (c.toList.take (l.off+a+k*f)++d++c.toList.drop (l.off+a+k*f+d.length)).toArray r),.cells (s++z)⟩) ((H.del D).new (.cells (s++z))) (w.setRow l.b (c.toList.take (l.off+a+k*f)++d++c.toList.drop (l.off+a+k*f+d.length)).toArray):=by
 obtain⟨c,r,M,ab,ae,T⟩:=R.cells C hl;have af:k*f+m*f<=q*f:=by rw[<-zAy];exact zAr _ E
 have ag:c.toList.length=c.size:=by simp
 obtain⟨l0,I,p,_⟩:=R.live _ _ (jU.1 C);rw[hl]at I;cases I;have l1:=F.len;have e1:s.length=k*f:=by rw[F.rel.len];exact l1
 have e2:z.length=m*f:=by rw[r2.len];exact l2
 have B:=(R.del D).new (o:= .cells (s++z)) (l:=⟨l.b,l.off+a,l.size,(.cells (c.toList.take (l.off+a+k*f)++d++c.toList.drop (l.off+a+k*f+d.length)).toArray r),.cells (s++z)⟩)
  (w':=w.setRow l.b (c.toList.take (l.off+a+k*f)++d++c.toList.drop (l.off+a+k*f+d.length)).toArray)
  ⟨R.ext.os,R.ext.tape,R.ext.output,by simpa using R.ext.size,λk hk hO=>by
   rw[setRow_other w l.b k _ (λe=>by subst e;rcases p with j|j;exact absurd j (by omega);exact hO j)];exact R.ext.block k hk hO⟩
  (λh o' l' G aa=>by
   rw[HD]at G;by_cases e:h=D
   ·rw[if_pos e]at G;cases G
   ·rw[if_neg e]at G;have K:l'.b≠l.b:=λe'=>e (R.inj h D o' _ l' l G (jU.1 C) aa hl e');exact⟨setRow_other w l.b l'.b _ K,K⟩) p (by
   refine⟨_,r,setRow_heap w l.b _ _ r _ M,?_,?_,λi x hx=> ?_⟩
   ·simp;omega
   ·show l.off+a+(s++z).length<=l.size;rw[zA4,e1,e2];omega
   ·have J:ρ.le (ρ.upd (H.del D).n ⟨l.b,l.off+a,l.size,(.cells (c.toList.take (l.off+a+k*f)++d++c.toList.drop (l.off+a+k*f+d.length)).toArray r),.cells (s++z)⟩):=Ba (R.fresh _ (zAe _));have Y:=bK hx;rw[zA4,e1,e2]at Y;obtain⟨y,L,hr⟩:=(F.rel.append r2).get hx;refine⟨y,?_,hr.le J,?_⟩
    ·show(c.toList.take (l.off+a+k*f)++d++c.toList.drop (l.off+a+k*f+d.length)).toArray[l.off+a+i]? = some y;rw[List.getElem?_toArray,zAz];by_cases hi:i<k*f
     ·rw[zAc (by simp;omega),zAs,if_pos (by omega),zAk];rw[zAc (by omega)]at L;obtain⟨O,ad,S,_,X⟩:=F.val;cases S;rcases X with⟨h1,_⟩|⟨A,hA,Q⟩
      ·cases h1
      ·cases hA;have:=Q i y L;rw[fF]at this;simpa [World.cell?,M]using this
     ·rw[zAb (by simp;omega),List.length_take,show min (l.off+a+k*f) c.toList.length=l.off+a+k*f by omega];rw[zAb (by omega),l1]at L;rw[zAc (by omega)];rw[<-L];congr 1;omega
    ·rcases zB0.1 (zA0 L)with hm|hm
     ·exact F.one y hm
     ·exact o2 y hm) (setRow_heap w l.b _ _ r _ M)
 exact⟨c,r,M,by omega,B.1,B.2⟩
theorem Zf (E:gQ P tb) {T C ty:TypeId} (R:iD w0 ρ H w) (hv:Rl ρ v V) (hu:Rl ρ u U) (h:Ze tb T C v u H=some (g,H')):Og P w0 ρ (Builtin.append_ #[T,C] ty #[V,U]) w g H':=by
 unfold Ze at h;obtain⟨O,h⟩:=bY.1 h;obtain⟨b,N,h⟩:=aD.1 h;obtain⟨t',M,h⟩:=aD.1 h;obtain⟨kn,J,h⟩:=aD.1 h;obtain⟨B,hz,h⟩:=aD.1 h;obtain⟨k,hk,h⟩:=aD.1 h;obtain⟨n,hn,h⟩:=aD.1 h;obtain⟨f,h⟩:=bY.1 h;obtain⟨m,h⟩:=bY.1 h;obtain⟨D,h⟩:=lI.1 h;obtain⟨p,h⟩:=lI.1 h;rw[Qv,jQ]at h;cases h;obtain⟨⟨d,hd,F⟩,hE,z⟩:=yJ E N;obtain⟨dz,q,_,hC⟩:=vZ (ρ:=ρ) E hz;rw[z]at q;cases q;have f:B.length=b.2.size:=zA7 f;have D:b.2.size≠0:=λe=>by rw[e]at D;cases D
 have p:n≠0:=λe=>by rw[e]at p;cases p
 have m:n*(b.2.bytes+1)<16777216:=by simpa [zAv]using m
 have aa:n*b.2.bytes+n<16777216:=by rw[Nat.mul_add,Nat.mul_one]at m;exact m
 rw[yL O]at hv;have hV:=hv.snil_inv;subst hV;rw[nI hk]at hu;rw[hu.int_inv,HF hn];obtain⟨iE,I,hs,hb,Y⟩:=hE.info;have o:=hd.und;rw[F]at o;have j:=(E.tab M).und;rw[HX J]at j;have hr:=Lib.run_append_nil_zeros (P:=P) w T C ty b.1 iE b.2.zero k.1 kn o j I Y n (by omega) (by omega) (by omega) (by rw[hb];omega);have A:b.2.zero.cells.size=b.2.size:=by have:=hC.r.len;simp at this;omega
 have G:=grownCap_ge w n 0 b.1;have c:=IE hC (by omega) n;have s:=c.r.len;have hx:Builtin.zeroCells b.2.zero.cells n=(Array.range (n*B.length)).map (b.2.zero.cells[· % b.2.zero.cells.size]!):=by
  unfold Builtin.zeroCells;rw[A,f]
 rw[<-hx]at c s;obtain⟨ab,K,rfl,R'⟩:=R.alloc' (cs:=RR B n) (a:=Builtin.zeroCells b.2.zero.cells n++Builtin.zeroCells b.2.zero.cells (grownCap w n 0 b.1 - n)) b.1 (by
   simp only[Array.size_append];have:(RR B n).length=(Builtin.zeroCells b.2.zero.cells n).size:=by simpa using s
   omega) (λi x Q=>by
  obtain⟨y,S,L⟩:=c.r.get Q;have X:(Builtin.zeroCells b.2.zero.cells n)[i]? = some y:=by simpa using S
  exact⟨y,by rw[zBd (by simpa using bK S)];exact X,L,c.one y (by simpa using zA0 S)⟩)
 refine⟨_,_,_,hr,K,R'.ext' ((Below.refl _ _).drew),?_⟩
 refine .sl (l:=⟨w.heap.size,0,(Builtin.zeroCells b.2.zero.cells n++Builtin.zeroCells b.2.zero.cells (grownCap w n 0 b.1 - n)).size,.cells (Builtin.zeroCells b.2.zero.cells n++Builtin.zeroCells b.2.zero.cells (grownCap w n 0 b.1 - n)) b.1,.cells (RR B n)⟩) (by simp[fK.upd]) G (.inr ⟨rfl,?_⟩);simp only[Array.size_append,size_zeroCells,A];have:grownCap w n 0 b.1*b.2.size=n*b.2.size+(grownCap w n 0 b.1 - n)*b.2.size:=by
  rw[<-zAy];congr 1;omega
 omega
theorem iD.put (R:iD w0 ρ H w) {D o:Nat} {cs z K:List GV} {l:Nh} {d:List V0} (h:H.cells D=some cs) (G:ρ D=some l) (q:qJ ρ z d) (n:∀x∈d,one x=true) (p:Is z o cs=some K) (I:z≠[]):
  ∃a j,w.heap[l.b]? = some (.cells a j (0,0))/\l.off+o+d.length<=a.size/\∃A,ρ.le A/\iD w0 A (H.set D (.cells K)) (w.setRow l.b (a.toList.take (l.off+o)++d++a.toList.drop (l.off+o+d.length)).toArray):=by
 obtain⟨a,j,C,T,M,f⟩:=R.cells h G;have X:z.length=d.length:=q.len;obtain⟨N,p2,Y⟩:=KQ p;have N:=N I;refine⟨a,j,C,by omega,_,R.set (jU.1 h) G ?_ (λk F=>setRow_other w l.b k _ F) ?_ (setRow_heap w l.b _ _ j _ C)⟩
 ·obtain⟨l',m,c,_⟩:=R.live _ _ (jU.1 h);rw[G]at m;cases m;exact⟨R.ext.os,R.ext.tape,R.ext.output,by simpa using R.ext.size,λk F L=>by
   rw[setRow_other w l.b k _ (λe=>by subst e;rcases c with c|c;exact absurd c (by omega);exact L c)];exact R.ext.block k F L⟩
 ·refine⟨_,j,setRow_heap w l.b _ _ j _ C,?_,by omega,λi x r=> ?_⟩
  ·simp;omega
  ·rw[Y i]at r;have Q:a.toList.length=a.size:=by simp
   have s:(a.toList.take (l.off+o)++d++a.toList.drop (l.off+o+d.length)).toArray[l.off+i]? = if o<=i/\i<o+d.length then d[i - o]? else a[l.off+i]?:=by
    rw[List.getElem?_toArray,zAz];by_cases E:i<o
    ·rw[if_neg (by omega),zAc (by simp;omega),zAs,if_pos (by omega),zAk]
    ·rw[zAb (by simp;omega),List.length_take];have O:min (l.off+o) a.toList.length=l.off+o:=by omega
     rw[O];by_cases S:i<o+d.length
     ·rw[if_pos (by omega),zAc (by omega)];congr 1;omega
     ·rw[if_neg (by omega),zAb (by omega),zAt,zAk];congr 1;omega
   by_cases E:o<=i/\i<o+z.length
   ·rw[if_pos E]at r;obtain⟨y,B,J⟩:=q.get r;exact⟨y,by rw[s,if_pos (by omega)];exact B,J,n y (zA0 B)⟩
   ·rw[if_neg E]at r;obtain⟨y,B,J⟩:=f i x r;exact⟨y,by rw[s,if_neg (by omega)];exact B,J⟩
theorem Zj (hG:gQ P tb) {T T' ty:TypeId} (R:iD w0 ρ H w) (hv:Rl ρ v V) (hu:Rl ρ u U) (h:acn tb T v u H=some (g,H')):Og P w0 ρ (Builtin.copy_ #[T,T'] ty #[V,U]) w g H':=by
 obtain⟨s,hs,h⟩:=aD.1 (show ob v.asS _=some (g,H')from h);obtain⟨r,hr,h⟩:=aD.1 h;obtain⟨f,Y,h⟩:=aD.1 h;obtain⟨D,h⟩:=bY.1 h;obtain⟨m,h⟩:=bY.1 h;obtain⟨c,h⟩:=bY.1 h;obtain⟨G,M,h⟩:=aD.1 h;obtain⟨xs,aa,h⟩:=aD.1 h;obtain⟨ds,N,h⟩:=aD.1 h;have D:s.2.2.2=f.2.size:=zA7 D;have m:r.2.2.2=f.2.size:=zA7 m;have c:r.2.2.1=s.2.2.1:=zA7 c;cases xs with
 |nil=>cases h
 | cons x0 xs0 =>
  obtain⟨c1,B,h⟩:=aD.1 (show ob (Is (x0::xs0) s.2.1 ds) _=some (g,H')from h);rw[AW]at h;cases h;have k:vH H f.2.size u=some (r.2.2.1,x0::xs0):=by
   unfold vH;rw[DF hr];have K:Nat.beq f.2.size f.2.size=true:=by simp
   show ob (some r) (λs=>bif Nat.beq s.2.2.2 f.2.size then _ else none)=_;show(bif Nat.beq r.2.2.2 f.2.size then ob (H.cells r.1) (λG=>ob (slc G r.2.1 (Nat.mul r.2.2.1 f.2.size)) λq=>some (r.2.2.1,q))else none)=_;rw[m,K,cond_true,M];show ob (slc G r.2.1 (Nat.mul r.2.2.1 f.2.size)) _=_;rw[aa];rfl
  obtain⟨ns,n⟩:=EK R hu k;obtain⟨⟨d,hd,p⟩,hE,ad⟩:=yJ hG Y;rw[DF hs]at hv;obtain⟨l,ae,A,hl,rfl,hc,ha⟩:=hv.sl_inv;have X:x0::xs0≠[]:=by simp
  obtain⟨I,T2,K,y,ab,S,R'⟩:=R.put N hl n.rel n.one B X;have a:=n.len;have i:ns.length≠0:=by have:=n.rel.len;simp at this;omega
  have hA:A=⟨l.b,l.off+s.2.1,none⟩:=by
   rcases ha with ha|⟨e,_⟩
   ·exfalso;have:s.2.2.1=0:=by omega
    rw[c,this]at a;simp at a;exact i (by simp[a])
   ·exact e
  subst hA;have F:=hd.und;rw[p]at F;have E:=run_storeCells_at P l.b (l.off+s.2.1) T2 ns 0 I w K (by simpa using y) (λx hx=>pT (n.one x hx));simp only[Nat.add_zero]at E;obtain⟨ac,o,J,L,O⟩:=n.val;subst J;rcases O with⟨_,h0,_⟩|⟨A2,rfl,j⟩
  ·exfalso;rw[h0]at a;simp at a;exact i (by simp[a])
  have Q:=run_firstCells_some (P:=P) w f.2.size r.2.2.1 A2 r.2.2.1 o ns a j;have C:=hd.run_und w;rw[p]at C;refine⟨_,_,ab,?_,S,R',.int _ _⟩
  have z:Nat.min r.2.2.1 s.2.2.1=r.2.2.1:=by rw[c];exact Nat.min_self _
  simp[Builtin.copy_,C,Builtin.lenOf,hE.run_size w,z,Q,E,goInt]
theorem abI (hG:gQ P tb) {T T' ty:TypeId} (R:iD w0 ρ H w) (hv:Rl ρ v V) (hu:Rl ρ u U) (h:M_ tb T T' v u H=some (g,H')):Og P w0 ρ (Builtin.append_ #[T,T'] ty #[V,U]) w g H':=by
 unfold M_ at h;cases F:Nat.beq T T' with
 |false=>rw[F]at h;exact Zf hG R hv hu h
 |true=>
 rw[F]at h;have F:T=T':=zA7 F;subst F;rw[cond_true]at h;obtain⟨c,aq,h⟩:=aD.1 h;obtain⟨h0,h⟩:=lI.1 h;obtain⟨zc,hz,h⟩:=aD.1 h;obtain⟨ah,h⟩:=bY.1 h;obtain⟨p,hp,h⟩:=aD.1 h;obtain⟨q,hq,h⟩:=aD.1 h;obtain⟨⟨d,hd,I⟩,hE,ag⟩:=yJ hG aq;obtain⟨dz,af,_,hC⟩:=vZ (ρ:=ρ) hG hz;rw[ag]at af;cases af;have ah:zc.length=c.2.size:=zA7 ah;have au:c.2.zero.cells.size=c.2.size:=by have:=hC.r.len;simp at this;omega
 have h0:c.2.size≠0:=λe=>by rw[e]at h0;cases h0
 obtain⟨D,c1⟩:=EK R hv hp;obtain⟨o,L⟩:=EK R hu hq;have Q:=hd.und;rw[I]at Q;have G:=L.src (P:=P) (T:=T) Q;obtain⟨E,f,S,M,ak⟩:=c1.val;cases C:q.1 with
 |zero=>
  rw[C]at h;cases h;rw[C]at G;have ao:o=[]:=zAn (by have:=L.len;rw[C]at this;simpa using this);subst ao;refine⟨V,w,ρ,?_,fK.le_refl _,R,hv⟩
  have Y:=hd.run_und w;rw[I]at Y;have N:=G.len w;have ac:=G.cells;subst S;cases E with
  |none=>simp[Builtin.append_,Y,hE.run_size w,N,ac,M]
  |some A=>simp[Builtin.append_,Y,hE.run_size w,N,ac,M,storeCells]
 | succ m =>
  rw[C]at h;simp only[yM]at h;obtain⟨z,h⟩:=bY.1 h;rw[adH,Xt,jQ]at h;cases h;have z:(p.1+q.1)*(c.2.bytes+1)<16777216:=by rw[C];simpa [zAv]using z
  have ax:(p.1+q.1)*c.2.bytes+(p.1+q.1)<16777216:=by rw[Nat.mul_add,Nat.mul_one]at z;exact z
  have O:Nat.add p.1 (m+1)=p.1+q.1:=by rw[C];rfl
  have j:qJ ρ (p.2++q.2) (D++o):=c1.rel.append L.rel;have J:(p.2++q.2).length=(p.1+q.1)*c.2.size:=by
   rw[j.len,zA4,c1.len,L.len,<-zAy]
  have K:∀x∈D++o,one x=true:=λx hx=>by
   rcases zB0.1 hx with hx|hx
   ·exact c1.one x hx
   ·exact L.one x hx
  by_cases k:p.1+q.1<=f
  ·
   have ar:∃s,v.asS=some s:=by
    cases ai:v.isSnil with
    |true=>
     rw[yL ai]at hv;have:=hv.snil_inv;rw[S]at this;injection this with _ _ e3;omega
    |false=>
     unfold vH at hp;rw[ai]at hp;obtain⟨s,hs,_⟩:=aD.1 (show ob v.asS _=some p from hp);exact⟨s,hs⟩
   obtain⟨s,hs⟩:=ar;obtain⟨ap,cs,al,ay,az⟩:=SC hp hs;rw[DF hs]at hv;obtain⟨l,av,A,hl,ab,hc,ha⟩:=hv.sl_inv;rw[S]at ab;injection ab with e1 e2 e3;subst e1 e3;rcases ha with ha|⟨rfl,B⟩
   ·omega
   rw[ap]at B;have aa:=c1;rw[S]at aa;obtain⟨aw,T',hh,ad,X,R'⟩:=Vg R al hl aa L.rel L.len L.one k B;have hr:=L_ (P:=P) (ty:=ty) hd I hE hh G k ad;have ae:SG H v=H.del s.1:=by unfold SG;rw[hs]
   rw[ae,S];refine⟨_,_,_,hr,X,R',?_⟩
   rw[O];exact .sl (l:=⟨l.b,l.off+s.2.1,l.size,_,_⟩) (by show(if H.n=H.n then _ else _)=_;exact if_pos Z) k (.inr ⟨rfl,by show l.off+s.2.1+0+f*c.2.size<=l.size;omega⟩)
  ·
   have aj:iD w0 ρ (SG H v) w.drew:=by
    have:iD w0 ρ (SG H v) w:=by
     unfold SG;cases v.asS with
     |none=>exact R
     |some s=>exact R.del s.1
    exact this.ext' ((Below.refl _ _).drew)
   have hr:=QZ (P:=P) (ty:=ty) hd I hE (base:=E) (by rw[<-S];exact c1.old) G (by omega) (by omega) (by omega);have am:=grownCap_ge w (p.1+q.1) f c.1;have an:(D++o).length=(p.1+q.1)*c.2.size:=by rw[<-j.len];exact J
   obtain⟨aA,X,rfl,R'⟩:=aj.alloc' (cs:=p.2++q.2) (a:=(D++o).toArray++Builtin.zeroCells c.2.zero.cells (grownCap w (p.1+q.1) f c.1 - (p.1+q.1))) c.1 (by simp only[Array.size_append,List.size_toArray];omega) (λi x hx=>by
    obtain⟨y,hy,hr⟩:=j.get hx;exact⟨y,by rw[zBd (by simpa using bK hy)];simpa using hy,hr,K y (zA0 hy)⟩)
   rw[S];refine⟨_,_,_,hr,X,R',?_⟩
   rw[O];refine .sl (l:=⟨w.heap.size,0,((D++o).toArray++Builtin.zeroCells c.2.zero.cells (grownCap w (p.1+q.1) f c.1 - (p.1+q.1))).size,.cells ((D++o).toArray++Builtin.zeroCells c.2.zero.cells (grownCap w (p.1+q.1) f c.1 - (p.1+q.1))) c.1,.cells (p.2++q.2)⟩) (by simp[fK.upd]) am (.inr ⟨rfl,?_⟩);simp only[Array.size_append,List.size_toArray,size_zeroCells,au,an];have:grownCap w (p.1+q.1) f c.1*c.2.size=(p.1+q.1)*c.2.size+(grownCap w (p.1+q.1) f c.1 - (p.1+q.1))*c.2.size:=by
    rw[<-zAy];congr 1;omega
   omega
end
section
variable {P:Program} {tb:TB} {ρ:fK} {V U W X:V0} {v u t g:GV} {gs:BY} {w0:f_ gs} {w:World} {H H':GH}
theorem RA {T:TypeId} (R:iD w0 ρ H w) (h:IZ H=some (g,H')):Og P w0 ρ (Instr.makeMap T none) w g H':=by
 unfold IZ at h;rw[jQ]at h;cases h;have e:Nb w (w.alloc (.map #[] 0)):=(Below.refl _ _).alloc (zAe _) _;have b:=R.new (o:= .mp []) (l:=⟨w.heap.size,0,0,.map #[] 0,.mp []⟩) (R.ext.trans e) (λh k m d f=>by
  obtain⟨l,a,_,c⟩:=R.live h k d;rw[f]at a;cases a;exact⟨e.block _ c.lt,Nat.ne_of_lt c.lt⟩) (.inl R.ext.size) ⟨#[],0,heap_alloc_new w _,rfl,λi x j=>by simp at j⟩ (heap_alloc_new w _)
 refine⟨_,_,_,?_,b.1,b.2,.map (l:=⟨w.heap.size,0,0,.map #[] 0,.mp []⟩) (by simp[fK.upd])⟩
 simp[Instr.makeMap]
theorem Xw (s r:ByteArray):RP (mT (bV s),(bV s).length) (mT (bV r),(bV r).length)=(s.toList==r.toList):=by
 rw[Lib.toList_data,Lib.toList_data];unfold RP;by_cases b:(bV s).length=(bV r).length
 ·have d:Nat.beq (bV r).length (bV r).length=true:=by simp
  rw[b,d,cond_true];by_cases a:mT (bV s)=mT (bV r)
  ·have:=Io b a;unfold bV at this;rw[a,this];simp
  ·rw[oZ a];symm;rw[beq_eq_false_iff_ne];intro c;exact a (by unfold bV;rw[c])
 ·rw[oZ b,cond_false];symm;rw[beq_eq_false_iff_ne];intro c;exact b (by unfold bV;rw[c])
theorem Tn {t:Ty} {a b:GV} {A B:V0} {c:Bool} (d:LJ t a=true) (e:Rl ρ a A) (f:Rl ρ b B) (h:Un a b=some c):Instr.sameNow t.desc A B=some c:=by
 unfold Un at h;unfold LJ at d;cases i:a.asI with
 | some x =>
  rw[i]at h d;obtain⟨y,j,h⟩:=aD.1 (show ob b.asI _=some c from h);obtain⟨z,h⟩:=bY.1 h;cases h;rw[nI i]at e;rw[nI j]at f;rw[e.int_inv,f.int_inv];cases p:Zy t.desc with
  |none=>simp only[p]at d;cases d
  |some k=>
   rw[HX p];have:=Jn z;simp only[Instr.sameNow,this,if_true,Jm];congr 1
 |none=>
  rw[i]at h d;obtain⟨x,q,h⟩:=aD.1 (show ob a.asStr _=some c from h);obtain⟨y,j,h⟩:=aD.1 h;cases h;rw[q]at d;rw[qT q]at e;rw[qT j]at f;obtain⟨s,rfl,l,m⟩:=e.str_inv;obtain⟨r,rfl,n,o⟩:=f.str_inv;rw[Dd d];show some (s==r)=_;rw[beq_toListBytes,<-Xw];cases x;cases y;simp only at l m n o;rw[l,m,n,o]
theorem LR {t:Ty} {k:GV} {K:V0} (d:LJ t k=true) (c:Rl ρ k K):∀{a:List (GV×GV)} {en:List MapEntry} {r:Option GV} (i:Nat),en.length=a.length->(∀(i:Nat) e,a[i]? = some e->∃m,en[i]? = some m/\Rl ρ e.1 m.key/\Rl ρ e.2 m.val)->QD k a=some r->
  (r=none/\Instr.findNow t.desc K en i=some none)\/∃g j x,r=some g/\Rl ρ g x/\Instr.findNow t.desc K en i=some (some (j,x))
 | [],en,r,i,hl,_,h=>by
  cases h;have:en=[]:=zAn (by simpa using hl);subst this;exact .inl ⟨rfl,rfl⟩
 | e :: a, en, r, i, hl, hr, h => by
  obtain⟨b,q,h⟩:=aD.1 (show ob (Un k e.1) (λb=>bif b then some (some e.2)else QD k a)=some r from h);cases en with
  |nil=>simp at hl
  | cons m en =>
   obtain⟨y,f,o,p⟩:=hr 0 e Z;simp at f;subst f;have l:=Tn d c o q;cases b with
   |true=>
    cases h;exact .inr ⟨e.2,i,m.val,rfl,p,by simp[Instr.findNow,l]⟩
   |false=>
    have:=LR (r:=r) d c (i+1) (by simpa using hl) (λi n s=>by have:=hr (i+1) n (by simpa using s);simpa using this) (show QD k a=some r from h);simpa [Instr.findNow,l]using this
theorem Qz (a:gQ P tb) {T:TypeId} {t:Ty×Ty} (h:Yd tb T=some t):∃d k e,tS P T d/\d.desc = .map k e/\tS P k t.1/\tS P e t.2:=by
 obtain⟨d,j,h⟩:=aD.1 (show ob (tb T) _=some t from h);obtain⟨i,b,h⟩:=aD.1 h;obtain⟨l,c,h⟩:=aD.1 h;obtain⟨m,f,h⟩:=aD.1 h;cases h;exact⟨d,i.1,i.2,a.tab j,aec b,a.tab c,a.tab f⟩
theorem II {K:TypeId} {t:Ty} {b:Bool} (j:tS P K t) (c:LJ t u=true) (d:Rl ρ u U) (w:World):(Instr.checkKey b 10000 K U).run P w = .ok () w:=by
 have a:=j.run_und w;unfold LJ at c;have h:∀n:Nat,(Instr.checkKey b (n+1) K U).run P w = .ok () w:=λn=>by
  unfold Instr.checkKey;cases e:u.asI with
  |some x=>
   rw[e]at c;rw[nI e]at d;rw[d.int_inv];cases i:Zy t.desc with
   |none=>simp only[i]at c;cases c
   |some k=>rw[HX i]at a;simp[a]
  | none =>
   rw[e]at c;cases f:u.asStr with
   |none=>simp only[f]at c;cases c
   |some x=>
    simp only[f]at c;rw[qT f]at d;obtain⟨s,rfl,_,_⟩:=d.str_inv;rw[Dd c]at a;simp[a]
 exact h 9999
theorem iD.map (R:iD w0 ρ H w) {h:Nat} {c:List (GV×GV)} (e:H.get h=some (.mp c)) {l:Nh} (f:ρ h=some l):AI ρ w l (.mp c)/\w0.mine l.b:=by
 obtain⟨j,a,d,i⟩:=R.live h _ e;rw[f]at a;cases a;exact⟨i,d⟩
theorem Zk (S:gQ P tb) {T:TypeId} {B:Bool} (R:iD w0 ρ H w) (K:Rl ρ v V) (J:Rl ρ u U) (h:aco tb T B v u H=some g):∃x,Rl ρ g x/\(Instr.lookup T V U B).run P w = .ok x w:=by
 obtain⟨m,hm,h⟩:=aD.1 (show ob v.asM _=some g from h);obtain⟨o,I,h⟩:=aD.1 h;obtain⟨es,D,h⟩:=aD.1 h;obtain⟨t,ht,h⟩:=aD.1 h;obtain⟨G,h⟩:=bY.1 h;obtain⟨r,hr,h⟩:=aD.1 h;obtain⟨z,hz,h⟩:=aD.1 h;rw[asM_eq hm]at K;obtain⟨l,hl,rfl⟩:=K.map_inv;rw[GO.asM_eq D]at I;obtain⟨⟨A,M,Y,s,q⟩,_⟩:=R.map I hl;obtain⟨d,k,e,hd,C,F,E⟩:=Qz S ht;have c:=hd.run_und w;rw[C]at c;have n:=II (P:=P) (b:=A.isEmpty) F G J w;have f:(getObj l.b).run P w = .ok (.map A M) w:=by simp[getObj,Sem.run,Y]
 have a:=F.run_und w;have p:=LR G J (en:=A.toList) (r:=r) 0 (by simpa using s) (λi N he=>by
  obtain⟨m',O,Q⟩:=q i N he;exact⟨m',by rw[zAk];exact O,Q⟩) hr
 have y:=Tf (ρ:=ρ) hz;rcases p with⟨rfl,p⟩|⟨g',j,x,rfl,L,p⟩
 ·cases B with
  |false=>cases h;exact⟨_,y,by simp[Instr.lookup,c,f,n,Instr.findKey,a,p,E.run_zero w]⟩
  |true=>cases h;exact⟨.tuple #[t.2.zero,.bool false],KF (.cons y (.cons (.bool _) .nil)),by simp[Instr.lookup,c,f,n,Instr.findKey,a,p,E.run_zero w]⟩
 ·cases B with
  |false=>cases h;exact⟨x,L,by simp[Instr.lookup,c,f,n,Instr.findKey,a,p]⟩
  |true=>cases h;exact⟨.tuple #[x,.bool true],KF (.cons L (.cons (.bool _) .nil)),by simp[Instr.lookup,c,f,n,Instr.findKey,a,p]⟩
theorem VZ (hG:gQ P tb) {T:TypeId} (R:iD w0 ρ H w) (hv:Rl ρ v V) (N:Rl ρ u U) (hx:Rl ρ t X) (h:Zm tb T v u t H=some (g,H')):g = .un/\∃w' C,(Instr.mapUpdate T V U X).run P w = .ok () w'/\ρ.le C/\iD w0 C H' w':=by
 obtain⟨m,hm,h⟩:=aD.1 (show ob v.asM _=some (g,H')from h);obtain⟨o,M,h⟩:=aD.1 h;obtain⟨Q,L,h⟩:=aD.1 h;obtain⟨ty,ht,h⟩:=aD.1 h;obtain⟨hk,h⟩:=bY.1 h;obtain⟨r,hr,h⟩:=aD.1 h;rw[asM_eq hm]at hv;obtain⟨l,hl,rfl⟩:=hv.map_inv;rw[GO.asM_eq L]at M;obtain⟨⟨z,c,D,p,n⟩,a⟩:=R.map M hl;obtain⟨d,k,e,hd,K,S,hE⟩:=Qz hG ht;have q:=hd.run_und w;rw[K]at q;have J:=II (P:=P) (b:=false) S hk N w;have A:(getObj l.b).run P w = .ok (.map z c) w:=by simp[getObj,Sem.run,D]
 have s:=S.run_und w;have E:=LR hk N (en:=z.toList) (r:=r) 0 (by simpa using p) (λi F f=>by
  obtain⟨O,G,I⟩:=n i F f;exact⟨O,by rw[zAk];exact G,I⟩) hr
 rcases E with⟨rfl,E⟩|⟨g',j,x,rfl,aa,E⟩
 ·simp only[AW]at h;cases h;refine⟨rfl,{w with heap:=w.heap.setIfInBounds l.b (.map (z.push {key:=U,val:=X,born:=c}) (c+1))},_,?_,R.set (X:= .map (z.push {key:=U,val:=X,born:=c}) (c+1)) M hl ?_ ?_ ?_ ?_⟩
  ·simp[Instr.mapUpdate,q,A,J,Instr.findKey,s,E,setObj,Sem.run,D]
  ·exact⟨R.ext.os,R.ext.tape,R.ext.output,by simpa using R.ext.size,λi B Y=>by
    show(w.heap.setIfInBounds l.b _)[i]? = _;rw[zB6 (λe=>by subst e;rcases a with a|a;exact absurd a (by omega);exact Y a)];exact R.ext.block i B Y⟩
  ·intro i B;show(w.heap.setIfInBounds l.b _)[i]? = _;rw[zB6 (Ne.symm B)]
  ·have y:l.b<w.heap.size:=(zAj.1 D).1;refine⟨z.push {key:=U,val:=X,born:=c},c+1,by show(w.heap.setIfInBounds l.b _)[l.b]? = _;rw[zBa y],by simp[p],λi F f=> ?_⟩
   by_cases B:i<Q.length
   ·rw[zAc B]at f;obtain⟨O,G,I⟩:=n i F f;exact⟨O,by rw[Array.getElem?_push,if_neg (by omega)];exact G,I⟩
   ·rw[zAb (by omega)]at f;have:i=Q.length:=by
     have:=bK f;simp at this;omega
    subst this;simp at f;subst f;exact⟨⟨U,X,c⟩,by rw[Array.getElem?_push,if_pos (by omega)],N,hx⟩
  ·have y:l.b<w.heap.size:=(zAj.1 D).1;show(w.heap.setIfInBounds l.b _)[l.b]? = _;rw[zBa y]
 ·cases h
end
section
variable {P:Program} {tb:TB} {ρ:fK} {gs:BY} {w0:f_ gs} {w:World} {H H':GH} {n:Nat} {σ:GF} {a:Act} {R:Type}
def mU (P:Program) {gs:BY} (w0:f_ gs) (ρ:fK) (f:Nat) (vs:List V0) (w:World) (g:GV) (H':GH):Prop:=
 (∃v w' b,(callFunc f vs.toArray).run P w = .ok (.value v) w'/\ρ.le b/\iD w0 b H' w'/\Rl b g v)\/
 ((callFunc f vs.toArray).run P w = .ok (.enter f vs.toArray) w/\Calls P f vs.toArray w λe w'=>∃v b,e = .returned v/\ρ.le b/\iD w0 b H' w'/\Rl b g v)
def tT (P:Program) {gs:BY} (w0:f_ gs) (d:CH):Prop:=∀f b H g H',d f b H=some (g,H')->∀ρ w c,iD w0 ρ H w->qJ ρ b c->mU P w0 ρ f c w g H'
def Ec (P:Program) {gs:BY} (w0:f_ gs) (ρ:fK) (σ:GF) (a:Act) (w:World) (o:Oper) (g:GV) (H H':GH):Prop:=
 (fS o.op=false/\o_ o.op=false/\OP o.op=false/\H'=H/\∃v,Rl ρ g v/\∀w,(execOp a.eval o).run P w = .ok (.value v) w)\/
 (fS o.op=false/\o_ o.op=true/\H'=H/\∃v h l,ldH σ o.op=some h/\ρ h=some l/\(∃x,H.get h=some x)/\Rl ρ g v/\∀d,d.heap[l.b]? = w.heap[l.b]? -> (execOp a.eval o).run P d = .ok (.value v) d)\/
 (fS o.op=false/\OP o.op=true/\H'=H/\∃v,Rl ρ g v/\(execOp a.eval o).run P w = .ok (.value v) w)\/
 (fS o.op=true/\∀K:Act->World->Prop,(∀c d v,ρ.le c->iD w0 c H' d->Rl c g v->K (a.put o.dst v) d)->o.wp P a w K Sc)
theorem Ec.comp {o:Oper} {g:GV} {s:Sem V0} (e:fS o.op=false) (h:EE P ρ s g) (d:∀w v,s.run P w = .ok v w->(execOp a.eval o).run P w = .ok (.value v) w) (b:o_ o.op=false:=by rfl) (c:OP o.op=false:=by rfl):Ec P w0 ρ σ a w o g H H:=
 let ⟨v,hv,hr⟩:=h;.inl ⟨e,b,c,rfl,v,hv,λw=>d w v (hr w)⟩
theorem Ec.read {o:Oper} {g:GV} {s:Sem V0} (c:fS o.op=false) (d:OP o.op=true) (h:∃x,Rl ρ g x/\s.run P w = .ok x w) (b:∀v,s.run P w = .ok v w->(execOp a.eval o).run P w = .ok (.value v) w):Ec P w0 ρ σ a w o g H H:=
 let ⟨v,hv,hr'⟩:=h;.inr (.inr (.inl ⟨c,d,rfl,v,hv,b v hr'⟩))
theorem Ec.does {o:Oper} {g:GV} {s:Sem V0} (j:fS o.op=true) (h:Og P w0 ρ s w g H') (i:∀v b,s.run P w = .ok v b->(execOp a.eval o).run P w = .ok (.value v) b):Ec P w0 ρ σ a w o g H H':=by
 obtain⟨v,b,d,k,c,e,l⟩:=h;refine .inr (.inr (.inr ⟨j,λK f=> ?_⟩));simp only[Oper.wp,i v b k,Oper.upon];exact f d b v c e l
theorem Ec.act {o:Oper} {g:GV} {s:Sem Unit} (j:fS o.op=true) (h:g = .un/\∃c b,s.run P w = .ok () c/\ρ.le b/\iD w0 b H' c) (i:∀c,s.run P w = .ok () c->(execOp a.eval o).run P w = .ok .skip c):Ec P w0 ρ σ a w o g H H':=by
 obtain⟨rfl,c,b,k,d,e⟩:=h;refine .inr (.inr (.inr ⟨j,λK f=> ?_⟩));simp only[Oper.wp,i c k,Oper.upon];exact f b c undef d e .un
theorem KP (F:mE ρ n σ a) {o:Option Operand} {g:Option GV} (h:Jp σ o=some g):RlO ρ g (o.map a.eval):=by
 cases o with
 |none=>cases h;exact .inl ⟨rfl,rfl⟩
 |some x=>
  obtain⟨v,b,h⟩:=aD.1 (show ob (lK σ x) _=some g from h);cases h;exact .inr ⟨v,_,rfl,rfl,dH F b⟩
theorem GU {c:Type} {b:Array c} {x y:c} (h:b.toList=[x,y]):b = #[x,y]:=by
 cases b;simp at h;rw[h]
theorem KY {c:Type} {b:Array c} {x:c} (h:b.toList=[x]):b = #[x]:=by
 cases b;simp at h;rw[h]
theorem ER {f:Operand->KT R} {k:GV->GH->Option R} {r:R}:∀{b:List Operand},LG b f σ H k=some r->∃x,b=[x]/\f x σ H k=some r
 | [],h=>by cases h
 | [x],h=>⟨x,rfl,h⟩
 |_::_::_,h=>by cases h
theorem Bf {f:Operand->Operand->KT R} {k:GV->GH->Option R} {r:R}:∀{b:List Operand},FY b f σ H k=some r->∃x y,b=[x,y]/\f x y σ H k=some r
 | [],h=>by cases h
 | [_],h=>by cases h
 | [x,y],h=>⟨x,y,rfl,h⟩
 |_::_::_::_,h=>by cases h
theorem nE {o:OR} {k:GV->GH->Option R} {r:R} (h:eH o k=some r):∃g H',o=some (g,H')/\k g H'=some r:=by
 obtain⟨⟨g,H'⟩,b,c⟩:=aD.1 (show ob o _=some r from h);exact⟨g,H',b,c⟩
theorem abd (I:gQ P tb) (F:mE ρ n σ a) (L:iD w0 ρ H w) {b:Builtin} {C:Array Operand} {c:Array TypeId} {k:GV->GH->Option R} {r:R} {d:Option Tmp} {i:TypeId} {K:String} {J:Array Edge} {M:Option (Nat×Bool)} (e:c.size=C.size)
  (h:SX tb C c b σ H k=some r):∃g H',k g H'=some r/\Ec P w0 ρ σ a w ⟨d,.call ⟨.builtin b,C,c⟩,i,K,J,M⟩ g H H':=by
 cases b with
 | len =>
  obtain⟨x,z,h⟩:=ER (show LG C.toList (VE tb c.toList) σ H k=some r from h);obtain⟨T,f,h⟩:=aD.1 (show ob (Jb c.toList 0) _=some r from h);obtain⟨v,s,h⟩:=aD.1 h;obtain⟨g,o,p⟩:=aD.1 h;have m:=KY z;subst m;have j:c = #[T]:=by
   rw[wH]at f;obtain⟨l⟩:=c
   match l,e with
   | [t],_=>simp at f;subst f;rfl
  subst j;exact⟨g,H,p,.comp Z (UN I (ty:=i) (dH F s) o) (λw v q=>by simp[execOp,resolve,invoke,builtin,q])⟩
 | max =>
  obtain⟨x,y,z,h⟩:=Bf (show FY C.toList (λx y=>k2 x y PM) σ H k=some r from h);obtain⟨v,s,h⟩:=aD.1 (show ob (lK σ x) _=some r from h);obtain⟨u,E,h⟩:=aD.1 h;obtain⟨g,o,p⟩:=aD.1 h;have m:=GU z;subst m;obtain⟨A,B,j⟩:∃A B,c = #[A,B]:=by
   obtain⟨l⟩:=c
   match l,e with
   | [t,t'],_=>exact⟨t,t',rfl⟩
  subst j;exact⟨g,H,p,.comp Z (UO (t1:=A) (t2:=B) (ty:=i) (dH F s) (dH F E) o) (λw v q=>by simp[execOp,resolve,invoke,builtin,q])⟩
 | min =>
  obtain⟨x,y,z,h⟩:=Bf (show FY C.toList (λx y=>k2 x y Zn) σ H k=some r from h);obtain⟨v,s,h⟩:=aD.1 (show ob (lK σ x) _=some r from h);obtain⟨u,E,h⟩:=aD.1 h;obtain⟨g,o,p⟩:=aD.1 h;have m:=GU z;subst m;obtain⟨A,B,j⟩:∃A B,c = #[A,B]:=by
   obtain⟨l⟩:=c
   match l,e with
   | [t,t'],_=>exact⟨t,t',rfl⟩
  subst j;exact⟨g,H,p,.comp Z (UP (t1:=A) (t2:=B) (ty:=i) (dH F s) (dH F E) o) (λw v q=>by simp[execOp,resolve,invoke,builtin,q])⟩
 | append =>
  obtain⟨x,y,z,h⟩:=Bf (show FY C.toList (XV tb c.toList) σ H k=some r from h);obtain⟨T,f,h⟩:=aD.1 (show ob (Jb c.toList 0) _=some r from h);obtain⟨G,D,h⟩:=aD.1 h;obtain⟨v,s,h⟩:=aD.1 h;obtain⟨u,E,h⟩:=aD.1 h;obtain⟨g,H',o,p⟩:=nE h;have m:=GU z;subst m;have j:c = #[T,G]:=by
   rw[wH]at f D;obtain⟨l⟩:=c
   match l,e with
   | [t,t'],_=>simp at f D;subst f D;rfl
  subst j;exact⟨g,H',p,.does Z (abI I (ty:=i) L (dH F s) (dH F E) o) (λv N q=>by simp[execOp,resolve,invoke,builtin,q])⟩
 | copy =>
  obtain⟨x,y,z,h⟩:=Bf (show FY C.toList (Qy tb c.toList) σ H k=some r from h);obtain⟨T,f,h⟩:=aD.1 (show ob (Jb c.toList 0) _=some r from h);obtain⟨v,s,h⟩:=aD.1 h;obtain⟨u,E,h⟩:=aD.1 h;obtain⟨g,H',o,p⟩:=nE h;have m:=GU z;subst m;obtain⟨G,j⟩:∃G,c = #[T,G]:=by
   rw[wH]at f;obtain⟨l⟩:=c
   match l,e with
   | [t,t'],_=>simp at f;subst f;exact⟨t',rfl⟩
  subst j;exact⟨g,H',p,.does Z (Zj I (T':=G) (ty:=i) L (dH F s) (dH F E) o) (λv N q=>by simp[execOp,resolve,invoke,builtin,q])⟩
 | cap =>
  obtain⟨x,z,h⟩:=ER (show LG C.toList (VD tb c.toList) σ H k=some r from h);obtain⟨T,f,h⟩:=aD.1 (show ob (Jb c.toList 0) _=some r from h);obtain⟨v,s,h⟩:=aD.1 h;obtain⟨g,o,p⟩:=aD.1 h;have m:=KY z;subst m;have j:c = #[T]:=by
   rw[wH]at f;obtain⟨l⟩:=c
   match l,e with
   | [t],_=>simp at f;subst f;rfl
  subst j;exact⟨g,H,p,.comp Z (UL I (ty:=i) (dH F s) o) (λw v q=>by simp[execOp,resolve,invoke,builtin,q])⟩
 |_=>cases h
theorem VC {N:CH} (D:tT P w0 N) (F:mE ρ n σ a) (S:iD w0 ρ H w) {f:Operand} {q:Array Operand} {O:Array TypeId} {k:GV->GH->Option R} {r:R} {d:Option Tmp} {Q:TypeId} {x:String} {s:Array Edge} {J:Option (Nat×Bool)}
  (h:XW N q f σ H k=some r):∃g H',k g H'=some r/\Ec P w0 ρ σ a w ⟨d,.call ⟨.value f,q,O⟩,Q,x,s,J⟩ g H H':=by
 obtain⟨v,X,h⟩:=aD.1 (show ob (lK σ f) _=some r from h);obtain⟨p,W,h⟩:=aD.1 h;obtain⟨Y,E,h⟩:=aD.1 h;obtain⟨g,H',V,h⟩:=nE h;refine⟨g,H',h,.inr (.inr (.inr ⟨rfl,λK L=> ?_⟩))⟩
 have M:=dH F X;rw[WO W]at M;obtain⟨A,z,U,C,B⟩:=M.fn_inv;have u:=GG F E;have t:=(C.append u).append B;have c:∀G l,(callFunc p.1 (A++q.toList.map a.eval++z).toArray).run P w = .ok G l->(execOp a.eval ⟨d,.call ⟨.value f,q,O⟩,Q,x,s,J⟩).run P w = .ok G l:=λG l o=>by
  have T:(A++q.toList.map a.eval++z).toArray=A.toArray++(q.map a.eval++z.toArray):=by
   apply Array.toList_inj.1;simp
  rw[T]at o;simp[execOp,resolve,U,Deferred.ofValue,invoke,o]
 rcases D _ _ _ _ _ V ρ w _ S t with⟨I,l,m,o,i,y,j⟩|⟨o,b⟩
 ·simp only[Oper.wp,c _ _ o,Oper.upon];exact L m l I i y j
 ·simp only[Oper.wp,c _ _ o,Oper.upon];refine b.mono ?_;rintro e l ⟨I,m,rfl,i,y,j⟩;exact L m l I i y j
def LW:Op->Bool
 | .call c=>Nat.beq c.argTypes.size c.args.size
 |_=>true
theorem SN (B:gQ P tb) {ih:CH} (V:tT P w0 ih) (F:mE ρ n σ a) (E:iD w0 ρ H w) {o:Oper} {k:GV->GH->Option R} {r:R} (J:LW o.op=true\/∃c f,o.op = .call c/\c.callee = .value f) (h:PO tb ih o.op σ H k=some r):
  ∃g H',k g H'=some r/\Ec P w0 ρ σ a w o g H H':=by
 obtain⟨d,K,ty,ad,ac,gd⟩:=o;cases K with
 |move x=>
  obtain⟨v,A,h⟩:=aD.1 (show ob (lK σ x) _=some r from h);exact⟨v,H,h,.inl ⟨rfl,rfl,rfl,rfl,_,dH F A,λw=>by simp[execOp]⟩⟩
 |assign x=>
  obtain⟨v,A,h⟩:=aD.1 (show ob (lK σ x) _=some r from h);exact⟨v,H,h,.inl ⟨rfl,rfl,rfl,rfl,_,dH F A,λw=>by simp[execOp]⟩⟩
 |pick c x y=>
  obtain⟨v,A,h⟩:=aD.1 (show ob (lK σ c) _=some r from h);obtain⟨u,C,h⟩:=aD.1 h;obtain⟨t,X,h⟩:=aD.1 h;obtain⟨g,s,h⟩:=aD.1 h;obtain⟨b,hb,s⟩:=aD.1 (show ob v.asB _=some g from s);have O:=dH F A;rw[DD hb]at O;cases b with
  |true=>cases s;exact⟨_,H,h,.inl ⟨rfl,rfl,rfl,rfl,_,dH F C,λw=>by simp[execOp,O.bool_inv,asBool]⟩⟩
  |false=>cases s;exact⟨_,H,h,.inl ⟨rfl,rfl,rfl,rfl,_,dH F X,λw=>by simp[execOp,O.bool_inv,asBool]⟩⟩
 |alloc T=>
  obtain⟨g,H',s,h⟩:=nE (show eH (rH tb T H) k=some r from h);exact⟨g,H',h,.does Z (JJ B E s) (λv I j=>by simp[execOp,j])⟩
 |box T x=>
  obtain⟨v,A,h⟩:=aD.1 (show ob (lK σ x) _=some r from h);obtain⟨g,H',s,h⟩:=nE h;exact⟨g,H',h,.does Z (abK (T:=T) E (dH F A) s) (λv I j=>by simp[execOp,j])⟩
 | build T ps =>
  obtain⟨vs,G,h⟩:=aD.1 (show ob (wG σ ps.toList) _=some r from h);obtain⟨g,s,h⟩:=aD.1 h;exact⟨g,H,h,.comp Z (NY B (Eh F G) s) (λw v j=>by
   have e:(ps.toList.map λp=>(p.1,a.eval p.2)).toArray=ps.map λp=>(p.1,a.eval p.2):=by apply Array.toList_inj.1;simp
   rw[e]at j;simp[execOp,j])⟩
 | buildSlice T m ps =>
  obtain⟨vs,G,h⟩:=aD.1 (show ob (wG σ ps.toList) _=some r from h);obtain⟨g,H',s,h⟩:=nE h;exact⟨g,H',h,.does Z (Tw B E (Eh F G) s) (λv I j=>by
   have e:(ps.toList.map λp=>(p.1,a.eval p.2)).toArray=ps.map λp=>(p.1,a.eval p.2):=by apply Array.toList_inj.1;simp
   rw[e]at j;simp[execOp,j])⟩
 |load T x=>
  obtain⟨v,A,h⟩:=aD.1 (show ob (lK σ x) _=some r from h);obtain⟨g,s,h⟩:=aD.1 h;obtain⟨x',p,l,Q,W,U,ab,j⟩:=Mt (P:=P) B E (dH F A) s;exact⟨g,H,h,.inr (.inl ⟨rfl,rfl,rfl,x',p.1,l,by show ob (lK σ x) _=_;rw[A,Q];rfl,W,U,ab,λI aa=>by have:=j I aa;simp[execOp,this]⟩)⟩
 |store T x y=>
  obtain⟨v,A,h⟩:=aD.1 (show ob (lK σ x) _=some r from h);obtain⟨u,C,h⟩:=aD.1 h;obtain⟨g,H',s,h⟩:=nE h;exact⟨g,H',h,.act Z (JK B E (dH F A) (dH F C) s) (λI j=>by simp[execOp,j])⟩
 |nilCheck x=>
  obtain⟨v,A,h⟩:=aD.1 (show ob (lK σ x) _=some r from h);obtain⟨g,s,hk⟩:=aD.1 h;obtain⟨rfl,j⟩:=QG (P:=P) (dH F A) s;exact⟨_,H,hk,.inl ⟨rfl,rfl,rfl,rfl,_,dH F A,λw=>j _ x a.eval Z Z w⟩⟩
 | binOp K T x y T' =>
  obtain⟨v,A,h⟩:=aD.1 (show ob (lK σ x) _=some r from h);obtain⟨u,C,h⟩:=aD.1 h;obtain⟨g,s,h⟩:=aD.1 h;exact⟨g,H,h,.comp Z (UK B x y (dH F A) (dH F C) s) (λw v j=>by
   simp only[execOp];simp at j ⊢;cases hq:Sem.run P (eqGuard K T x y (a.eval x) (a.eval y)) w with
   |ok u w1=>rw[hq]at j;simp at j;simp[j]
   |halt h1 w1=>rw[hq]at j;cases j)⟩
 |unOp K T x=>
  obtain⟨v,A,h⟩:=aD.1 (show ob (lK σ x) _=some r from h);obtain⟨g,s,h⟩:=aD.1 h;exact⟨g,H,h,.comp Z (Zp (dH F A) s) (λw v j=>by simp[execOp,j])⟩
 |convert S D x=>
  obtain⟨v,A,h⟩:=aD.1 (show ob (lK σ x) _=some r from h);obtain⟨g,s,h⟩:=aD.1 h;exact⟨g,H,h,.comp Z (Ry B (dH F A) s) (λw v j=>by simp[execOp,j])⟩
 | makeFunc fn first caps =>
  cases fn with
  |func f=>
   obtain⟨us,Y,h⟩:=aD.1 (show ob (HN σ first.toList) _=some r from h);obtain⟨vs,G,h⟩:=aD.1 h;refine⟨_,H,h,.inl ⟨rfl,rfl,rfl,rfl,_,Sg (GG F Y) (GG F G),λw=> ?_⟩⟩
   have M:(first.toList.map a.eval).toArray=first.map a.eval:=by apply Array.toList_inj.1;simp
   have N:(caps.toList.map a.eval).toArray=caps.map a.eval:=by apply Array.toList_inj.1;simp
   rw[M,N];simp[execOp,Instr.makeFunc]
  |_=>cases h
 | makeMap T q =>
  cases q with
  |none=>
   obtain⟨g,H',s,h⟩:=nE (show eH (IZ H) k=some r from h);exact⟨g,H',h,.does Z (RA (T:=T) E s) (λv I j=>by simp[execOp,j])⟩
  |some x=>cases h
 |makeSlice T x y=>
  obtain⟨v,A,h⟩:=aD.1 (show ob (lK σ x) _=some r from h);obtain⟨u,C,h⟩:=aD.1 h;obtain⟨g,H',s,h⟩:=nE h;exact⟨g,H',h,.does Z (Zl B E (dH F A) (dH F C) s) (λv I j=>by simp[execOp,j])⟩
 | slice T x lo hi mx =>
  cases mx with
  |none=>
   obtain⟨v,A,h⟩:=aD.1 (show ob (lK σ x) _=some r from h);obtain⟨l,W,h⟩:=aD.1 h;obtain⟨e,Q,h⟩:=aD.1 h;obtain⟨g,s,h⟩:=aD.1 h;exact⟨g,H,h,.comp Z (Oa B (.inl ⟨_,_,E⟩) (dH F A) (KP F W) (KP F Q) s) (λw v j=>by simp[execOp,j])⟩
  |some y=>cases h
 |fieldAddr T x f=>
  obtain⟨v,A,h⟩:=aD.1 (show ob (lK σ x) _=some r from h);obtain⟨g,s,h⟩:=aD.1 h;exact⟨g,H,h,.comp Z (NZ B (dH F A) s) (λw v j=>by simp[execOp,j])⟩
 |field T x f=>
  obtain⟨v,A,h⟩:=aD.1 (show ob (lK σ x) _=some r from h);obtain⟨g,s,h⟩:=aD.1 h;exact⟨g,H,h,.comp Z (RB B (dH F A) s) (λw v j=>by simp[execOp,j])⟩
 |indexAddr T x y=>
  obtain⟨v,A,h⟩:=aD.1 (show ob (lK σ x) _=some r from h);obtain⟨u,C,h⟩:=aD.1 h;obtain⟨g,s,h⟩:=aD.1 h;exact⟨g,H,h,.comp Z (N_ B (dH F A) (dH F C) s) (λw v j=>by simp[execOp,j])⟩
 |index T x y=>
  obtain⟨v,A,h⟩:=aD.1 (show ob (lK σ x) _=some r from h);obtain⟨u,C,h⟩:=aD.1 h;obtain⟨g,s,h⟩:=aD.1 h;exact⟨g,H,h,.comp Z (Zg B (dH F A) (dH F C) s) (λw v j=>by simp[execOp,j])⟩
 |lookup T x y ok=>
  obtain⟨v,A,h⟩:=aD.1 (show ob (lK σ x) _=some r from h);obtain⟨u,C,h⟩:=aD.1 h;obtain⟨g,s,h⟩:=aD.1 h;exact⟨g,H,h,.read Z Z (Zk B E (dH F A) (dH F C) s) (λv j=>by simp[execOp,j])⟩
 |mapUpdate T x y z=>
  obtain⟨v,A,h⟩:=aD.1 (show ob (lK σ x) _=some r from h);obtain⟨u,C,h⟩:=aD.1 h;obtain⟨t,X,h⟩:=aD.1 h;obtain⟨g,H',s,h⟩:=nE h;exact⟨g,H',h,.act Z (VZ B E (dH F A) (dH F C) (dH F X) s) (λI j=>by simp[execOp,j])⟩
 |extract x i=>
  obtain⟨v,A,h⟩:=aD.1 (show ob (lK σ x) _=some r from h);obtain⟨g,s,h⟩:=aD.1 h;exact⟨g,H,h,.comp Z (UM (dH F A) s) (λw v j=>by simp[execOp,j])⟩
 | call c =>
  obtain⟨L,xs,ts⟩:=c;cases L with
  |value f=>exact VC V F E h
  |invoke x m=>cases h
  |builtin b=>
   refine abd B F E ?_ h;rcases J with J|⟨c,f,M,N⟩
   ·exact zA7 J
   ·cases M;cases N
 |_=>cases h
end
theorem Fl {R:Type}:∀(a:List Nat) (b:List GV) (f:GF->Option R),lF a b f=ob (lF a b some) f
 | [],[],f=>rfl
 | [],_::_,f=>rfl
 |key::a,[],f=>rfl
 |key::a,v::b,f=>by
  show lF a b (λc=>f ((key,v)::c))=ob (lF a b λc=>some ((key,v)::c)) f;rw[Fl a b (λc=>f ((key,v)::c)),Fl a b (λc=>some ((key,v)::c))];cases lF a b some<;>rfl
theorem sF {R:Type} {a:List Nat} {b:List GV} {f:GF->Option R} {r:R} (h:lF a b f=some r):∃c,lF a b some=some c/\f c=some r:=by
 rw[Fl]at h;exact aD.1 h
theorem KS {j:fK} {n:Nat} {f:GF} {a:Act} (F:mE j n f a):∀{d:List Nat} {b:GF},lF d (Ep f d) some=some b->mE j n b a
 | [],b,h=>by cases h;exact⟨F.defers,F.size,λt g c=>by cases c⟩
 | key :: d, b, h => by
  have k:lF d (Ep f d) (λb=>some ((key,Option.casesOn (motive:=λ_=>GV) (GY f key) .bad (λv=>v))::b))=some b:=h;obtain⟨s,l,m⟩:=sF k;cases m;have o:=KS F l;refine⟨F.defers,F.size,λt g c=> ?_⟩
  rw[CQ]at c;by_cases e:t=key
  ·subst e;rw[if_pos Z]at c;cases i:GY f t with
   |none=>rw[i]at c;cases c;exact .bad _
   |some v=>rw[i]at c;cases c;exact F.slot t v i
  ·rw[if_neg e]at c;exact o.slot t g c
theorem Pd (c:GF):∀b:List Nat,∃a,lF b (Ep c b) some=some a
 | []=>⟨[],rfl⟩
 |key::b=>by
  obtain⟨a,h⟩:=Pd c b;refine⟨(key,Option.casesOn (motive:=λ_=>GV) (GY c key) .bad (λv=>v))::a,?_⟩
  show lF b (Ep c b) (λa=>some ((key,Option.casesOn (motive:=λ_=>GV) (GY c key) .bad (λv=>v))::a))=_;rw[Fl,h];rfl
theorem Ln:∀{m i:Nat} {b:List GV} {a:GF},lF (List.range' i m) b some=some a->b.length=m
 |0,i,[],a,h=>rfl
 |0,i,_::_,a,h=>by cases h
 |m+1,i,[],a,h=>by cases h
 |m+1,i,u::b,a,h=>by
  obtain⟨s,c,_⟩:=sF (show lF (List.range' (i+1) m) b (λa=>some ((i,u)::a))=some a from h);simp[Ln c]
theorem Oy {o:fK} {n:Nat} {a:Act} (k:a.defers=[]) (l:a.tmps.size=n):∀{m i:Nat} {f:List GV} {d:fY} {b:GF},qJ o f d->(∀j v,d[j]? = some v->a.tmps[i+j]? = some v)->lF (List.range' i m) f some=some b->mE o n b a
 |0,i,[],d,b,_,_,h=>by cases h;exact⟨k,l,λt g c=>by cases c⟩
 |0,i,_::_,d,b,_,_,h=>by cases h
 |m+1,i,[],d,b,_,_,h=>by cases h
 | m + 1, i, u :: f, d, b, hr, ha, h => by
  obtain⟨v,d,rfl,q,r⟩:=hr.of_cons;have p:lF (List.range' (i+1) m) f (λb=>some ((i,u)::b))=some b:=h;obtain⟨s,w,x⟩:=sF p;cases x;have z:=Oy k l r (λj v y=>by have:=ha (j+1) v (by simpa using y);rwa[show i+(j+1)=i+1+j by omega]at this) w;refine⟨k,l,λt g c=> ?_⟩
  rw[CQ]at c;by_cases e:t=i
  ·subst e;rw[if_pos Z]at c;cases c;have:=ha 0 v Z;simp[Act.eval,show a.tmps[t]? = some v by simpa using this,q]
  ·rw[if_neg e]at c;exact z.slot t g c
def Jx (n:Nat) (o:Oper):Bool:=kB o&&(match o.dst with|none=>true|some d=>Nat.blt d n)&&(LW o.op||(match o.op with|.call c=>(match c.callee with|.value _=>true|_=>false)|_=>false))
section
variable {P:Program} {tb:TB} {gs:BY} {w0:f_ gs}
theorem vT {n:Nat} {o:Oper} (h:Jx n o=true):kB o=true/\(∀d,o.dst=some d->d<n)/\(LW o.op=true\/∃c f,o.op = .call c/\c.callee = .value f):=by
 unfold Jx at h;simp only[zA6,zB5]at h;obtain⟨⟨j,g⟩,a⟩:=h;refine⟨j,λd k=> ?_,?_⟩
 ·rw[k]at g;simpa [zAv]using g
 ·rcases a with a|a
  ·exact .inl a
  ·right;cases i:o.op with
   |call c=>
    rw[i]at a;cases e:c.callee with
    |value f=>exact⟨c,f,rfl,e⟩
    |invoke x m=>simp only[e]at a;cases a
    |builtin b=>simp only[e]at a;cases a
   |_=>rw[i]at a;cases a
theorem mE.putD {b:fK} {n:Nat} {c:GF} {a:Act} (F:mE b n c a) {d:Option Nat} (e:∀x,d=some x->x<n) {g:GV} {v:V0} (f:Rl b g v):mE b n (putD d g c) (a.put d v):=by
 cases d with
 |none=>exact⟨F.defers,F.size,F.slot⟩
 |some d=>exact F.put (e d Z) f
theorem aaS {x:CH} (I:gQ P tb) (t:tT P w0 x) {all:List Oper} {n:Nat} {o:Oper} {k:GS->RS} {s:GS} {f:P_} {E:fK} {a:Act} {w:World} (L:Jx n o=true) (F:mE E n s.σ a) (R:iD w0 E s.H w) (h:Lw tb x all o k s=some f):
  (Region.wanted o (yielded all.toArray a.tmps)=true/\∃g j,k ⟨putD o.dst g s.σ,j⟩=some f/\Ec P w0 E s.σ a w o g s.H j)\/
  (Region.wanted o (yielded all.toArray a.tmps)=false/\k ⟨putD o.dst .un s.σ,s.H⟩=some f):=by
 obtain⟨Q,S,G⟩:=vT L;unfold Lw at h;cases r:o.guard with
 |none=>
  rw[r]at h;obtain⟨g,j,B,C⟩:=SN I t F R G (show PO tb x o.op s.σ s.H (opK o.dst s k)=some f from h);exact .inl ⟨by simp[Region.wanted,r],g,j,B,C⟩
 | some gd =>
  rw[r]at h;obtain⟨T,u,h⟩:=aD.1 (show ob (Jb all gd.1) _=some f from h);obtain⟨l,A,h⟩:=aD.1 h;obtain⟨v,N,h⟩:=aD.1 h;obtain⟨g,j,m,p⟩:=nE h;have e:=F.slot l v N;rw[wH]at u;have D:yielded all.toArray a.tmps gd.1=(match a.tmps[l]? with|some (.bool b)=>some b|_=>none):=by
   unfold yielded;have:(all.toArray[gd.1]?).bind (·.dst)=some l:=by simp[u,A]
   rw[this];rfl
  cases v with
  | bool q =>
   have d:=e.bool_inv;have M:a.tmps[l]? = some (.bool q):=by
    simp only[Act.eval,Array.getD_eq_getD_getElem?]at d;cases y:a.tmps[l]? with
    |none=>rw[y]at d;cases d
    |some z=>rw[y]at d;simp at d;rw[d]
   rw[M]at D;have c:Bool.casesOn (motive:=λ_=>OR) (Ue q gd.2) (some (.un,s.H)) (PO tb x o.op s.σ s.H FD)=some (g,j):=m;rw[HK]at c;have J:Region.wanted o (yielded all.toArray a.tmps)=(q==gd.2):=by
    simp only[Region.wanted,r];rw[D];cases q<;>cases gd.2<;>rfl
   cases i:(q==gd.2)with
   |true=>
    rw[i]at c;obtain⟨O,K,B,C⟩:=SN I t F R G (show PO tb x o.op s.σ s.H FD=some (g,j)from c);cases B;exact .inl ⟨by rw[J,i],g,j,p,C⟩
   |false=>
    rw[i]at c;cases c;exact .inr ⟨by rw[J,i],p⟩
  | un =>
   have d:=e.un_inv;cases m;refine .inr ⟨?_,p⟩;simp only[Region.wanted,r];rw[D];have:(match a.tmps[l]? with|some (.bool b)=>some b|_=>none)=(none:Option Bool):=by
    simp only[Act.eval,Array.getD_eq_getD_getElem?]at d;cases y:a.tmps[l]? with
    |none=>rfl
    |some z=>rw[y]at d;simp at d;rw[d];rfl
   rw[this];rfl
  |_=>cases m
theorem Ip {y:CH} (z:gQ P tb) (f:tT P w0 y) {all:List Oper} {n:Nat} {k:GS->RS} {p:P_} {Q:Exit->Act->World->Prop}:∀(l:List Oper) (s:GS) (c:fK) (a:Act) (w:World),l.all (Jx n)=true->mE c n s.σ a->iD w0 c s.H w->Hk tb y all k l s=some p->
  (∀t b x q,k t=some p->c.le b->mE b n t.σ x->iD w0 b t.H q->Q .normal x q)->Sx.wpList P all.toArray Q l a w
 | [],s,c,a,w,_,F,R,h,hk=>hk s c a w h (fK.le_refl _) F R
 | o :: l, s, c, a, w, hl, F, R, h, hk => by
  simp only[List.all_cons,zA6]at hl;obtain⟨_,e,_⟩:=vT hl.1;rcases aaS z f hl.1 F R (show Lw tb y all o (Hk tb y all k l) s=some p from h)with⟨A,g,C,i,K⟩|⟨A,i⟩
  ·refine mS A ?_;have d:∀b q v,c.le b->iD w0 b C q->Rl b g v->Sx.wpList P all.toArray Q l (a.put o.dst v) q:=λb q v r D m=>
    Ip z f l ⟨putD o.dst g s.σ,C⟩ b _ q hl.2 ((F.le r).putD e m) D i (λt u x B E G I J=>hk t u x B E (fK.le_trans r G) I J)
   rcases K with⟨_,_,_,rfl,v,m,j⟩|⟨_,_,rfl,v,_,_,_,_,_,m,j⟩|⟨_,_,rfl,v,m,j⟩|⟨_,j⟩
   ·simp only[Oper.wp,j w,Oper.upon];exact d c w v (fK.le_refl _) R m
   ·simp only[Oper.wp,j w Z,Oper.upon];exact d c w v (fK.le_refl _) R m
   ·simp only[Oper.wp,j,Oper.upon];exact d c w v (fK.le_refl _) R m
   ·exact LV (j _ d)
  ·unfold Sx.wpList;rw[if_neg (by rw[A];simp)];exact Ip z f l ⟨putD o.dst .un s.σ,s.H⟩ c _ w hl.2 (F.putD e .un) R i hk
theorem IB {l:List Oper} {p:Op->Bool} (h:GJ l p=true) {i j:Nat} {e f:Oper} (c:l[i]? = some e) (d:l[j]? = some f) (k:p e.op=true) (g:fS f.op=true):before (qG l) i j=true\/before (qG l) j i=true:=by
 unfold GJ at h;have a:=zA8.1 h i (zAp.2 (bK c));simp only[c,k,Bool.not_true,Bool.false_or]at a;have b:=zA8.1 a j (zAp.2 (bK d));simp only[d,g,Bool.not_true,Bool.false_or,zB5]at b;exact b
theorem RF {c:Type} {H:GH} {h v:Nat} {k:Option c} {a:c} (x:vck H h v k=some a):H.ver h=some v/\k=some a:=by
 obtain⟨u,d,x⟩:=aD.1 (show ob (H.ver h) _=some a from x);cases b:Nat.beq u v with
 |false=>rw[b]at x;cases x
 |true=>rw[b]at x;rw[d,zA7 b];exact⟨rfl,x⟩
theorem FN {m:List Nat} {i:Nat} {H:GH} {u:Unit}:∀{e:List (Nat×Option (Nat×Nat))},Ls m i H e=some u->∀p∈e,before m i p.1=false->∀a,p.2=some a->H.ver a.1=some a.2
 | [],h=>λp o=>by simp at o
 | p :: e, h => by
  have c:Bool.casesOn (motive:=λ_=>Option Unit) (before m i p.1) (pck H p.2 (Ls m i H e)) (Ls m i H e)=some u:=h;intro q d b a j;cases g:before m i p.1 with
  | false =>
   rw[g]at c;have k:(∀a,p.2=some a->H.ver a.1=some a.2)/\Ls m i H e=some u:=by
    cases f:p.2 with
    |none=>rw[f]at c;exact⟨λ_ h=>(by cases h),c⟩
    |some x=>rw[f]at c;obtain⟨l,n⟩:=RF (show vck H x.1 x.2 _=some u from c);exact⟨λy r=>by cases r;exact l,n⟩
   rcases zAm.1 d with rfl|d
   ·exact k.1 a j
   ·exact FN k.2 q d b a j
  |true=>
   rw[g]at c;rcases zAm.1 d with rfl|d
   ·rw[g]at b;cases b
   ·exact FN c q d b a j
theorem FP {m:List Nat} {i h v:Nat} {e:Option (Nat×Nat)}:∀{c:List (Nat×GH)},Lt m i h v c=some e->e=some (h,v)/\∀q∈c,before m i q.1=false->q.2.ver h=some v
 | [],x=>by cases x;exact⟨rfl,λp b=>by simp at b⟩
 | q :: c, x => by
  have d:Bool.casesOn (motive:=λ_=>Option (Option (Nat×Nat))) (before m i q.1) (vck q.2 h v (Lt m i h v c)) (Lt m i h v c)=some e:=x;cases j:before m i q.1 with
  |false=>
   rw[j]at d;obtain⟨k,l⟩:=RF d;obtain⟨f,g⟩:=FP l;refine⟨f,λp b a=> ?_⟩
   rcases zAm.1 b with rfl|b
   ·exact k
   ·exact g p b a
  |true=>
   rw[j]at d;obtain⟨f,g⟩:=FP d;refine⟨f,λp b a=> ?_⟩
   rcases zAm.1 b with rfl|b
   ·rw[j]at a;cases a
   ·exact g p b a
end
end Go.Gx