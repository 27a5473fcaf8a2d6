/- Models and proofs. Conditions: none. -/
import Derived.Test.YtflciafboapaaaaGreatZRAr9
import Derived.KernelRfl
set_option linter.unusedVariables false
set_option linter.unusedSimpArgs false
set_option maxHeartbeats 4000000
set_option maxRecDepth 20000
open Go.Proofs.Tryz
variable (U:Nat)
namespace Go.Proofs.YtflciafboapaaaaGreat
open Go Go.Sx Go.Gx
set_option maxRecDepth 100000
abbrev oJ:=ByteArray×(V0×iF)×(V0×V6 (Int×(V0×iF)))
def rS (z:oJ):iF×V6 (Int×iF):=(z.2.1.2,z.2.2.2.map λs=>(s.1,s.2.2))
def Fx:ByteArray:=(ByteArray.mk #[112,114,111,103,114,97,109,32,98,102,115,59,10,118,97,114,32,100,32,58,32,48,32,46,46,32,110,59,10,118,97,114,32,112,32,58,32,112,111,114,116,59,10,114,117,108,101,32,116,111,112,58,32,114,111,111,116,32,38,38,32,40,100,32,33,61,32,48,32,124,124,32,112,32,33,61,32,110,111,110,101,41,32,45,62,32,100,32,58,61,32,48,44,32,112,32,58,61,32,110,111,110,101,59,10,114,117,108,101,32,108,111,119,58,32,33,114,111,111,116,32,38,38,32,40,100,32,33,61,32,40,109,105,110,40,113,46,100,41,32,60,32,110,32,63,32,109,105,110,40,113,46,100,41,32,43,32,49,32,58,32,110,41,32,124,124,32,112,32,33,61,32,102,105,114,115,116,40,113,46,100,32,61,61,32,109,105,110,40,113,46,100,41,41,41,10,32,32,45,62,32,100,32,58,61,32,40,109,105,110,40,113,46,100,41,32,60,32,110,32,63,32,109,105,110,40,113,46,100,41,32,43,32,49,32,58,32,110,41,44,32,112,32,58,61,32,102,105,114,115,116,40,113,46,100,32,61,61,32,109,105,110,40,113,46,100,41,41,59,10])
def KS:DK:=[((ByteArray.mk #[100]),(1:Int),(0:Int),(0:Int),(1:Int),(0:Int)),((ByteArray.mk #[112]),(3:Int),(0:Int),(0:Int),(0:Int),(0:Int))]
def HE:Ka:=[([(41,0),(10,0),(42,0),(36,0),(5,0),(1,0),(36,0),(5,1),(4,0)],[(0,[(1,0)]),(1,[(4,0)])]),([(41,0),(19,0),(10,0),(42,0),(36,0),(5,0),(43,0),(37,0),(24,0),(12,0),(6,0),(33,0),(24,0),(12,0),(1,1),(6,0),(36,0),(5,1),(23,0),(35,0),(12,0),(24,0),(12,0)],[(0,[(43,0),(37,0),(24,0),(12,0),(6,0),(33,0),(24,0),(12,0),(1,1),(6,0)]),(1,[(23,0),(35,0),(12,0),(24,0),(12,0)])])]
def agy:Yd:=[((7368564,3),[(41,0),(10,0),(42,0),(36,0),(5,0),(1,0),(36,0),(5,1),(4,0)],[(0,[(1,0)]),(1,[(4,0)])]),((7827308,3),[(41,0),(19,0),(10,0),(42,0),(36,0),(5,0),(43,0),(37,0),(24,0),(12,0),(6,0),(33,0),(24,0),(12,0),(1,1),(6,0),(36,0),(5,1),(23,0),(35,0),(12,0),(24,0),(12,0)],[(0,[(43,0),(37,0),(24,0),(12,0),(6,0),(33,0),(24,0),(12,0),(1,1),(6,0)]),(1,[(23,0),(35,0),(12,0),(24,0),(12,0)])])]
def Fy:ByteArray:=(ByteArray.mk #[112,114,111,103,114,97,109,32,112,97,116,104,115,59,10,118,97,114,32,100,32,58,32,48,32,46,46,32,49,53,32,42,32,110,59,10,118,97,114,32,112,32,58,32,112,111,114,116,59,10,114,117,108,101,32,116,111,112,58,32,114,111,111,116,32,38,38,32,40,100,32,33,61,32,48,32,124,124,32,112,32,33,61,32,110,111,110,101,41,32,45,62,32,100,32,58,61,32,48,44,32,112,32,58,61,32,110,111,110,101,59,10,114,117,108,101,32,108,111,119,58,32,33,114,111,111,116,32,38,38,32,40,100,32,33,61,32,40,109,105,110,40,113,46,100,32,43,32,113,46,119,101,105,103,104,116,41,32,60,32,49,53,32,42,32,110,32,63,32,109,105,110,40,113,46,100,32,43,32,113,46,119,101,105,103,104,116,41,32,58,32,49,53,32,42,32,110,41,32,124,124,32,112,32,33,61,32,102,105,114,115,116,40,113,46,100,32,43,32,113,46,119,101,105,103,104,116,32,61,61,32,109,105,110,40,113,46,100,32,43,32,113,46,119,101,105,103,104,116,41,41,41,10,32,32,45,62,32,100,32,58,61,32,40,109,105,110,40,113,46,100,32,43,32,113,46,119,101,105,103,104,116,41,32,60,32,49,53,32,42,32,110,32,63,32,109,105,110,40,113,46,100,32,43,32,113,46,119,101,105,103,104,116,41,32,58,32,49,53,32,42,32,110,41,44,32,112,32,58,61,32,102,105,114,115,116,40,113,46,100,32,43,32,113,46,119,101,105,103,104,116,32,61,61,32,109,105,110,40,113,46,100,32,43,32,113,46,119,101,105,103,104,116,41,41,59,10])
def KU:DK:=[((ByteArray.mk #[100]),(1:Int),(0:Int),(0:Int),(15:Int),(0:Int)),((ByteArray.mk #[112]),(3:Int),(0:Int),(0:Int),(0:Int),(0:Int))]
def HF:Ka:=[([(41,0),(10,0),(42,0),(36,0),(5,0),(1,0),(36,0),(5,1),(4,0)],[(0,[(1,0)]),(1,[(4,0)])]),([(41,0),(19,0),(10,0),(42,0),(36,0),(5,0),(43,0),(37,0),(24,0),(33,0),(12,0),(16,0),(30,0),(1,15),(6,0),(24,0),(33,0),(12,0),(16,0),(30,0),(1,15),(6,0),(36,0),(5,1),(23,0),(35,0),(33,0),(12,0),(16,0),(24,0),(33,0),(12,0),(16,0)],[(0,[(43,0),(37,0),(24,0),(33,0),(12,0),(16,0),(30,0),(1,15),(6,0),(24,0),(33,0),(12,0),(16,0),(30,0),(1,15),(6,0)]),(1,[(23,0),(35,0),(33,0),(12,0),(16,0),(24,0),(33,0),(12,0),(16,0)])])]
def agz:Yd:=[((7368564,3),[(41,0),(10,0),(42,0),(36,0),(5,0),(1,0),(36,0),(5,1),(4,0)],[(0,[(1,0)]),(1,[(4,0)])]),((7827308,3),[(41,0),(19,0),(10,0),(42,0),(36,0),(5,0),(43,0),(37,0),(24,0),(33,0),(12,0),(16,0),(30,0),(1,15),(6,0),(24,0),(33,0),(12,0),(16,0),(30,0),(1,15),(6,0),(36,0),(5,1),(23,0),(35,0),(33,0),(12,0),(16,0),(24,0),(33,0),(12,0),(16,0)],[(0,[(43,0),(37,0),(24,0),(33,0),(12,0),(16,0),(30,0),(1,15),(6,0),(24,0),(33,0),(12,0),(16,0),(30,0),(1,15),(6,0)]),(1,[(23,0),(35,0),(33,0),(12,0),(16,0),(24,0),(33,0),(12,0),(16,0)])])]
def Fz:ByteArray:=(ByteArray.mk #[112,114,111,103,114,97,109,32,119,105,100,101,115,116,59,10,118,97,114,32,120,32,58,32,48,32,46,46,32,49,54,32,42,32,110,59,10,118,97,114,32,112,32,58,32,112,111,114,116,59,10,114,117,108,101,32,116,111,112,58,32,114,111,111,116,32,38,38,32,40,120,32,33,61,32,48,32,124,124,32,112,32,33,61,32,110,111,110,101,41,32,45,62,32,120,32,58,61,32,48,44,32,112,32,58,61,32,110,111,110,101,59,10,114,117,108,101,32,108,111,119,58,32,33,114,111,111,116,32,38,38,32,40,120,32,33,61,32,40,109,105,110,40,113,46,120,32,43,32,49,32,62,32,113,46,119,101,105,103,104,116,32,42,32,110,32,63,32,113,46,120,32,43,32,49,32,58,32,113,46,119,101,105,103,104,116,32,42,32,110,41,32,60,32,49,54,32,42,32,110,32,63,32,109,105,110,40,113,46,120,32,43,32,49,32,62,32,113,46,119,101,105,103,104,116,32,42,32,110,32,63,32,113,46,120,32,43,32,49,32,58,32,113,46,119,101,105,103,104,116,32,42,32,110,41,32,58,32,49,54,32,42,32,110,41,32,124,124,32,112,32,33,61,32,102,105,114,115,116,40,40,113,46,120,32,43,32,49,32,62,32,113,46,119,101,105,103,104,116,32,42,32,110,32,63,32,113,46,120,32,43,32,49,32,58,32,113,46,119,101,105,103,104,116,32,42,32,110,41,32,61,61,32,109,105,110,40,113,46,120,32,43,32,49,32,62,32,113,46,119,101,105,103,104,116,32,42,32,110,32,63,32,113,46,120,32,43,32,49,32,58,32,113,46,119,101,105,103,104,116,32,42,32,110,41,41,41,10,32,32,45,62,32,120,32,58,61,32,40,109,105,110,40,113,46,120,32,43,32,49,32,62,32,113,46,119,101,105,103,104,116,32,42,32,110,32,63,32,113,46,120,32,43,32,49,32,58,32,113,46,119,101,105,103,104,116,32,42,32,110,41,32,60,32,49,54,32,42,32,110,32,63,32,109,105,110,40,113,46,120,32,43,32,49,32,62,32,113,46,119,101,105,103,104,116,32,42,32,110,32,63,32,113,46,120,32,43,32,49,32,58,32,113,46,119,101,105,103,104,116,32,42,32,110,41,32,58,32,49,54,32,42,32,110,41,44,32,112,32,58,61,32,102,105,114,115,116,40,40,113,46,120,32,43,32,49,32,62,32,113,46,119,101,105,103,104,116,32,42,32,110,32,63,32,113,46,120,32,43,32,49,32,58,32,113,46,119,101,105,103,104,116,32,42,32,110,41,32,61,61,32,109,105,110,40,113,46,120,32,43,32,49,32,62,32,113,46,119,101,105,103,104,116,32,42,32,110,32,63,32,113,46,120,32,43,32,49,32,58,32,113,46,119,101,105,103,104,116,32,42,32,110,41,41,59,10])
def KV:DK:=[((ByteArray.mk #[120]),(1:Int),(0:Int),(0:Int),(16:Int),(0:Int)),((ByteArray.mk #[112]),(3:Int),(0:Int),(0:Int),(0:Int),(0:Int))]
def HG:Ka:=[([(41,0),(10,0),(42,0),(36,0),(5,0),(1,0),(36,0),(5,1),(4,0)],[(0,[(1,0)]),(1,[(4,0)])]),([(41,0),(19,0),(10,0),(42,0),(36,0),(5,0),(43,0),(37,0),(24,0),(43,0),(39,0),(33,0),(12,0),(1,1),(30,0),(16,0),(6,0),(33,0),(12,0),(1,1),(30,0),(16,0),(6,0),(30,0),(1,16),(6,0),(24,0),(43,0),(39,0),(33,0),(12,0),(1,1),(30,0),(16,0),(6,0),(33,0),(12,0),(1,1),(30,0),(16,0),(6,0),(30,0),(1,16),(6,0),(36,0),(5,1),(23,0),(35,0),(43,0),(39,0),(33,0),(12,0),(1,1),(30,0),(16,0),(6,0),(33,0),(12,0),(1,1),(30,0),(16,0),(6,0),(24,0),(43,0),(39,0),(33,0),(12,0),(1,1),(30,0),(16,0),(6,0),(33,0),(12,0),(1,1),(30,0),(16,0),(6,0)],[(0,[(43,0),(37,0),(24,0),(43,0),(39,0),(33,0),(12,0),(1,1),(30,0),(16,0),(6,0),(33,0),(12,0),(1,1),(30,0),(16,0),(6,0),(30,0),(1,16),(6,0),(24,0),(43,0),(39,0),(33,0),(12,0),(1,1),(30,0),(16,0),(6,0),(33,0),(12,0),(1,1),(30,0),(16,0),(6,0),(30,0),(1,16),(6,0)]),(1,[(23,0),(35,0),(43,0),(39,0),(33,0),(12,0),(1,1),(30,0),(16,0),(6,0),(33,0),(12,0),(1,1),(30,0),(16,0),(6,0),(24,0),(43,0),(39,0),(33,0),(12,0),(1,1),(30,0),(16,0),(6,0),(33,0),(12,0),(1,1),(30,0),(16,0),(6,0)])])]
def agA:Yd:=[((7368564,3),[(41,0),(10,0),(42,0),(36,0),(5,0),(1,0),(36,0),(5,1),(4,0)],[(0,[(1,0)]),(1,[(4,0)])]),((7827308,3),[(41,0),(19,0),(10,0),(42,0),(36,0),(5,0),(43,0),(37,0),(24,0),(43,0),(39,0),(33,0),(12,0),(1,1),(30,0),(16,0),(6,0),(33,0),(12,0),(1,1),(30,0),(16,0),(6,0),(30,0),(1,16),(6,0),(24,0),(43,0),(39,0),(33,0),(12,0),(1,1),(30,0),(16,0),(6,0),(33,0),(12,0),(1,1),(30,0),(16,0),(6,0),(30,0),(1,16),(6,0),(36,0),(5,1),(23,0),(35,0),(43,0),(39,0),(33,0),(12,0),(1,1),(30,0),(16,0),(6,0),(33,0),(12,0),(1,1),(30,0),(16,0),(6,0),(24,0),(43,0),(39,0),(33,0),(12,0),(1,1),(30,0),(16,0),(6,0),(33,0),(12,0),(1,1),(30,0),(16,0),(6,0)],[(0,[(43,0),(37,0),(24,0),(43,0),(39,0),(33,0),(12,0),(1,1),(30,0),(16,0),(6,0),(33,0),(12,0),(1,1),(30,0),(16,0),(6,0),(30,0),(1,16),(6,0),(24,0),(43,0),(39,0),(33,0),(12,0),(1,1),(30,0),(16,0),(6,0),(33,0),(12,0),(1,1),(30,0),(16,0),(6,0),(30,0),(1,16),(6,0)]),(1,[(23,0),(35,0),(43,0),(39,0),(33,0),(12,0),(1,1),(30,0),(16,0),(6,0),(33,0),(12,0),(1,1),(30,0),(16,0),(6,0),(24,0),(43,0),(39,0),(33,0),(12,0),(1,1),(30,0),(16,0),(6,0),(33,0),(12,0),(1,1),(30,0),(16,0),(6,0)])])]
def FA:ByteArray:=(ByteArray.mk #[112,114,111,103,114,97,109,32,108,101,97,100,101,114,59,10,118,97,114,32,108,101,97,100,32,58,32,48,32,46,46,32,105,100,115,59,10,118,97,114,32,100,32,58,32,48,32,46,46,32,110,32,45,32,49,59,10,118,97,114,32,112,32,58,32,112,111,114,116,59,10,114,117,108,101,32,111,119,110,58,32,105,100,32,42,32,110,32,60,61,32,109,105,110,40,113,46,100,32,43,32,49,32,60,32,110,32,63,32,113,46,108,101,97,100,32,42,32,110,32,43,32,113,46,100,32,58,32,40,105,100,115,32,43,32,49,41,32,42,32,110,41,32,38,38,32,40,108,101,97,100,32,33,61,32,105,100,32,124,124,32,100,32,33,61,32,48,32,124,124,32,112,32,33,61,32,110,111,110,101,41,32,45,62,32,108,101,97,100,32,58,61,32,105,100,44,32,100,32,58,61,32,48,44,32,112,32,58,61,32,110,111,110,101,59,10,114,117,108,101,32,106,111,105,110,58,32,105,100,32,42,32,110,32,62,32,109,105,110,40,113,46,100,32,43,32,49,32,60,32,110,32,63,32,113,46,108,101,97,100,32,42,32,110,32,43,32,113,46,100,32,58,32,40,105,100,115,32,43,32,49,41,32,42,32,110,41,32,38,38,32,40,108,101,97,100,32,33,61,32,109,105,110,40,113,46,100,32,43,32,49,32,60,32,110,32,63,32,113,46,108,101,97,100,32,42,32,110,32,43,32,113,46,100,32,58,32,40,105,100,115,32,43,32,49,41,32,42,32,110,41,32,47,32,110,32,124,124,32,100,32,33,61,32,109,105,110,40,113,46,100,32,43,32,49,32,60,32,110,32,63,32,113,46,108,101,97,100,32,42,32,110,32,43,32,113,46,100,32,58,32,40,105,100,115,32,43,32,49,41,32,42,32,110,41,32,37,32,110,32,43,32,49,32,124,124,32,112,32,33,61,32,102,105,114,115,116,40,113,46,108,101,97,100,32,42,32,110,32,43,32,113,46,100,32,61,61,32,109,105,110,40,113,46,100,32,43,32,49,32,60,32,110,32,63,32,113,46,108,101,97,100,32,42,32,110,32,43,32,113,46,100,32,58,32,40,105,100,115,32,43,32,49,41,32,42,32,110,41,41,41,10,32,32,45,62,32,108,101,97,100,32,58,61,32,109,105,110,40,113,46,100,32,43,32,49,32,60,32,110,32,63,32,113,46,108,101,97,100,32,42,32,110,32,43,32,113,46,100,32,58,32,40,105,100,115,32,43,32,49,41,32,42,32,110,41,32,47,32,110,44,32,100,32,58,61,32,109,105,110,40,113,46,100,32,43,32,49,32,60,32,110,32,63,32,113,46,108,101,97,100,32,42,32,110,32,43,32,113,46,100,32,58,32,40,105,100,115,32,43,32,49,41,32,42,32,110,41,32,37,32,110,32,43,32,49,44,32,112,32,58,61,32,102,105,114,115,116,40,113,46,108,101,97,100,32,42,32,110,32,43,32,113,46,100,32,61,61,32,109,105,110,40,113,46,100,32,43,32,49,32,60,32,110,32,63,32,113,46,108,101,97,100,32,42,32,110,32,43,32,113,46,100,32,58,32,40,105,100,115,32,43,32,49,41,32,42,32,110,41,41,59,10])
def KW:DK:=[((ByteArray.mk #[108,101,97,100]),(1:Int),(0:Int),(0:Int),(0:Int),(1:Int)),((ByteArray.mk #[100]),(1:Int),(0:Int),(-1:Int),(1:Int),(0:Int)),((ByteArray.mk #[112]),(3:Int),(0:Int),(0:Int),(0:Int),(0:Int))]
def HJ:Ka:=[([(41,0),(38,0),(30,0),(8,0),(6,0),(24,0),(43,0),(37,0),(33,0),(12,1),(1,1),(6,0),(33,0),(30,0),(12,0),(6,0),(12,1),(30,0),(33,0),(7,0),(1,1),(6,0),(42,0),(42,0),(36,0),(5,0),(8,0),(36,0),(5,1),(1,0),(36,0),(5,2),(4,0)],[(0,[(8,0)]),(1,[(1,0)]),(2,[(4,0)])]),([(41,0),(39,0),(30,0),(8,0),(6,0),(24,0),(43,0),(37,0),(33,0),(12,1),(1,1),(6,0),(33,0),(30,0),(12,0),(6,0),(12,1),(30,0),(33,0),(7,0),(1,1),(6,0),(42,0),(42,0),(36,0),(5,0),(31,0),(24,0),(43,0),(37,0),(33,0),(12,1),(1,1),(6,0),(33,0),(30,0),(12,0),(6,0),(12,1),(30,0),(33,0),(7,0),(1,1),(6,0),(6,0),(36,0),(5,1),(33,0),(32,0),(24,0),(43,0),(37,0),(33,0),(12,1),(1,1),(6,0),(33,0),(30,0),(12,0),(6,0),(12,1),(30,0),(33,0),(7,0),(1,1),(6,0),(6,0),(1,1),(36,0),(5,2),(23,0),(35,0),(33,0),(30,0),(12,0),(6,0),(12,1),(24,0),(43,0),(37,0),(33,0),(12,1),(1,1),(6,0),(33,0),(30,0),(12,0),(6,0),(12,1),(30,0),(33,0),(7,0),(1,1),(6,0)],[(0,[(31,0),(24,0),(43,0),(37,0),(33,0),(12,1),(1,1),(6,0),(33,0),(30,0),(12,0),(6,0),(12,1),(30,0),(33,0),(7,0),(1,1),(6,0),(6,0)]),(1,[(33,0),(32,0),(24,0),(43,0),(37,0),(33,0),(12,1),(1,1),(6,0),(33,0),(30,0),(12,0),(6,0),(12,1),(30,0),(33,0),(7,0),(1,1),(6,0),(6,0),(1,1)]),(2,[(23,0),(35,0),(33,0),(30,0),(12,0),(6,0),(12,1),(24,0),(43,0),(37,0),(33,0),(12,1),(1,1),(6,0),(33,0),(30,0),(12,0),(6,0),(12,1),(30,0),(33,0),(7,0),(1,1),(6,0)])])]
def agB:Yd:=[((7239535,3),[(41,0),(38,0),(30,0),(8,0),(6,0),(24,0),(43,0),(37,0),(33,0),(12,1),(1,1),(6,0),(33,0),(30,0),(12,0),(6,0),(12,1),(30,0),(33,0),(7,0),(1,1),(6,0),(42,0),(42,0),(36,0),(5,0),(8,0),(36,0),(5,1),(1,0),(36,0),(5,2),(4,0)],[(0,[(8,0)]),(1,[(1,0)]),(2,[(4,0)])]),((1852403562,4),[(41,0),(39,0),(30,0),(8,0),(6,0),(24,0),(43,0),(37,0),(33,0),(12,1),(1,1),(6,0),(33,0),(30,0),(12,0),(6,0),(12,1),(30,0),(33,0),(7,0),(1,1),(6,0),(42,0),(42,0),(36,0),(5,0),(31,0),(24,0),(43,0),(37,0),(33,0),(12,1),(1,1),(6,0),(33,0),(30,0),(12,0),(6,0),(12,1),(30,0),(33,0),(7,0),(1,1),(6,0),(6,0),(36,0),(5,1),(33,0),(32,0),(24,0),(43,0),(37,0),(33,0),(12,1),(1,1),(6,0),(33,0),(30,0),(12,0),(6,0),(12,1),(30,0),(33,0),(7,0),(1,1),(6,0),(6,0),(1,1),(36,0),(5,2),(23,0),(35,0),(33,0),(30,0),(12,0),(6,0),(12,1),(24,0),(43,0),(37,0),(33,0),(12,1),(1,1),(6,0),(33,0),(30,0),(12,0),(6,0),(12,1),(30,0),(33,0),(7,0),(1,1),(6,0)],[(0,[(31,0),(24,0),(43,0),(37,0),(33,0),(12,1),(1,1),(6,0),(33,0),(30,0),(12,0),(6,0),(12,1),(30,0),(33,0),(7,0),(1,1),(6,0),(6,0)]),(1,[(33,0),(32,0),(24,0),(43,0),(37,0),(33,0),(12,1),(1,1),(6,0),(33,0),(30,0),(12,0),(6,0),(12,1),(30,0),(33,0),(7,0),(1,1),(6,0),(6,0),(1,1)]),(2,[(23,0),(35,0),(33,0),(30,0),(12,0),(6,0),(12,1),(24,0),(43,0),(37,0),(33,0),(12,1),(1,1),(6,0),(33,0),(30,0),(12,0),(6,0),(12,1),(30,0),(33,0),(7,0),(1,1),(6,0)])])]
def PF (V:V0):a_:=⟨λw S=>(IZ 3136 mo2 mg2 V).p w S\/(IZ 4123 mo3 mg3 V).p w S\/(IZ 8053 mo4 mg4 V).p w S\/(IZ 9723 mo5 mg5 V).p w S,λ{w w' S S'} h k=>by
 rcases h with h|h|h|h
 .exact .inl ((IZ 3136 mo2 mg2 V).mono h k)
 .exact .inr (.inl ((IZ 4123 mo3 mg3 V).mono h k))
 .exact .inr (.inr (.inl ((IZ 8053 mo4 mg4 V).mono h k)))
 exact .inr (.inr (.inr (((IZ 9723 mo5 mg5 V).mono h k))))⟩
noncomputable def aas {R:Type} (D:Ka) (k:V6 oJ->V1 R):V1 R:=open Classical in if h:∃r,∀z:V6 oJ,z.map rS=D->k z=some r then some (Classical.choose h)else none
theorem Yz {R:Type} {D:Ka} {k:V6 oJ->V1 R} {r:R} (h:aas D k=some r) (z:V6 oJ) (a:z.map rS=D):k z=some r:=by
 unfold aas at h;split at h
 .rename_i e;rw[<-Option.some.inj h];exact Classical.choose_spec e z a
 cases h
theorem Mt {R:Type} {D:Ka} {k:V6 oJ->V1 R} {r:R} (h:∀z:V6 oJ,z.map rS=D->k z=some r):aas D k=some r:=by
 have e:∃r,∀z:V6 oJ,z.map rS=D->k z=some r:=⟨r,h⟩
 unfold aas;rw[dif_pos e];let z:V6 oJ:=D.map λx=>(ByteArray.empty,(undef,x.1),(undef,x.2.map λs=>(s.1,(undef,s.2))))
 have c:z.map rS=D:=by
  show(D.map _).map rS=D;rw[List.map_map]
  conv=>rhs;rw[<-List.map_id D]
  refine zBa λx _=>?_;have⟨a,b⟩:=x;simp[rS,Function.comp_def]
 rw[<-Classical.choose_spec e z c,h z c]
def iC (b:Nat) (a:ByteArray):V1 Qd:=if a=Fx then some ((ByteArray.mk #[98,102,115]),KS,HE)else if a=Fy then some ((ByteArray.mk #[112,97,116,104,115]),KU,HF)else if a=Fz then some ((ByteArray.mk #[119,105,100,101,115,116]),KV,HG)else if a=FA then some ((ByteArray.mk #[108,101,97,100,101,114]),KW,HJ)else none
theorem S_:aU prog 9:=call9
theorem Jk:aU prog 168:=call168
theorem TV:Eh Fx=(aim,270):=by kernel_rfl
theorem acs:Eh (ByteArray.mk #[98,102,115])=(7562850,3):=by kernel_rfl
theorem acF:Kt (Eo 3136 mo2) 6 (dP 1 QU (dP 1 (dI .i64) (dP 1 (dI .i64) (dP 1 (dI .i64) (dP 1 (dI .i64) (dI .i64)))))) (.sl 1176 0 2 6)=some (KS.map λz=>(Eh z.1,z.2.1,z.2.2.1,z.2.2.2.1,z.2.2.2.2.1,z.2.2.2.2.2)):=by kernel_rfl
theorem Zo:Kt (Eo 3136 mo2) 3 (dP 1 QU (dP 1 (dS (Eo 3136 mo2) 2 (dP 1 (dI .i64) (dI .i64))) (dS (Eo 3136 mo2) 2 (dP 1 (dI .i64) (dS (Eo 3136 mo2) 2 (dP 1 (dI .i64) (dI .i64))))))) (.sl 2078 0 2 3)=some agy:=by kernel_rfl
theorem afA:agy.map (λy=>(y.2.1,y.2.2))=HE:=by kernel_rfl
theorem acx (r:Qd) (h:some ((ByteArray.mk #[98,102,115]),KS,HE)=some r):aZ prog 9 #[vS Fx] [] (λx:V0×V0×{z:List oJ // z.map rS=r.2.2}=>Value.agg #[vS r.1,x.1,x.2.1]) (λx l=>l) (λx l=>Sl aG x.1 r.2.1::Sl aF x.2.1 x.2.2.1::PF (Value.agg #[vS r.1,x.1,x.2.1])::l):=by
 cases h;refine Fv (gs:=gl) (LO:=λx:V0×V0×{z:List oJ // z.map rS=HE}=>[Sl aG x.1 KS,Sl aF x.2.1 x.2.2.1,PF (Value.agg #[vS (ByteArray.mk #[98,102,115]),x.1,x.2.1])]) NJ (λT b=>HB tD agp me2 S_ (.cons (El (x:=Fx) (congrArg Prod.fst TV).symm (congrArg Prod.snd TV).symm) .nil) Z b) ?_;intro T b B w V a R g;have y:=g;obtain⟨f,rfl,c,_⟩:=g.agg_inv;obtain⟨C,f,rfl,m,c⟩:=c.of_cons;obtain⟨j,f,rfl,n,c⟩:=c.of_cons;obtain⟨k,rfl,o⟩:=c.one;obtain rfl:=MK m acs;obtain⟨A,v,s⟩:=Ap R a (cG.pair cG.str (cG.pair (cG.int .i64) (cG.pair (cG.int .i64) (cG.pair (cG.int .i64) (cG.pair (cG.int .i64) (cG.int .i64)))))) n acF;have e:A=KS:=Dm (kN (λ_ _=>Gz) (kN rY (kN rY (kN rY (kN rY rY))))) v;subst e;obtain⟨i,u,t⟩:=Ap (r:=aF) R a (cG.pair cG.str (cG.pair (cG.sl R a (cG.pair (cG.int .i64) (cG.int .i64))) (cG.sl R a (cG.pair (cG.int .i64) (cG.sl R a (cG.pair (cG.int .i64) (cG.int .i64))))))) o Zo;have d:i.map rS=HE:=by
  rw[<-afA,<-u,List.map_map];refine zBa λx _=>?_;simp[rS,Function.comp_def]
 exact⟨(j,k,⟨i,d⟩),rfl,zAs.2 ⟨s,zAs.2 ⟨t,zAs.2 ⟨.inl (⟨B,g_.hd R a,y⟩),λq p=>absurd p zAz⟩⟩⟩⟩
theorem adx:okV mo2 (Ik Ct gp0 4000 168 [mg2] (Eo 3136 mo2))=true:=by kernel_rfl
theorem TW:Eh Fy=(ain,377):=by kernel_rfl
theorem acu:Eh (ByteArray.mk #[112,97,116,104,115])=(495673696624,5):=by kernel_rfl
theorem acG:Kt (Eo 4123 mo3) 6 (dP 1 QU (dP 1 (dI .i64) (dP 1 (dI .i64) (dP 1 (dI .i64) (dP 1 (dI .i64) (dI .i64)))))) (.sl 1509 0 2 6)=some (KU.map λz=>(Eh z.1,z.2.1,z.2.2.1,z.2.2.2.1,z.2.2.2.2.1,z.2.2.2.2.2)):=by kernel_rfl
theorem Zp:Kt (Eo 4123 mo3) 3 (dP 1 QU (dP 1 (dS (Eo 4123 mo3) 2 (dP 1 (dI .i64) (dI .i64))) (dS (Eo 4123 mo3) 2 (dP 1 (dI .i64) (dS (Eo 4123 mo3) 2 (dP 1 (dI .i64) (dI .i64))))))) (.sl 2665 0 2 3)=some agz:=by kernel_rfl
theorem afB:agz.map (λy=>(y.2.1,y.2.2))=HF:=by kernel_rfl
theorem acy (r:Qd) (h:some ((ByteArray.mk #[112,97,116,104,115]),KU,HF)=some r):aZ prog 9 #[vS Fy] [] (λx:V0×V0×{z:List oJ // z.map rS=r.2.2}=>Value.agg #[vS r.1,x.1,x.2.1]) (λx l=>l) (λx l=>Sl aG x.1 r.2.1::Sl aF x.2.1 x.2.2.1::PF (Value.agg #[vS r.1,x.1,x.2.1])::l):=by
 cases h;refine Fv (gs:=gl) (LO:=λx:V0×V0×{z:List oJ // z.map rS=HF}=>[Sl aG x.1 KU,Sl aF x.2.1 x.2.2.1,PF (Value.agg #[vS (ByteArray.mk #[112,97,116,104,115]),x.1,x.2.1])]) NJ (λT b=>HB tD agq me3 S_ (.cons (El (x:=Fy) (congrArg Prod.fst TW).symm (congrArg Prod.snd TW).symm) .nil) Z b) ?_;intro T b B w V a R g;have y:=g;obtain⟨f,rfl,c,_⟩:=g.agg_inv;obtain⟨C,f,rfl,m,c⟩:=c.of_cons;obtain⟨j,f,rfl,n,c⟩:=c.of_cons;obtain⟨k,rfl,o⟩:=c.one;obtain rfl:=MK m acu;obtain⟨A,v,s⟩:=Ap R a (cG.pair cG.str (cG.pair (cG.int .i64) (cG.pair (cG.int .i64) (cG.pair (cG.int .i64) (cG.pair (cG.int .i64) (cG.int .i64)))))) n acG;have e:A=KU:=Dm (kN (λ_ _=>Gz) (kN rY (kN rY (kN rY (kN rY rY))))) v;subst e;obtain⟨i,u,t⟩:=Ap (r:=aF) R a (cG.pair cG.str (cG.pair (cG.sl R a (cG.pair (cG.int .i64) (cG.int .i64))) (cG.sl R a (cG.pair (cG.int .i64) (cG.sl R a (cG.pair (cG.int .i64) (cG.int .i64))))))) o Zp;have d:i.map rS=HF:=by
  rw[<-afB,<-u,List.map_map];refine zBa λx _=>?_;simp[rS,Function.comp_def]
 exact⟨(j,k,⟨i,d⟩),rfl,zAs.2 ⟨s,zAs.2 ⟨t,zAs.2 ⟨.inr (.inl (⟨B,g_.hd R a,y⟩)),λq p=>absurd p zAz⟩⟩⟩⟩
theorem ady:okV mo3 (Ik Ct gp0 4000 168 [mg3] (Eo 4123 mo3))=true:=by kernel_rfl
theorem TX:Eh Fz=(Y_,646):=by kernel_rfl
theorem acv:Eh (ByteArray.mk #[119,105,100,101,115,116])=(128038971140471,6):=by kernel_rfl
theorem acH:Kt (Eo 8053 mo4) 6 (dP 1 QU (dP 1 (dI .i64) (dP 1 (dI .i64) (dP 1 (dI .i64) (dP 1 (dI .i64) (dI .i64)))))) (.sl 2633 0 2 6)=some (KV.map λz=>(Eh z.1,z.2.1,z.2.2.1,z.2.2.2.1,z.2.2.2.2.1,z.2.2.2.2.2)):=by kernel_rfl
theorem Zq:Kt (Eo 8053 mo4) 3 (dP 1 QU (dP 1 (dS (Eo 8053 mo4) 2 (dP 1 (dI .i64) (dI .i64))) (dS (Eo 8053 mo4) 2 (dP 1 (dI .i64) (dS (Eo 8053 mo4) 2 (dP 1 (dI .i64) (dI .i64))))))) (.sl 4835 0 2 3)=some agA:=by kernel_rfl
theorem afC:agA.map (λy=>(y.2.1,y.2.2))=HG:=by kernel_rfl
theorem acz (r:Qd) (h:some ((ByteArray.mk #[119,105,100,101,115,116]),KV,HG)=some r):aZ prog 9 #[vS Fz] [] (λx:V0×V0×{z:List oJ // z.map rS=r.2.2}=>Value.agg #[vS r.1,x.1,x.2.1]) (λx l=>l) (λx l=>Sl aG x.1 r.2.1::Sl aF x.2.1 x.2.2.1::PF (Value.agg #[vS r.1,x.1,x.2.1])::l):=by
 cases h;refine Fv (gs:=gl) (LO:=λx:V0×V0×{z:List oJ // z.map rS=HG}=>[Sl aG x.1 KV,Sl aF x.2.1 x.2.2.1,PF (Value.agg #[vS (ByteArray.mk #[119,105,100,101,115,116]),x.1,x.2.1])]) NJ (λT b=>HB tD agr me4 S_ (.cons (El (x:=Fz) (congrArg Prod.fst TX).symm (congrArg Prod.snd TX).symm) .nil) Z b) ?_;intro T b B w V a R g;have y:=g;obtain⟨f,rfl,c,_⟩:=g.agg_inv;obtain⟨C,f,rfl,m,c⟩:=c.of_cons;obtain⟨j,f,rfl,n,c⟩:=c.of_cons;obtain⟨k,rfl,o⟩:=c.one;obtain rfl:=MK m acv;obtain⟨A,v,s⟩:=Ap R a (cG.pair cG.str (cG.pair (cG.int .i64) (cG.pair (cG.int .i64) (cG.pair (cG.int .i64) (cG.pair (cG.int .i64) (cG.int .i64)))))) n acH;have e:A=KV:=Dm (kN (λ_ _=>Gz) (kN rY (kN rY (kN rY (kN rY rY))))) v;subst e;obtain⟨i,u,t⟩:=Ap (r:=aF) R a (cG.pair cG.str (cG.pair (cG.sl R a (cG.pair (cG.int .i64) (cG.int .i64))) (cG.sl R a (cG.pair (cG.int .i64) (cG.sl R a (cG.pair (cG.int .i64) (cG.int .i64))))))) o Zq;have d:i.map rS=HG:=by
  rw[<-afC,<-u,List.map_map];refine zBa λx _=>?_;simp[rS,Function.comp_def]
 exact⟨(j,k,⟨i,d⟩),rfl,zAs.2 ⟨s,zAs.2 ⟨t,zAs.2 ⟨.inr (.inr (.inl (⟨B,g_.hd R a,y⟩))),λq p=>absurd p zAz⟩⟩⟩⟩
theorem adz:okV mo4 (Ik Ct gp0 4000 168 [mg4] (Eo 8053 mo4))=true:=by kernel_rfl
theorem TZ:Eh FA=(Za,733):=by kernel_rfl
theorem acw:Eh (ByteArray.mk #[108,101,97,100,101,114])=(125779801367916,6):=by kernel_rfl
theorem acI:Kt (Eo 9723 mo5) 6 (dP 1 QU (dP 1 (dI .i64) (dP 1 (dI .i64) (dP 1 (dI .i64) (dP 1 (dI .i64) (dI .i64)))))) (.sl 3126 0 3 6)=some (KW.map λz=>(Eh z.1,z.2.1,z.2.2.1,z.2.2.2.1,z.2.2.2.2.1,z.2.2.2.2.2)):=by kernel_rfl
theorem Zr:Kt (Eo 9723 mo5) 3 (dP 1 QU (dP 1 (dS (Eo 9723 mo5) 2 (dP 1 (dI .i64) (dI .i64))) (dS (Eo 9723 mo5) 2 (dP 1 (dI .i64) (dS (Eo 9723 mo5) 2 (dP 1 (dI .i64) (dI .i64))))))) (.sl 5744 0 2 3)=some agB:=by kernel_rfl
theorem afD:agB.map (λy=>(y.2.1,y.2.2))=HJ:=by kernel_rfl
theorem acA (r:Qd) (h:some ((ByteArray.mk #[108,101,97,100,101,114]),KW,HJ)=some r):aZ prog 9 #[vS FA] [] (λx:V0×V0×{z:List oJ // z.map rS=r.2.2}=>Value.agg #[vS r.1,x.1,x.2.1]) (λx l=>l) (λx l=>Sl aG x.1 r.2.1::Sl aF x.2.1 x.2.2.1::PF (Value.agg #[vS r.1,x.1,x.2.1])::l):=by
 cases h;refine Fv (gs:=gl) (LO:=λx:V0×V0×{z:List oJ // z.map rS=HJ}=>[Sl aG x.1 KW,Sl aF x.2.1 x.2.2.1,PF (Value.agg #[vS (ByteArray.mk #[108,101,97,100,101,114]),x.1,x.2.1])]) NJ (λT b=>HB tD ags me5 S_ (.cons (El (x:=FA) (congrArg Prod.fst TZ).symm (congrArg Prod.snd TZ).symm) .nil) Z b) ?_;intro T b B w V a R g;have y:=g;obtain⟨f,rfl,c,_⟩:=g.agg_inv;obtain⟨C,f,rfl,m,c⟩:=c.of_cons;obtain⟨j,f,rfl,n,c⟩:=c.of_cons;obtain⟨k,rfl,o⟩:=c.one;obtain rfl:=MK m acw;obtain⟨A,v,s⟩:=Ap R a (cG.pair cG.str (cG.pair (cG.int .i64) (cG.pair (cG.int .i64) (cG.pair (cG.int .i64) (cG.pair (cG.int .i64) (cG.int .i64)))))) n acI;have e:A=KW:=Dm (kN (λ_ _=>Gz) (kN rY (kN rY (kN rY (kN rY rY))))) v;subst e;obtain⟨i,u,t⟩:=Ap (r:=aF) R a (cG.pair cG.str (cG.pair (cG.sl R a (cG.pair (cG.int .i64) (cG.int .i64))) (cG.sl R a (cG.pair (cG.int .i64) (cG.sl R a (cG.pair (cG.int .i64) (cG.int .i64))))))) o Zr;have d:i.map rS=HJ:=by
  rw[<-afD,<-u,List.map_map];refine zBa λx _=>?_;simp[rS,Function.comp_def]
 exact⟨(j,k,⟨i,d⟩),rfl,zAs.2 ⟨s,zAs.2 ⟨t,zAs.2 ⟨.inr (.inr (.inr ((⟨B,g_.hd R a,y⟩)))),λq p=>absurd p zAz⟩⟩⟩⟩
theorem adA:okV mo5 (Ik Ct gp0 4000 168 [mg5] (Eo 9723 mo5))=true:=by kernel_rfl
theorem Mh (b:Nat) {a:ByteArray} (r:Qd) (h:iC b a=some r):aZ prog 9 #[vS a] [] (λx:V0×V0×{z:V6 oJ // z.map rS=r.2.2}=>Value.agg #[vS r.1,x.1,x.2.1]) (λx l=>l) (λx l=>Sl aG x.1 r.2.1::Sl aF x.2.1 x.2.2.1::PF (Value.agg #[vS r.1,x.1,x.2.1])::l):=by
 unfold iC at h;by_cases c:a=Fx
 .subst c;exact acx r ((if_pos Z).symm.trans h)
 rw[if_neg c]at h;by_cases d:a=Fy
 .subst d;exact acy r ((if_pos Z).symm.trans h)
 rw[if_neg d]at h;by_cases e:a=Fz
 .subst e;exact acz r ((if_pos Z).symm.trans h)
 rw[if_neg e]at h;by_cases f:a=FA
 .subst f;exact acA r ((if_pos Z).symm.trans h)
 rw[if_neg f]at h;cases h
theorem acB (f:Nat):iC f Fx=some ((ByteArray.mk #[98,102,115]),KS,HE):=by
 unfold iC;exact if_pos Z
theorem acC (f:Nat):iC f Fy=some ((ByteArray.mk #[112,97,116,104,115]),KU,HF):=by
 unfold iC;rw[if_neg (by decide +kernel)];exact if_pos Z
theorem acD (f:Nat):iC f Fz=some ((ByteArray.mk #[119,105,100,101,115,116]),KV,HG):=by
 unfold iC;rw[if_neg (by decide +kernel)];rw[if_neg (by decide +kernel)];exact if_pos Z
theorem acE (f:Nat):iC f FA=some ((ByteArray.mk #[108,101,97,100,101,114]),KW,HJ):=by
 unfold iC;rw[if_neg (by decide +kernel)];rw[if_neg (by decide +kernel)];rw[if_neg (by decide +kernel)];exact if_pos Z
def Ek (fuel:Nat) (a:ByteArray×V6 (ByteArray×Int×Int×Int×Int×Int)×V6 (oJ)):V1 V4:=some true
theorem OY (a:Nat) {g:ByteArray×V6 (ByteArray×Int×Int×Int×Int×Int)×V6 (oJ)} (o p:V0) (r:V4) (h:Ek a g=some r):
  aZ prog 168 #[Value.agg #[vS g.1,o,p]] [Sl aG o g.2.1,Sl aF p g.2.2,PF (Value.agg #[vS g.1,o,p])] (λx:Unit=>vB (r)) (λx l=>l) (λ_ l=>l):=by
 cases h;intro w S z;have s:Calls prog 168 #[Value.agg #[vS g.1,o,p]] w λe t=>e = .returned (.bool true)/\Qx w t:=by
  rcases z _ (zA1 (i:=2) rfl)with f|f|f|f
  .refine Hx (fuel:=4000) afa Jk ?_ f;have⟨c,b,d⟩:=JF adx;rw[Dd (G:=gp0) tD]at b;exact⟨c,b,d⟩
  .refine Hx (fuel:=4000) afa Jk ?_ f;have⟨c,b,d⟩:=JF ady;rw[Dd (G:=gp0) tD]at b;exact⟨c,b,d⟩
  .refine Hx (fuel:=4000) afa Jk ?_ f;have⟨c,b,d⟩:=JF adz;rw[Dd (G:=gp0) tD]at b;exact⟨c,b,d⟩
  refine Hx (fuel:=4000) afa Jk ?_ f;have⟨c,b,d⟩:=JF adA;rw[Dd (G:=gp0) tD]at b;exact⟨c,b,d⟩
 refine s.mono ?_;rintro e t ⟨rfl,n⟩;exact⟨(),rfl,⟨n.os,n.tape,n.output,n.size,λk u _=>n.block k u⟩,λ_ _=>False,⟨λi m v=>by simp at v,λi k h=>h.elim,λi j k h=>h.elim⟩,λq y=>by simp at y⟩
end Go.Proofs.YtflciafboapaaaaGreat
namespace Go.Proofs.YtflciafboapaaaaGreat
open Go Go.Sx
abbrev amf:=Hg
abbrev PRG:=ByteArray×(V6 amf)×(V6 oJ)
abbrev GRF:=V6 Int×gY
abbrev SCN:=PRG×GRF×Int×bJ
abbrev WLK:=SCN×bJ×Int×iF
inductive E where
 |lf (o a:Int)
 |un (o:Int) (x:E)
 |ag (o:Int) (x:E)
 |bi (o:Int) (x y:E)
 |ite (x y z:E)
def E.ts:E->iF
 |lf o a=>[(o,a)]
 |un o x=>(o,0)::x.ts
 |ag o x=>(o,0)::x.ts
 |bi o x y=>(o,0)::(x.ts++y.ts)
 |ite x y z=>(43,0)::(x.ts++(y.ts++z.ts))
def E.depth:E->Nat
 |lf _ _=>1
 |un _ x=>x.depth+1
 |ag _ x=>x.depth+1
 |bi _ x y=>max x.depth y.depth+1
 |ite x y z=>max x.depth (max y.depth z.depth)+1
def E.arOk:E->V4
 |lf o _=>decide (1<=o)&&decide (o<=17)
 |un o x=>decide (18<=o)&&decide (o<=19)&&x.arOk
 |ag o x=>decide (20<=o)&&decide (o<=29)&&x.arOk
 |bi o x y=>decide (30<=o)&&decide (o<=42)&&x.arOk&&y.arOk
 |ite x y z=>x.arOk&&y.arOk&&z.arOk
theorem WM {b:Type} [Inhabited b] {T a rest:V6 b} {x:b} {k:Nat} (c:T=a++x::rest) (d:a.length=k):at' T (k:Int)=x:=by
 subst c;exact YC a rest x k d
theorem cW {k:Nat} (h:k<1000000):wI .i64 ((k:Int)+1)=((k+1:Nat):Int):=by rw[wr (by omega) (by omega)];rfl
theorem Q8 {k:Nat} (h:k<1000000:=by omega):wI .i64 ((k:Int)+1)=((k+1:Nat):Int):=cW h
theorem aau (f:Nat) {o:Int} (a:1<=o) (b:o<=43):AH f o=some (if o<=17 then 0 else if o<=29 then 1 else if o<=42 then 2 else 3):=by
 unfold AH BP;rw[Q0];simp only[zA2];rw[Q0];split
 .rfl
 .split
  .rfl
  .split<;>rfl
theorem abf {F:Nat} {T c rest:iF} {t:e_} {k m a b:Nat} (d:T=c++t::rest) (g:c.length=k) (i:k<1000) (n:m<3000) (e:AH F t.1=some ((a:Nat):Int)) (f:a<=3) (j:m+a≠0):
  bE (mW F T) (b+1) ((k:Int),(m:Int))=if m+a=1 then some (((k+1:Nat):Int))else bE (mW F T) b (((k+1:Nat):Int),((m+a - 1:Nat):Int)):=by
 have l:k<T.length:=by rw[d];simp;omega
 show mW F T ((k:Int),(m:Int)) (bE (mW F T) b)=_;unfold mW;dsimp only;rw[Q3,Q7,WM d g,bA e,Q0,Q9 (x:=((a:Nat):Int) - 1),Q9,Q8];by_cases h:m+a=1
 .rw[if_pos h,Q3]
 .rw[if_neg h,Q0];have:(m:Int)+((a:Int) - 1)=((m+a - 1:Nat):Int):=V7
  rw[this]
theorem aeS (F:Nat) (T:iF) (H:T.length<=900):∀(e:E),e.arOk=true->∀(c k m:Nat) (d b:iF),T=d++(e.ts++b)->d.length=k->1<=m->m+2*(e.ts++b).length<=1900->e.ts.length<=c->
  bE (mW F T) c ((k:Int),(m:Int))=if m=1 then some (((k+e.ts.length:Nat):Int))else bE (mW F T) (c - e.ts.length) (((k+e.ts.length:Nat):Int),((m - 1:Nat):Int)):=by
 have r:∀{t:e_} {l b d:iF} {c k m:Nat},T=d++((t::l)++b)->d.length=k->(t::l).length<=c->1<=t.1->t.1<=43->1<=m->m+2*((t::l)++b).length<=1900->∀a:Nat,(if t.1<=17 then 0 else if t.1<=29 then 1 else if t.1<=42 then 2 else 3:Int)=a->a<=3->∃f,c=f+1/\
   bE (mW F T) c ((k:Int),(m:Int))=if m+a=1 then some (((k+1:Nat):Int))else bE (mW F T) f (((k+1:Nat):Int),((m+a - 1:Nat):Int)):=by
  intro t l b d c k m n p q v w i j a I B;have A:=congrArg List.length n;simp only[zA4,zAa]at A j q;obtain⟨f,rfl⟩:∃f,c=f+1:=⟨c - 1,V7⟩
  exact⟨f,rfl,abf (rest:=l++b) (by simpa using n) p V7 V7 (by rw[aau F v w,I]) B V7⟩
 intro e
 induction e with
 |lf o a=>
  intro g c k m d b n p i j q;simp only[E.arOk,zA8,zA2]at g;obtain⟨f,rfl,h⟩:=r (t:=(o,a)) (l:=[]) n p q (by dsimp only;omega) (by dsimp only;omega) i j 0 (by rw[if_pos (by dsimp only;omega)];rfl) V7;rw[h];rfl
 |un o x C=>
  intro g c k m d b n p i j q;simp only[E.arOk,zA8,zA2]at g;obtain⟨f,rfl,h⟩:=r (t:=(o,0)) (l:=x.ts) n p q (by dsimp only;omega) (by dsimp only;omega) i j 1 (by rw[if_neg (by dsimp only;omega),if_pos (by dsimp only;omega)];rfl) V7;simp only[E.ts,zAa]at q j ⊢;rw[h,Q0];have:=C g.2 f (k+1) m (d++[(o,0)]) b (by rw[n];simp[E.ts]) (by simp[p]) i (by simp at j ⊢;omega) V7;rw[show m+1 - 1=m by omega,this,show k+1+x.ts.length=k+(x.ts.length+1) by omega,show f+1 - (x.ts.length+1)=f - x.ts.length by omega]
 |ag o x C=>
  intro g c k m d b n p i j q;simp only[E.arOk,zA8,zA2]at g;obtain⟨f,rfl,h⟩:=r (t:=(o,0)) (l:=x.ts) n p q (by dsimp only;omega) (by dsimp only;omega) i j 1 (by rw[if_neg (by dsimp only;omega),if_pos (by dsimp only;omega)];rfl) V7;simp only[E.ts,zAa]at q j ⊢;rw[h,Q0];have:=C g.2 f (k+1) m (d++[(o,0)]) b (by rw[n];simp[E.ts]) (by simp[p]) i (by simp at j ⊢;omega) V7;rw[show m+1 - 1=m by omega,this,show k+1+x.ts.length=k+(x.ts.length+1) by omega,show f+1 - (x.ts.length+1)=f - x.ts.length by omega]
 |bi o x y s u=>
  intro g c k m d b n p i j q;simp only[E.arOk,zA8,zA2]at g;obtain⟨f,rfl,h⟩:=r (t:=(o,0)) (l:=x.ts++y.ts) n p q (by dsimp only;omega) (by dsimp only;omega) i j 2 (by rw[if_neg (by dsimp only;omega),if_neg (by dsimp only;omega),if_pos (by dsimp only;omega)];rfl) V7;simp only[E.ts,zAa,zA4]at q j ⊢;rw[h,Q0];have v:=s g.1.2 f (k+1) (m+1) (d++[(o,0)]) (y.ts++b) (by rw[n];simp[E.ts]) (by simp[p]) V7 (by simp at j ⊢;omega) V7;have w:=u g.2 (f - x.ts.length) (k+1+x.ts.length) m (d++((o,0)::x.ts)) b (by rw[n];simp[E.ts]) (by simp[p];omega) V7 (by simp at j ⊢;omega) V7;rw[show m+2 - 1=m+1 by omega,v,Q0,show m+1 - 1=m by omega,w,show k+1+x.ts.length+y.ts.length=k+(x.ts.length+y.ts.length+1) by omega,show f+1 - (x.ts.length+y.ts.length+1)=f - x.ts.length - y.ts.length by omega]
 |ite x y z s u D=>
  intro g c k m d b n p i j q;simp only[E.arOk,zA8,zA2]at g;obtain⟨f,rfl,h⟩:=r (t:=(43,0)) (l:=x.ts++(y.ts++z.ts)) n p q Q2 Q2 i j 3 Z V7;simp only[E.ts,zAa,zA4]at q j ⊢;rw[h,Q0];have v:=s g.1.1 f (k+1) (m+2) (d++[(43,0)]) (y.ts++z.ts++b) (by rw[n];simp[E.ts]) (by simp[p]) V7 (by simp at j ⊢;omega) V7;have w:=u g.1.2 (f - x.ts.length) (k+1+x.ts.length) (m+1) (d++((43,0)::x.ts)) (z.ts++b) (by rw[n];simp[E.ts]) (by simp[p];omega) V7 (by simp at j ⊢;omega) V7;have G:=D g.2 (f - x.ts.length - y.ts.length) (k+1+x.ts.length+y.ts.length) m (d++((43,0)::(x.ts++y.ts))) b (by rw[n];simp[E.ts]) (by simp[p];omega) V7 (by simp at j ⊢;omega) V7;rw[show m+3 - 1=m+2 by omega,v,Q0,show m+2 - 1=m+1 by omega,w,Q0,show m+1 - 1=m by omega,G,show k+1+x.ts.length+y.ts.length+z.ts.length=k+(x.ts.length+(y.ts.length+z.ts.length)+1) by omega,show f+1 - (x.ts.length+(y.ts.length+z.ts.length)+1)=f - x.ts.length - y.ts.length - z.ts.length by omega]
theorem aid (F:Nat) (e:E) (d:e.arOk=true) {T b a:iF} {k:Nat} (f:T=b++(e.ts++a)) (i:b.length=k) (j:T.length<=800) (h:e.ts.length<=F):Fu F T (k:Int)=some (((k+e.ts.length:Nat):Int)):=by
 have g:1<=e.ts.length:=by cases e<;>simp[E.ts]
 have c:=congrArg List.length f;simp only[zA4]at c;unfold Fu Ea;rw[Q0];simp only[zA2];rw[Q0];have:=aeS F T V7 e d F k 1 b a f i V7 Q1 h;rw[if_pos Z]at this;exact this
def yA (b:V4):Int:=if b then 1 else 0
theorem yL (f:Nat) (b:V4):kB f b=some (yA b):=by cases b<;>rfl
theorem xF {a:Type} [Inhabited a] {l:V6 a} {k:Nat} (h:k<l.length):l.take (k+1)=l.take k++[at' l (k:Int)]:=by
 rw[List.take_add_one,zA0 h,kT,zA9,zA0 h];rfl
theorem i_ {a:Type} [Inhabited a] {l:V6 a} {k:Nat} (h:k<l.length):at' l (k:Int)=l[k]:=by
 rw[kT,zA9,zA0 h];rfl
theorem least {p:Nat->Prop}:∀(n:Nat),p n->∃m,m<=n/\p m/\∀j,j<m->¬p j:=by
 intro n
 induction n using Nat.strongRecOn with
 | _ n ih =>
  intro h;by_cases d:∃m,m<n/\p m
  .have⟨m,e,f⟩:=d;have⟨k,a,b,c⟩:=ih m e f;exact⟨k,V7,b,c⟩
  .exact⟨n,zAg n,h,λj g i=>d ⟨j,g,i⟩⟩
theorem XF {g:Type} [DecidableEq g]:∀(c b:V6 g),c.Nodup->(∀x∈c,x∈b)->c.length<=b.length
 | [],b,_,_=>Nat.zero_le _
 |a::c,b,h,hs=>by
  have d:=hs a zAd;have h:=zBf.1 h;have:=XF c (b.erase a) h.2 (λx f=>(List.mem_erase_of_ne (fun(e:x=a)=>h.1 (by rw[<-e];exact f))).2 (hs x (zAk _ f)));rw[List.length_erase_of_mem d]at this;have i:0<b.length:=List.length_pos_of_mem d;simp only[zAa];omega
def nz (x:Int):V4:=decide (x≠0)
theorem aaW (f:Nat) (l:aX) (h:l.length<f) (e:l.length<=1000):sY f l=some ((l.countP nz:Nat):Int):=by
 unfold sY;have:=eJ (step:=uA l) (K:=some ((l.countP nz:Nat):Int)) l.length (λk=>(((l.take k).countP nz:Nat),(k:Int))) (λk b c=>by
  have d:(l.take k).countP nz<=k:=zB6 List.countP_le_length Q1;unfold uA yB;dsimp only;rw[Q3,Q7,xF c,List.countP_append,Q8,Q8];by_cases a:at' l (k:Int)=0
  .rw[if_neg (by simpa using a)];simp[nz,a]
  .rw[if_pos a];simp[nz,a]) (λb=>by
  unfold uA BG;dsimp only;rw[Q0,List.take_length]) f h
 exact this
theorem LA (f:Nat) (l:aX) (x:Int) (h:l.length<f) (t:l.length<=1000):uL f l x=some (decide (x∈l)):=by
 have q:∃i:Int,lB f l x=some i/\(0<=i↔x∈l):=by
  by_cases b:x∈l
  .have⟨i,r,o⟩:=List.mem_iff_getElem.1 b;have a:∃i,i<l.length/\at' l (i:Int)=x/\∀j,j<i->at' l (j:Int)≠x:=by
    have⟨m,d,c,s⟩:=least (p:=λi=>at' l (i:Int)=x) i (by rw[i_ r,o]);exact⟨m,V7,c,s⟩
   have⟨i,r,d,c⟩:=a;refine⟨i,?_,iff_of_true V7 b⟩
   unfold lB;exact eJ (step:=iD l x) (K:=some (i:Int)) i (λk=>(k:Int)) (λk n g=>by
    unfold iD;rw[Q3,Q7,if_neg (λe=>c k g e.symm),Q8]) (λn=>by
    unfold iD;rw[Q3,Q7,if_pos d.symm]) f V7
  .refine⟨-1,?_,iff_of_false V7 b⟩
   unfold lB;exact eJ (step:=iD l x) (K:=some (-1)) l.length (λk=>(k:Int)) (λk n g=>by
    unfold iD;rw[Q3,Q7,if_neg (λe=>b (by rw[e,i_ g];exact List.getElem_mem g)),Q8]) (λn=>by
    unfold iD zE;rw[Q0]) f h
 have⟨i,d,c⟩:=q;unfold uL;rw[bA d];by_cases b:x∈l
 .rw[zAe b,zAe (c.2 b)]
 .rw[zA6 b,zA6 (λe=>b (c.1 e))]
def iA (l:aX):Int:=match l.findIdx? nz with
 |some i=>(i:Int)
 |none=> -1
theorem z_ {l:aX} {i:Nat} (a:i<l.length) (b:at' l (i:Int)≠0) (c:∀j,j<i->at' l (j:Int)=0):iA l=i:=by
 have:l.findIdx? nz=some i:=by
  rw[List.findIdx?_eq_some_iff_getElem];refine⟨a,by rw[<-i_ a];simpa [nz]using b,λj d=>?_⟩
  have:=c j d;rw[i_ V7]at this;simp[nz,this]
 unfold iA;rw[this]
theorem zZ {l:aX} (h:∀j,j<l.length->at' l (j:Int)=0):iA l = -1:=by
 have:l.findIdx? nz=none:=by
  rw[List.findIdx?_eq_none_iff];intro x b;obtain⟨i,a,rfl⟩:=List.mem_iff_getElem.1 b;have:=h i a;rw[i_ a]at this;simp[nz,this]
 unfold iA;rw[this]
theorem abr (f:Nat) (l:aX) (h:l.length<f) (t:l.length<=1000):oY f l (λq=>qW f q)=some (iA l):=by
 unfold oY;by_cases a:∃i,i<l.length/\at' l (i:Int)≠0
 .have⟨i,s,o⟩:=a;have⟨m,r,n,b⟩:=least (p:=λi=>at' l (i:Int)≠0) i o;have b:∀j,j<m->at' l (j:Int)=0:=λj d=>zAw.1 (b j d);rw[z_ V7 n b];exact eJ (step:=iN l _) (K:=some (m:Int)) m (λk=>(k:Int)) (λk c g=>by
   unfold iN qW;rw[Q3,Q7,bA Z,if_neg (by simp[b k g]),Q8]) (λc=>by
   unfold iN qW;rw[Q3,Q7,bA Z,if_pos (by simpa using n)]) f V7
 .have a:∀j,j<l.length->at' l (j:Int)=0:=λj d=>zAw.1 λe=>a ⟨j,d,e⟩;rw[zZ a];exact eJ (step:=iN l _) (K:=some (-1)) l.length (λk=>(k:Int)) (λk c g=>by
   unfold iN qW;rw[Q3,Q7,bA Z,if_neg (by simp[a k g]),Q8]) (λc=>by
   unfold iN rK;rw[Q0]) f h
def vV (l:aX):Int:=l.foldl min 1073741824
theorem aiB (f:Nat) (l:aX) (h:l.length<f) (c:l.length<=1000):bE (wM l) f ((1073741824:Int),(0:Int))=some (vV l):=by
 exact eJ (step:=wM l) (K:=some (vV l)) l.length (λk=>((l.take k).foldl min 1073741824,(k:Int))) (λk a b=>by
  unfold wM;dsimp only;rw[Q3,Q7,xF b,List.foldl_append,Q8];rfl) (λa=>by
  unfold wM CJ;dsimp only;rw[Q0,List.take_length];rfl) f h
theorem CN {l:aX} {x:Int} (h:x∈l):vV l<=x:=by
 have c:∀(l:aX) (a:Int),l.foldl min a<=a/\∀x∈l,l.foldl min a<=x:=by
  intro l
  induction l with
  |nil=>intro a;exact⟨Int.le_refl a,λx b=>by cases b⟩
  |cons y l e=>
   intro a;have⟨f,d⟩:=e (min a y);refine⟨by simp only[List.foldl_cons];omega,λx b=>?_⟩
   rcases zAn.1 b with rfl|b
   .simp only[List.foldl_cons];omega
   .exact d x b
 exact(c l _).2 x h
theorem Do (l:aX):vV l=1073741824\/vV l∈l:=by
 have b:∀(l:aX) (a:Int),l.foldl min a=a\/l.foldl min a∈l:=by
  intro l
  induction l with
  |nil=>intro a;exact .inl Z
  | cons y l ih =>
   intro a;rcases ih (min a y)with h|h
   .simp only[List.foldl_cons,h];rcases Int.le_total a y with q|q
    .left;omega
    .right;rw[show min a y=y by omega];exact zAd
   .right;exact zAk _ h
 exact b l _
def TF (l:aX):Nat->Nat->Nat
 |0,k=>k
 |f+1,k=>if((k:Nat):Int)∈l then TF l f (k+1)else k
def VO (l:aX):Nat:=TF l (l.length+1) 0
theorem aca (l:aX):((VO l:Nat):Int)∉l/\(∀j,j<VO l->((j:Nat):Int)∈l)/\VO l<=l.length:=by
 have key:∀(f k:Nat),(∀j,j<k->((j:Nat):Int)∈l)->(∀j,j<TF l f k->((j:Nat):Int)∈l)/\(TF l f k=k+f\/((TF l f k:Nat):Int)∉l):=by
  intro f
  induction f with
  |zero=>intro k h;exact⟨h,.inl Z⟩
  | succ f ih =>
   intro k h;by_cases hk:((k:Nat):Int)∈l
   .have:=ih (k+1) (λj hj=>by
     rcases zAx j k with q|q
     .exact h j q
     .rw[show j=k by omega];exact hk)
    simp only[TF,if_pos hk];exact⟨this.1,this.2.imp (λe=>by omega) id⟩
   .simp only[TF,if_neg hk];exact⟨h,.inr hk⟩
 have hle:∀m,(∀j,j<m->((j:Nat):Int)∈l)->m<=l.length:=λm h=>by
  have:=XF ((List.range m).map λj=>((j:Nat):Int)) l (by
   rw[List.nodup_iff_pairwise_ne,List.pairwise_map];exact(List.nodup_iff_pairwise_ne.1 List.nodup_range).imp (λh e=>h (by omega))) (λx hx=>by
   obtain⟨j,hj,rfl⟩:=zAr.1 hx;exact h j (zAj.1 hj))
  simpa using this
 obtain⟨h1,h2⟩:=key (l.length+1) 0 (λj hj=>by omega);have h3:=hle _ h1;refine⟨?_,h1,h3⟩
 rcases h2 with h2|h2
 .have:TF l (l.length+1) 0<=l.length:=h3;omega
 .exact h2
theorem aiA (f:Nat) (l:aX) (h:l.length+2<f) (hl:l.length<=900):Dl f l=some ((VO l:Nat):Int):=by
 obtain⟨h1,h2,h3⟩:=aca l;unfold Dl;exact eJ (step:=BV f l) (K:=some ((VO l:Nat):Int)) (VO l) (λk=>(k:Int)) (λk ag hk=>by
  unfold BV;rw[bA (LA f l (k:Int) (by omega) (by omega)),if_pos (by simpa using h2 k hk),cW (by omega)]) (λag=>by
  unfold BV DR;rw[bA (LA f l _ (by omega) (by omega)),if_neg (by simpa using h1)]) f (by omega)
def afS (l:aX):Int:=l.foldl (λa x=>wI .i64 (a+x)) 0
theorem aiW (f:Nat) (l:aX) (h:l.length<f) (c:l.length<=1000):bE (wN f l) f ((0:Int),(0:Int))=Ff f (afS l):=by
 refine(eJ (step:=wN f l) l.length (λk=>(afS (l.take k),(k:Int))) (λk a b=>?_) (λa=>?_) f h).trans Z
 .unfold wN;dsimp only;rw[Q3,Q7,Q8,xF b];unfold afS;rw[List.foldl_append];rfl
 .unfold wN;dsimp only;rw[Q0,List.take_length]
def Xr (o:Int) (l:aX):Int:=
 if o=20 then yA (l.all nz)else if o=21 then yA (l.any nz)else if o=22 then((l.countP nz:Nat):Int)else if o=23 then iA l else if o=24 then vV l else if o=26 then max (-1073741824) (min (afS l) 1073741824)else((VO l:Nat):Int)
theorem aeY (f:Nat) (o:Int) (l:aX) (hf:40<=f) (hl:l.length<=24) (ho:o=20\/o=21\/o=22\/o=23\/o=24\/o=26\/o=27):DT f o l=some (Xr o l):=by
 have hc:=aaW f l (by omega) (by omega);unfold DT;rcases ho with rfl|rfl|rfl|rfl|rfl|rfl|rfl
 .rw[if_pos rfl,bA hc,bA (yL f _),Xr,if_pos rfl];have:(decide (((l.countP nz:Nat):Int)=(l.length:Int)))=l.all nz:=by
   rw[Bool.eq_iff_iff];simp[List.countP_eq_length,Int.ofNat_inj]
  rw[this]
 .rw[if_neg (by decide),if_pos rfl,bA hc,bA (yL f _),Xr,if_neg (by decide),if_pos rfl];have:(decide ((0:Int)<((l.countP nz:Nat):Int)))=l.any nz:=by
   rw[Bool.eq_iff_iff,zA2,List.any_eq_true,show((0:Int)<((l.countP nz:Nat):Int))↔0<l.countP nz by omega,List.countP_pos_iff]
  rw[this]
 .rw[if_neg (by decide),if_neg (by decide),if_pos rfl,bA hc];rfl
 .rw[if_neg (by decide),if_neg (by decide),if_neg (by decide),if_pos rfl,bA (abr f l (by omega) (by omega))];rfl
 .rw[if_neg (by decide),if_neg (by decide),if_neg (by decide),if_neg (by decide),if_pos rfl,aiB f l (by omega) (by omega)];rfl
 .rw[if_neg (by decide),if_neg (by decide),if_neg (by decide),if_neg (by decide),if_neg (by decide),if_neg (by decide),if_pos rfl,aiW f l (by omega) (by omega)];rfl
 .rw[if_neg (by decide),if_neg (by decide),if_neg (by decide),if_neg (by decide),if_neg (by decide),if_neg (by decide),if_neg (by decide),if_pos rfl,bA (aiA f l (by omega) (by omega))];rfl
end Go.Proofs.YtflciafboapaaaaGreat
namespace Go.Proofs.YtflciafboapaaaaGreat
open Go.Sx
def Ck (a:Unit):V1 (Int):=
 some (-1:Int)
def yS (c:b_) (d e a:Int) (b:(Int)->V1 (Int)):V1 (Int):=
 if a<((at' c.2 d).length:Int)then(ck (0<=a/\a<((at' c.2 d).length:Int)) (if((at' (at' c.2 d) a).1)=e then(some (a))else(b (wI .i64 (a+(1:Int))))))else(Ck (()))
def mV (b:b_) (a c:Int):V1 (Int):=
 ck (0<=a/\a<(b.2.length:Int)) (bE (yS b a c) U (0:Int))
theorem WQ:aU prog 110:=call110
theorem GW {p0:b_} {p1 p2:Int} (f g:V0) (k:kI) (r:Int) (h:mV U p0 p1 p2=some r):
  aZ prog 110 #[Value.agg #[f,g],vI (p1),vI (p2)] [Sl aK f p0.1,S2 aR g k p0.2] (λx:Unit=>vI (r)) (λx l=>l) (λ_ l=>l):=by
 refine aZ.of func110 Z ntmps110 Z λc=>aT<|aI (aN.box (cs:=[f,g]) Z Z) Z λn=>Q5 Z<|aL<|fV (λe=>Ck e=some r) (λe i=>[]) (λe i=>[]) ?_ ?_
 .refine aT<|bZ Z<|dO 0 Z<|aA Z<|dQ h λb h=>aB (bX Z Z (n_ Z) Z Z b) Z<|aB (cB Z (n_ Z) Z Z b) Z<|aB (eW Z (zBk (n_ Z) b.1 b.2) Z) Z<|aA Z<|aO<|aQ<|fT (yS p0 p1 p2) (λa j=>[(2,vI (p2)),(13,(at' k p1).1),(14,vI ((at' p0.2 p1).length:Int)),(15,vI (a))]) (λa j=>[]) (0:Int) () h SF .nil ?_;intro o a j h;refine aT<|cN Z<|aO<|aL<|gC h Z (λh=>?_) λh=>?_
  .refine cU<|aL<|aQ<|Q6 Z<|dQ h λd h=>aB (bD Z Z (zBk (n_ Z) b.1 b.2) Z Z d) Z<|aB (fG (cs:=[vI ((at' (at' p0.2 p1) a).1),vI ((at' (at' p0.2 p1) a).2)]) Z (zBk (n_ Z) b.1 b.2) cA Z Z Z Z d) Z<|aI (aN.alloc (cs:=MN) Z Z) Z λm=>aC Z<|bP 0 (vs:=[vI ((at' (at' p0.2 p1) a).1),vI ((at' (at' p0.2 p1) a).2)]) Z Z Z Z Z Z<|aO<|aT<|bZ Z<|dO 0 Z<|aA Z<|d_ Z<|aO<|gC h Z (λh=>?_) λh=>?_
   .refine Q6 Z<|Q5 Z<|aV<|bU<|aM<|aM<|bU<|aM ?_;cases h;exact uC Z
   exact eK<|mF<|aP<|cH Z<|aA Z<|aO<|gA (wI .i64 (a+(1:Int))) () h SF .nil (aD.refl _ _)
  exact fH<|jV () (()) h SF Z
 intro e i h;unfold Ck at h;refine Q4 Z<|aV ?_;cases h;exact oA Z
def oW (U:Nat) (a:ByteArray) (b c d:Int):V1 ((ByteArray×Int×Int×Int×Int×Int)):=
 some ((a,(1:Int),(0:Int),b,c,d))
theorem Nj:aU prog 45:=call45
theorem wD {a:ByteArray} {b d e:Int} (r:Yf) (h:oW U a b d e=some r):
  aZ prog 45 #[vS (a),vI (b),vI (d),vI (e)] [] (λx:Unit=>Value.agg #[vS (r.1),vI (r.2.1),vI (r.2.2.1),vI (r.2.2.2.1),vI (r.2.2.2.2.1),vI (r.2.2.2.2.2)]) (λx l=>l) (λ_ l=>l):=by
 refine aZ.of func45 Z ntmps45 Z λc=>?_;unfold oW at h;refine aT<|aI (aN.alloc (cs:=vD2) Z Z) Z λf=>aO<|Q6 Z<|aA Z<|aA Z<|aA Z<|aB (Y.bld5 (r:=Value.agg #[vS (a),vI (1:Int),vI (0:Int),vI (b),vI (d),vI (e)]) Z Z Z Z Z (by intro w;simp[Instr.build,Instr.fill,dU,c_,cO,dV,dW,dC,eV])) Z ?_;refine bP 0 (vs:=[vS (a),vI (1:Int),vI (0:Int),vI (b),vI (d),vI (e)]) Z Z Z Z Z Z<|aO<|aV ?_;cases h;exact fD () Z Z (RV.cell 0 Z Z Z Z) .nil aD.nil
def p_ (U:Nat) (a:ByteArray):V1 ((ByteArray×Int×Int×Int×Int×Int)):=
 some ((a,(3:Int),(0:Int),(0:Int),(0:Int),(0:Int)))
theorem QP:aU prog 46:=call46
theorem zF {a:ByteArray} (r:Yf) (h:p_ U a=some r):
  aZ prog 46 #[vS (a)] [] (λx:Unit=>Value.agg #[vS (r.1),vI (r.2.1),vI (r.2.2.1),vI (r.2.2.2.1),vI (r.2.2.2.2.1),vI (r.2.2.2.2.2)]) (λx l=>l) (λ_ l=>l):=by
 refine aZ.of func46 Z ntmps46 Z λc=>?_;unfold p_ at h;refine aT<|aI (aN.alloc (cs:=vD2) Z Z) Z λb=>aO<|Q6 Z<|aB (EZ (r:=Value.agg #[vS (a),vI (3:Int),vI (0:Int),vI (0:Int),vI (0:Int),vI (0:Int)]) Z Z (by intro w;simp[Instr.build,Instr.fill,dU,c_,cO,dV,dW,dC,eV])) Z ?_;refine bP 0 (vs:=[vS (a),vI (3:Int),vI (0:Int),vI (0:Int),vI (0:Int),vI (0:Int)]) Z Z Z Z Z Z<|aO<|aV ?_;cases h;exact fD () Z Z (RV.cell 0 Z Z Z Z) .nil aD.nil
def Fo : V1 Yb:=
 Option.bind (oW U (ByteArray.mk #[100]) (0:Int) (1:Int) (0:Int)) λa=>(Option.bind (p_ U (ByteArray.mk #[112])) λb=>(some ([(a.1,a.2.1,a.2.2.1,a.2.2.2.1,a.2.2.2.2.1,a.2.2.2.2.2),(b.1,b.2.1,b.2.2.1,b.2.2.2.1,b.2.2.2.2.1,b.2.2.2.2.2)])))
theorem ahm:aU prog 12:=call12
theorem RR (r:Yc) (h:Fo U = some r):
  aZ prog 12 #[] [] (λx:V0=>x) (λx l=>Ar fJ x r::l) (λ_ l=>l):=by
 refine aZ.of func12 Z ntmps12 Z λc=>Q4 Z<|aT<|fF h λa f h=>aI (zBj Nj (wD U a f) Z .nil) Z λi=>fF h λb g h=>aI (zBj QP (zF U b g) Z .nil) Z λj=>aI (cC (e:=fJ) ([((a.1,a.2.1,a.2.2.1,a.2.2.2.1,a.2.2.2.2.1,a.2.2.2.2.2)),((b.1,b.2.1,b.2.2.1,b.2.2.2.1,b.2.2.2.2.1,b.2.2.2.2.2))]) [(0,Value.agg #[vS (a.1),vI (a.2.1),vI (a.2.2.1),vI (a.2.2.2.1),vI (a.2.2.2.2.1),vI (a.2.2.2.2.2)]),(1,Value.agg #[vS (b.1),vI (b.2.1),vI (b.2.2.1),vI (b.2.2.2.1),vI (b.2.2.2.2.1),vI (b.2.2.2.2.2)])] Z Z Z Z (Ny (vS (a.1)) (vI (a.2.1)) (vI (a.2.2.1)) (vI (a.2.2.2.1)) (vI (a.2.2.2.2.1)) (vI (a.2.2.2.2.2)) (vS (b.1)) (vI (b.2.1)) (vI (b.2.2.1)) (vI (b.2.2.2.1)) (vI (b.2.2.2.2.1)) (vI (b.2.2.2.2.2))) Z Z Z) Z λd=>Q5 Z<|aV ?_;cases h;exact fD (d) Z Z (RV.tmp Z) (aS.refl _) aD.nil
def yT (a:aX):V1 aX:=
 some (a)
def tJ (c:Int×aX×aX) (b:(Int×aX×aX)->V1 aX) (a:aX×aX):V1 aX:=
 b ((wI .i64 (c.1+(1:Int))),a.1,a.2)
def tK (c:b_) (b:aX×aX) (e:(aX×aX)->V1 aX) (a:Int×aX×aX) (d:(Int×aX×aX)->V1 aX):V1 aX:=
 if a.1<((at' c.2 (at' b.1 (0:Int))).length:Int)then(ck (0<=a.1/\a.1<((at' c.2 (at' b.1 (0:Int))).length:Int)) (ck (0<=((at' (at' c.2 (at' b.1 (0:Int))) a.1).1)/\((at' (at' c.2 (at' b.1 (0:Int))) a.1).1)<(a.2.2.length:Int)) (if(at' a.2.2 ((at' (at' c.2 (at' b.1 (0:Int))) a.1).1))<(0:Int)then(ck (0<=(at' b.1 (0:Int))/\(at' b.1 (0:Int))<(a.2.2.length:Int)) (ck (0<=((at' (at' c.2 (at' b.1 (0:Int))) a.1).1)/\((at' (at' c.2 (at' b.1 (0:Int))) a.1).1)<(a.2.2.length:Int)) (ck ((a.2.1.length:Int)+(List.length ([((at' (at' c.2 (at' b.1 (0:Int))) a.1).1)]):Int)<=1099511627) (tJ a d ((a.2.1++([((at' (at' c.2 (at' b.1 (0:Int))) a.1).1)])),(List.set a.2.2 (Int.toNat ((at' (at' c.2 (at' b.1 (0:Int))) a.1).1)) (wI .i64 ((at' a.2.2 (at' b.1 (0:Int)))+(1:Int)))))))))else(tJ a d (a.2.1,a.2.2)))))else(e (a.2.1,a.2.2))
def pZ (c:b_) (a:aX×aX) (b:(aX×aX)->V1 aX):V1 aX:=
 if(0:Int)<(a.1.length:Int)then(ck (0<=(0:Int)/\(0:Int)<(a.1.length:Int)) (ck (0<=(1:Int)/\(1:Int)<=(a.1.length:Int)) (ck (0<=(at' a.1 (0:Int))/\(at' a.1 (0:Int))<(c.2.length:Int)) (bE (tK c a b) U ((0:Int),(List.drop (Int.toNat (1:Int)) a.1),a.2)))))else(yT (a.2))
def Cm (c:b_) (a:Int) (b:aX):V1 aX:=
 ck (0<=a/\a<(b.length:Int)) (bE (pZ U c) U (([a]),(List.set b (Int.toNat a) (0:Int))))
def Cn (c:b_) (d:Int) (a:nD) (b:tV->V1 aX):V1 aX:=
 if a.1<((List.replicate (Int.toNat (List.length c.2:Int)) (0:Int)).length:Int)then(ck (0<=a.1/\a.1<(a.2.length:Int)) (b ((wI .i64 (a.1+(1:Int))),(List.set a.2 (Int.toNat a.1) (-1:Int)))))else(Cm U c d (a.2))
def jY (a:b_) (b:Int):V1 aX:=
 ck (0<=(a.2.length:Int)/\(a.2.length:Int)<=1099511627) (bE (Cn U a b) U ((0:Int),(List.replicate (Int.toNat (a.2.length:Int)) (0:Int))))
theorem QN:aU prog 176:=call176
theorem Dx (U:Nat) {m:b_} {q:Int} (L M:V0) (T:kI) (r:aX) (h:jY U m q=some r):
  aZ prog 176 #[Value.agg #[L,M],vI (q)] [Sl aK L m.1,S2 aR M T m.2] (λx:V0=>x) (λx l=>Ar cY x r::l) (λ_ l=>l):=by
 let H:=(List.replicate (Int.toNat (m.2.length:Int)) (0:Int))
 refine aZ.of func176 Z ntmps176 Z λc=>?_;refine aT<|aI (aN.box (cs:=[L,M]) Z Z) Z λv=>let s:=bG v [L,M] 31;aC Z<|aO<|aT<|bZ Z<|dO 0 Z<|aB (fR Z (n_ Z) Z) Z<|dQ h λY h=>aI (sV (e:=cY) (0:Int) Z Z Z Z Y Z Z Z) Z λn=>aC Z<|aO<|aL<|fV (λu=>Cm U m q u=some r) (λu V=>[(1,vI (q)),(2,vP v),(5,n)]) (λu V=>[Ar cY n u,s]) ?_ ?_
 .refine aT<|aA Z<|aB (eW Z (bI (aH.res 0 Z) eP) Z) Z<|aA Z<|aO<|aQ<|fT (Cn U m q) (λf y=>[(1,vI (q)),(2,vP v),(5,n),(16,vI (H.length:Int)),(17,vI (f.1))]) (λf y=>[Ar cY n f.2,s]) ((0:Int),H) () h SF (aS.refl _) ?_;intro aa f y h;refine aT<|cN Z<|aO<|aL ?_;refine gC h Z (λh=>?_) λh=>?_
  .refine cU<|aL<|aQ<|aT<|aA Z<|aC Z<|aO<|aP<|aA Z<|aA Z<|dQ h λG h=>aB (bD Z Z (bI (aH.res 0 Z) eP) Z Z G) Z<|xX 0 (-1:Int) G Z Z Z Z Z Z Z<|fC<|mF<|aP<|cH Z<|aA Z<|aO ?_;exact Ci ((wI .i64 (f.1+(1:Int))),(List.set f.2 (Int.toNat f.1) (-1:Int))) () h SF Z
  refine fH ?_;exact jV (f.2) () h SF Z
 intro u V h;refine aT<|aA Z<|aA Z<|dQ h λW h=>aB (bD Z Z (bI (aH.res 0 Z) eP) Z Z W) Z<|xX 0 (0:Int) W Z Z Z Z Z Z Z<|aO<|aT<|aA Z<|aI (cC (e:=cY) ([q]) [(0,vI (q))] Z Z Z Z (kY (vI (q)) Z) Z Z Z) Z λu8=>aC Z<|aO<|aL<|fV (λo=>yT o=some r) (λo w=>[(5,n)]) (λo w=>[Ar cY n o]) ?_ ?_
 .refine aQ<|fT (B:=V0) (pZ U m) (λb t=>[(2,vP v),(5,n),(7,t)]) (λb t=>[Ar cY t b.1,Ar cY n b.2,s]) (([q]),(List.set u (Int.toNat q) (0:Int))) (u8) h SF (aS.refl _) ?_;intro P b t h;let K:=(tK m b (bE (pZ U m) P))
  let j:=(at' b.1 (0:Int))
  let J:=vI ((at' m.2 j).length:Int);refine aL<|aT<|aA Z<|aB (eW Z (bI (aH.res 0 Z) eP) Z) Z<|aB (zW Z Z) Z<|aO ?_;refine gC h Z (λh=>?_) λh=>?_
  .refine cU<|aQ<|aT<|aA Z<|dQ h λA h=>aB (bD Z Z (bI (aH.res 0 Z) eP) Z Z A) Z<|aB (bY Z (bI (aH.res 0 Z) eP) Z Z Z dJ A) Z<|aC Z<|aO<|aT<|aA Z<|dQ h λN h=>aI (SB 0 N Z Z Z Z Z Z) Z λR=>aC Z<|aO<|aT<|bZ Z<|dO 2 Z<|aA Z<|dQ h λg h=>aB (bX Z Z (n_ Z) Z Z g) Z<|aB (cB Z (n_ Z) Z Z g) Z<|aB (eW Z (zBk (n_ Z) g.1 g.2) Z) Z<|aA Z<|aO<|aQ<|fT (B:=V0) K (λa k=>[(2,vP v),(5,n),(7,k),(8,vI j),(41,(at' T j).1),(42,J),(43,vI (a.1))]) (λa k=>[Ar cY k a.2.1,Ar cY n a.2.2,s]) ((0:Int),(List.drop (Int.toNat (1:Int)) b.1),b.2) (R) h SF (aS.refl _) ?_;intro Q a k h;let I:=(wI .i64 ((at' a.2.2 j)+(1:Int)))
   let i:=(at' (at' m.2 j) a.1)
   refine aT<|cN Z<|aO<|aL ?_;refine gC h Z (λh=>?_) λh=>?_
   .refine cU<|aL<|HU (B:=V0) (λd=>tJ a (bE K Q) d=some r) (λd p=>[(2,vP v),(5,n),(7,p),(8,vI j),(41,(at' T j).1),(42,J),(43,vI (a.1))]) (λd p=>[Ar cY p d.1,Ar cY n d.2,s]) ?_ ?_
    .refine aQ<|aT<|dQ h λC h=>aB (bD Z Z (zBk (n_ Z) g.1 g.2) Z Z C) Z<|aB (fG (cs:=[vI (i.1),vI (i.2)]) Z (zBk (n_ Z) g.1 g.2) cA Z Z Z Z C) Z<|aI (aN.alloc (cs:=MN) Z Z) Z λX=>bP 0 (vs:=[vI ((at' (at' m.2 (at' b.1 (0:Int))) a.1).1),vI ((at' (at' m.2 (at' b.1 (0:Int))) a.1).2)]) Z Z Z Z Z Z<|aO<|aT<|aA Z<|bZ Z<|dO 0 Z<|dQ h λD h=>aB (bD Z Z (bI (aH.res 2 Z) eP) Z Z D) Z<|aB (bY Z (bI (aH.res 2 Z) eP) Z Z Z dJ D) Z<|cN Z<|aO ?_;refine gC h Z (λh=>?_) λh=>?_
     .refine aL ?_;refine Bf [0,0,2,0,0,24,56,120,255,511] 8 mixedOrders ?_;refine bM Z<|cT Z<|gN 0 Z<|bM Z<|bM Z<|dQ h λE h=>aY Z (aS.cons 2 Z .nil) .nil (bD Z Z (bI (aH.res 0 Z) eP) Z Z E) aJ.z<|aY Z (aS.cons 2 Z .nil) .nil (bY Z (bI (aH.res 0 Z) eP) Z Z Z dJ E) aJ.z<|jS Z (Ak Z Z)<|bS 8 Z Z<|dQ h λF h=>aB (bD Z Z (bI (aH.res 2 Z) eP) Z Z F) Z<|xX 2 I F Z Z Z Z Z Z Z<|aO<|aP<|aA Z<|bZ Z<|dO 0 Z<|aI (cC (e:=cY) ([(i.1)]) [(0,vI (i.1))] Z Z Z Z (kY (vI (i.1)) Z) Z Z Z) Z λab=>dQ h λO h=>aI (gU 2 eP Z Z Z (bI (aH.res 0 Z) eP) Z Z Z Z O Z) Z λS=>aC Z<|fC<|mF ?_;exact cD ((a.2.1++([(i.1)])),(List.set a.2.2 (Int.toNat (i.1)) I)) (S) h SF (aS.ix [2,3,4] Z Z) (aD.refl _ _)
     refine eK<|mF ?_;exact cD (a.2.1,a.2.2) (k) h SF (aS.ix [1,2,3] Z Z) (aD.refl _ _)
    intro d p h;unfold tJ at h;refine aP<|cH Z<|aA Z<|aO ?_;exact Ci ((wI .i64 (a.1+(1:Int))),d.1,d.2) (p) h SF Z
   refine sS<|fU<|fU<|Aj<|mF ?_;exact Ci (a.2.1,a.2.2) (k) h SF Z
  refine fH ?_;exact cD (b.2) () h SF (aS.ix [1] Z Z) (aD.refl _ _)
 intro o w h;unfold yT at h;refine aT<|aA Z<|aC Z<|aO<|aV ?_;cases h;exact fD (n) Z Z (RV.tmp Z) (aS.refl _) aD.nil
def sW (a:Unit):V1 V4:=
 some (true)
def lX (c:aX) (a:Int) (b:(Int)->V1 V4):V1 V4:=
 if a<(c.length:Int)then(ck (0<=a/\a<(c.length:Int)) (if(at' c a)<(0:Int)then(some (false))else(b (wI .i64 (a+(1:Int))))))else(sW (()))
def cX (a:b_):V1 V4:=
 Option.bind (gO U ((a.1,a.2))) λb=>(if(!b)=true then(some (false))else(Option.bind (jY U ((a.1,a.2)) (0:Int)) λc=>(bE (lX c) U (0:Int))))
theorem Jl:aU prog 174:=call174
theorem qR {k:b_} (e f:V0) (m:kI) (r:V4) (h:cX U k=some r):
  aZ prog 174 #[Value.agg #[e,f]] [Sl aK e k.1,S2 aR f m k.2] (λx:Unit=>vB (r)) (λx l=>l) (λ_ l=>l):=by
 refine aZ.of func174 Z ntmps174 Z λc=>aT<|aI (aN.box (cs:=[e,f]) Z Z) Z λt=>Q5 Z<|aL<|aT<|cL 0 Z<|fF h λp q h=>aI (zBj Nl (yK U e f m p q) Z (jJ [0,1] Z)) Z λu=>aB (nY Z) Z<|aO<|Ag h Z (λ_ h=>?_) λ_ h=>?_
 .refine Q4 Z<|aV<|aM ?_;cases h;exact uC Z
 refine cU<|aL<|fV (λi=>sW i=some r) (λi n=>[]) (λi n=>[]) ?_ ?_
 .refine aT<|cL 0 Z<|fF h λj s h=>aI (zBj QN (Dx U e f m j s) Z (jJ [0,1] Z)) Z λg=>aB (eW Z (bI (aH.res 0 Z) eP) Z) Z<|aA Z<|aO<|aQ<|fT (lX j) (λa b=>[(9,g),(10,vI (j.length:Int)),(11,vI (a))]) (λa b=>[Ar cY g j]) (0:Int) () h SF (aS.ix [0] Z Z) ?_;intro o a b h;refine aT<|cN Z<|aO<|aL<|gC h Z (λh=>?_) λh=>?_
  .refine cU<|aL<|aQ<|aT<|dQ h λd h=>aB (bD Z Z (bI (aH.res 0 Z) eP) Z Z d) Z<|aB (bY Z (bI (aH.res 0 Z) eP) Z Z Z dJ d) Z<|Q5 Z<|Q6 Z<|cN Z<|aO<|gC h Z (λh=>?_) λh=>?_
   .refine Q4 Z<|aV<|bU<|aM<|aM<|bU<|aM ?_;cases h;exact uC Z
   exact eK<|mF<|aP<|cH Z<|aA Z<|aO<|Ci (wI .i64 (a+(1:Int))) () h SF Z
  exact fH<|cD () (()) h SF .nil (aD.refl _ _)
 intro i n h;unfold sW at h;refine Q4 Z<|aV ?_;cases h;exact oA Z
def EE (a:b_):V1 V4:=
 Option.bind (cX U ((a.1,a.2))) λb=>(some (b))
theorem WR:aU prog 124:=call124
theorem Qa {d:b_} (a b:V0) (e:kI) (r:V4) (h:EE U d=some r):
  aZ prog 124 #[Value.agg #[a,b]] [Sl aK a d.1,S2 aR b e d.2] (λx:Unit=>vB (r)) (λx l=>l) (λ_ l=>l):=by
 refine aZ.of func124 Z ntmps124 Z λc=>aT<|aI (aN.box (cs:=[a,b]) Z Z) Z λi=>Q5 Z<|aT<|cL 0 Z<|fF h λf g h=>aI (zBj Jl (qR U a b e f g) Z (jJ [0,1] Z)) Z λj=>Q5 Z<|aV ?_;cases h;exact uC Z
def uJ (a:Int):V1 (Int):=
 some (a)
def Av (c:aX) (a:e_) (b:iU->V1 (Int)):V1 (Int):=
 if a.2<(c.length:Int)then(ck (0<=a.2/\a.2<(c.length:Int)) (b ((max a.1 (at' c a.2)),(wI .i64 (a.2+(1:Int))))))else(uJ (a.1))
def oE (a:aX):V1 (Int):=
 bE (Av a) U ((-1:Int),(0:Int))
theorem aez:aU prog 175:=call175
theorem Lg {e:aX} (f:V0) (r:Int) (h:oE U e=some r):
  aZ prog 175 #[f] [Sl aK f e] (λx:Unit=>vI (r)) (λx l=>l) (λ_ l=>l):=by
 refine aZ.of func175 Z ntmps175 Z λc=>?_;unfold oE at h;refine Q4 Z<|Q4 Z<|aL<|fV (λb=>uJ b=some r) (λb g=>[(3,vI (b))]) (λb g=>[]) ?_ ?_
 .refine Q6 Z<|jH (cP Z) Z<|aA Z<|aO<|aQ<|fT (Av e) (λa i=>[(3,vI (a.1)),(6,f),(7,vI (e.length:Int)),(8,vI (a.2))]) (λa i=>[]) ((-1:Int),(0:Int)) () h SF (aS.refl _) ?_;intro j a i h;refine aT<|cN Z<|aO<|aL<|gC h Z (λh=>?_) λh=>?_
  .exact cU<|aL<|aQ<|aT<|dQ h λd h=>aB (bD Z Z (cP Z) Z Z d) Z<|aB (bY Z (cP Z) Z Z Z dJ d) Z<|Q5 Z<|aP<|aA Z<|aA Z<|aB (Lw Z Z) Z<|aC Z<|fC<|mF<|aP<|cH Z<|aA Z<|aO<|Ci ((max a.1 (at' e a.2)),(wI .i64 (a.2+(1:Int)))) () h SF Z
  exact fH<|jV (a.1) () h SF Z
 intro b g h;unfold uJ at h;refine Q6 Z<|Q5 Z<|aV ?_;cases h;exact oA Z
def lS (a:b_) (c:Int) (b:V4):V1 (Int):=
 if b=true then(some (-1:Int))else(Option.bind (jY U ((a.1,a.2)) c) λd=>(Option.bind (oE U d) λe=>(some (e))))
def jE (a:b_) (b:Int):V1 (Int):=
 Option.bind (cX U ((a.1,a.2))) λc=>(if(!c)=true then(lS U a b (true))else(if b<(0:Int)then(lS U a b (true))else(lS U a b (decide ((a.2.length:Int)<=b)))))
theorem WS:aU prog 125:=call125
theorem Cc {f:b_} {g:Int} (b d:V0) (m:kI) (r:Int) (h:jE U f g=some r):
  aZ prog 125 #[Value.agg #[b,d],vI (g)] [Sl aK b f.1,S2 aR d m f.2] (λx:Unit=>vI (r)) (λx l=>l) (λ_ l=>l):=by
 refine aZ.of func125 Z ntmps125 Z λc=>aT<|aI (aN.box (cs:=[b,d]) Z Z) Z λn=>Q5 Z<|aL<|aL<|fV (λe=>lS U f g e=some r) (λe o=>[(1,vI (g)),(2,vP n),(18,vB (e))]) (λe o=>[bG n [b,d] 31]) ?_ ?_
 .refine aP<|cL 0 Z<|fF h λi k h=>aI (zBj Jl (qR U b d m i k) Z (jJ [0,1] Z)) Z λu=>aB (nY Z) Z<|aA Z<|Ai (by exact rfl) (by exact rfl) (λa=>?_) (λa=>?_)
  .have h:=ME a h;exact aW Z<|aW Z<|gT Z<|aA Z<|aW Z<|aW Z<|aW Z<|aW Z<|aW Z<|gT Z<|aO<|jV (true) () h SF Z
  have h:=Jy a h;refine gW Z<|bB Z (Ew Z Z) Z<|iV Z<|aA Z<|IX h Z (λ_ h=>?_) λ_ h=>?_
  .exact aW Z<|aW Z<|aW Z<|aW Z<|aW Z<|gT Z<|aO<|jV (true) () h SF Z
  exact gW Z<|bB Z (dN Z Z Z Z Z) Z<|bB Z (eI 0 Z Z Z Z Z) Z<|bB Z (fR Z (n_ Z) Z) Z<|bB Z (Ev Z Z) Z<|iV Z<|aO<|jV (decide ((f.2.length:Int)<=g)) () h SF Z
 intro e o h;refine Ag h Z (λ_ h=>?_) λ_ h=>?_
 .refine Q4 Z<|aV<|aM ?_;cases h;exact uC Z
 refine cU<|aT<|cL 0 Z<|aA Z<|fF h λp s h=>aI (zBj QN (Dx U b d m p s) Z (jJ [0,1] Z)) Z λv=>fF h λq j h=>aI (zBj aez (Lg U v q j) Z (aD.cons (bI (aH.res 0 Z) eP) .nil)) Z λt=>Q5 Z<|aV ?_;cases h;exact uC Z
def lY (a:b_) (c:Int) (b:V4):V1 aX:=
 if b=true then(some ([]:aX))else(Option.bind (jY U ((a.1,a.2)) c) λd=>(some (d)))
def gJ (a:b_) (b:Int):V1 aX:=
 Option.bind (gO U ((a.1,a.2))) λc=>(if(!c)=true then(lY U a b (true))else(if b<(0:Int)then(lY U a b (true))else(lY U a b (decide ((a.2.length:Int)<=b)))))
theorem W_:aU prog 135:=call135
theorem DY {f:b_} {g:Int} (b d:V0) (j:kI) (r:aX) (h:gJ U f g=some r):
  aZ prog 135 #[Value.agg #[b,d],vI (g)] [Sl aK b f.1,S2 aR d j f.2] (λx:V0=>x) (λx l=>Ar cY x r::l) (λ_ l=>l):=by
 refine aZ.of func135 Z ntmps135 Z λc=>aT<|aI (aN.box (cs:=[b,d]) Z Z) Z λk=>Q5 Z<|aL<|aL<|fV (λe=>lY U f g e=some r) (λe m=>[(1,vI (g)),(2,vP k),(18,vB (e))]) (λe m=>[bG k [b,d] 31]) ?_ ?_
 .refine aP<|cL 0 Z<|fF h λo i h=>aI (zBj Nl (yK U b d j o i) Z (jJ [0,1] Z)) Z λq=>aB (nY Z) Z<|aA Z<|Ai (by exact rfl) (by exact rfl) (λa=>?_) (λa=>?_)
  .have h:=ME a h;exact aW Z<|aW Z<|gT Z<|aA Z<|aW Z<|aW Z<|aW Z<|aW Z<|aW Z<|gT Z<|aO<|jV (true) () h SF Z
  have h:=Jy a h;refine gW Z<|bB Z (Ew Z Z) Z<|iV Z<|aA Z<|IX h Z (λ_ h=>?_) λ_ h=>?_
  .exact aW Z<|aW Z<|aW Z<|aW Z<|aW Z<|gT Z<|aO<|jV (true) () h SF Z
  exact gW Z<|bB Z (dN Z Z Z Z Z) Z<|bB Z (eI 0 Z Z Z Z Z) Z<|bB Z (fR Z (n_ Z) Z) Z<|bB Z (Ev Z Z) Z<|iV Z<|aO<|jV (decide ((f.2.length:Int)<=g)) () h SF Z
 intro e m h;refine Ag h Z (λ_ h=>?_) λ_ h=>?_
 .refine Q4 Z<|aV<|aM<|cQ (iJ cY) ?_;cases h;exact fD (eB) Z Z (RV.tmp Z) (aS.ix [0] Z Z) aD.nil
 refine cU<|aT<|cL 0 Z<|aA Z<|fF h λn p h=>aI (zBj QN (Dx U b d j n p) Z (jJ [0,1] Z)) Z λs=>Q5 Z<|aV ?_;cases h;exact fD (s) Z Z (RV.tmp Z) (aS.ix [0] Z Z) aD.nil
def vF (a:Unit):V1 V4:=
 some (true)
def mR (c:Int) (a:(Int)->V1 V4) (b:Unit):V1 V4:=
 a (wI .i64 (c+(1:Int)))
def jB (b:Int) (a:(Int)->V1 V4) (c:V4):V1 V4:=
 if c=true then(some (false))else(a (wI .i64 (b+(1:Int))))
def jA (e:bJ) (d a:Int) (b:(Int)->V1 V4) (c:e_):V1 V4:=
 if(at' (at' e d) a)<c.1 then(jB a b (true))else(jB a b (decide (c.2<(at' (at' e d) a))))
def eG (g:b_) (d:bJ) (f:aX) (b:Int) (e:(Int)->V1 V4) (a:Int) (c:(Int)->V1 V4):V1 V4:=
 if a<((at' d b).length:Int)then(ck (0<=a/\a<((at' d b).length:Int)) (ck (0<=a/\a<(f.length:Int)) (if(at' f a)=(-1:Int)then(ck (0<=b/\b<(g.2.length:Int)) (jA d b a c ((-1:Int),(wI .i64 (((at' g.2 b).length:Int) - (1:Int))))))else(jA d b a c ((0:Int),(at' f a))))))else(mR b e (()))
def hZ (e:b_) (b:bJ) (d:aX) (a:Int) (c:(Int)->V1 V4):V1 V4:=
 if a<(b.length:Int)then(ck (0<=a/\a<(b.length:Int)) (if((at' b a).length:Int)≠(d.length:Int)then(some (false))else(bE (eG e b d a c) U (0:Int))))else(vF (()))
def eS (a:b_) (b:bJ) (c:aX):V1 V4:=
 if(b.length:Int)≠(a.1.length:Int)then(some (false))else(bE (hZ U a b c) U (0:Int))
theorem Mv:aU prog 143:=call143
theorem rM (U:Nat) {u:b_} {m:bJ} {E:aX} (G H:V0) (M:kI) (q:V0) (I:mC) (s:V0) (r:Bool) (h:eS U u m E=some r):
  aZ prog 143 #[Value.agg #[G,H],q,s] [Sl aK G u.1,S2 aR H M u.2,S2 aK q I m,Sl aK s E] (λx:Unit=>vB (r)) (λx l=>l) (λ_ l=>l):=by
 let p:=(hZ U u m E)
 let g:=vI (m.length:Int);refine aZ.of func143 Z ntmps143 Z λc=>?_;refine aT<|aI (aN.box (cs:=[G,H]) Z Z) Z λt=>let i:=bG t [G,H] 31;aC Z<|aO<|aL<|aT<|aA Z<|aB (fR Z (uI Z) Z) Z<|bZ Z<|dO 0 Z<|jH (cP Z) Z<|tT Z<|aO ?_
 refine gC h Z (λh=>?_) λh=>?_
 .refine aT<|aC Z<|aO<|aV<|aM ?_;cases h;exact uC Z
 refine cU<|aL<|fV (λF=>vF F=some r) (λF J=>[]) (λF J=>[]) ?_ ?_
 .refine aT<|aA Z<|aB (fR Z (uI Z) Z) Z<|aA Z<|aO<|aQ<|fT p (λb K=>[(2,s),(3,vP t),(19,q),(20,g),(21,vI (b))]) (λb K=>[i]) (0:Int) () h SF (aS.refl _) ?_;intro L b K h;let o:=vI ((at' m b).length:Int);let n:=(eG u m E b (bE p L))
  refine aT<|cN Z<|aO<|aL ?_;refine gC h Z (λh=>?_) λh=>?_
  .refine cU<|aL<|fV (λj=>mR b (bE p L) j=some r) (λj v=>[(2,s),(3,vP t),(19,q),(20,g),(21,vI (b))]) (λj v=>[i]) ?_ ?_
   .refine aQ<|aT<|aA Z<|dQ h λd h=>aB (bX Z Z (uI Z) Z Z d) Z<|aB (cB Z (uI Z) Z Z d) Z<|aC Z<|aC Z<|aO<|aL<|aT<|aA Z<|aB (eW Z (zBk (uI Z) d.1 d.2) Z) Z<|aA Z<|jH (DJ Z) Z<|tT Z<|aO ?_;refine gC h Z (λh=>?_) λh=>?_
    .refine aT<|aC Z<|aO<|aV<|aM<|bU<|aM<|aM<|bU<|aM ?_;cases h;exact uC Z
    refine cU<|aT<|aA Z<|aB (eW Z (zBk (uI Z) d.1 d.2) Z) Z<|aA Z<|aO<|aQ<|fT n (λa w=>[(2,s),(3,vP t),(7,vI (b)),(19,q),(20,g),(21,vI (b)),(31,(at' I b).1),(32,o),(33,vI (a))]) (λa w=>[i]) (0:Int) () h SF (aS.refl _) ?_;intro D a w h;refine aT<|cN Z<|aO<|aL ?_;refine gC h Z (λh=>?_) λh=>?_
    .refine cU<|aL<|aQ<|aT<|aA Z<|dQ h λB h=>aB (bD Z Z (zBk (uI Z) d.1 d.2) Z Z B) Z<|aB (bY Z (zBk (uI Z) d.1 d.2) Z Z Z dJ B) Z<|aC Z<|aC Z<|aO<|aL ?_;refine Bf [0,0,3,7,0,31] 5 mixedOrders ?_;refine bM Z<|bM Z<|dQ h λC h=>aY Z .nil (iH 3 Z) (bD Z Z (cP Z) Z Z C) aJ.z<|aY Z .nil (iH 3 Z) (bY Z (cP Z) Z Z Z dJ C) aJ.z<|jS Z (oK Z)<|bS 5 Z Z<|aC Z<|aO<|aL<|fV (λe=>jA m b a (bE n D) e=some r) (λe y=>[(2,s),(3,vP t),(7,vI (b)),(10,vI (at' (at' m b) a)),(11,vI (e.1)),(12,vI (e.2)),(19,q),(20,g),(21,vI (b)),(31,(at' I b).1),(32,o),(33,vI (a))]) (λe y=>[i]) ?_ ?_
     .refine aT<|aA Z<|d_ Z<|aO ?_;refine gC h Z (λh=>?_) λh=>?_
      .refine Bf [0,1,0,7,15,31,63,0,255] 8 mixedOrders ?_;refine cT Z<|gN 0 Z<|bM Z<|dQ h λk h=>aY Z .nil (iH 1 Z) (bX Z Z (cP Z) Z Z k) aJ.z<|aY Z .nil (iH 1 Z) (cB Z (cP Z) Z Z k) aJ.z<|aY Z .nil (iH 1 Z) (eW Z (zBk (cP Z) k.1 k.2) Z) aJ.z<|jS Z (zM Z Z)<|jS Z (oK Z)<|bS 8 Z Z<|aC Z<|aO ?_;exact jV ((-1:Int),(wI .i64 (((at' u.2 b).length:Int) - (1:Int)))) () h SF Z
      refine cU ?_;exact jV ((0:Int),(at' E a)) () h SF Z
     intro e y h;refine aL<|fV (λf=>jB a (bE n D) f=some r) (λf A=>[(2,s),(3,vP t),(7,vI (b)),(19,q),(20,g),(21,vI (b)),(31,(at' I b).1),(32,o),(33,vI (a)),(58,vB (f))]) (λf A=>[i]) ?_ ?_
     .refine aP<|aA Z<|aA Z<|cN Z<|aA Z ?_;refine IX h Z (λ_ h=>?_) λ_ h=>?_
      .refine aW Z<|aW Z<|aW Z<|gT Z<|aO ?_;exact jV (true) () h SF Z
      refine gW Z<|gW Z<|bB Z (zW Z Z) Z<|iV Z<|aO ?_;exact jV (decide (e.2<(at' (at' m b) a))) () h SF Z
     intro f A h;refine Ag h Z (λ_ h=>?_) λ_ h=>?_
     .refine aT<|aC Z<|aO<|aV<|bU<|aM<|aM<|bU<|bU<|aM<|aM<|bU<|aM ?_;cases h;exact uC Z
     refine eK<|mF<|aP<|cH Z<|aA Z<|aO ?_;exact Ci (wI .i64 (a+(1:Int))) () h SF Z
    refine sS<|fU<|fU<|Aj<|mF ?_;exact jV () (()) h SF Z
   intro j v h;unfold mR at h;refine aP<|cH Z<|aA Z<|aO ?_;exact Ci (wI .i64 (b+(1:Int))) () h SF Z
  refine fH ?_;exact cD () (()) h SF .nil (aD.refl _ _)
 intro F J h;unfold vF at h;refine aT<|aC Z<|aO<|aV ?_;cases h;exact oA Z
def xQ (b:b_) (a:gY):V1 xM:=
 some ((b.1,a))
def nN (b:Ae) (d:b_) (a:Int×gY) (c:(Int×gY)->V1 xM) (e:V4):V1 xM:=
 if e=true then(ck (0<=a.1/\a.1<(b.2.1.length:Int)) (Option.bind (dH U (at' b.2.1 a.1) (d.2.length:Int)) λf=>(ck (0<=(wI .i64 (a.1+(1:Int)))/\(wI .i64 (a.1+(1:Int)))<(b.2.1.length:Int)) (Option.bind (dH U (at' b.2.1 (wI .i64 (a.1+(1:Int)))) (d.2.length:Int)) λg=>(Option.bind (vR U b.2.2.1 a.1) λh=>(Option.bind (dH U h (15:Int)) λi=>(Option.bind (oU U ((b.1,b.2.1,b.2.2.1,b.2.2.2.1,b.2.2.2.2.1,b.2.2.2.2.2)) ((d.1,a.2)) f g (wI .i64 ((1:Int)+i))) λj=>(c ((wI .i64 (a.1+(2:Int))),j)))))))))else(xQ d (a.2))
def rE (c:Ae) (d:b_) (a:Int×gY) (b:(Int×gY)->V1 xM):V1 xM:=
 if(wI .i64 (a.1+(1:Int)))<(c.2.1.length:Int)then(nN U c d a b (decide (a.1<(60:Int))))else(nN U c d a b (false))
def oV (b:Ae) (a:b_):V1 xM:=
 bE (rE U b a) U ((a.2.length:Int),a.2)
theorem ahs:aU prog 42:=call42
theorem IS (U:Nat) {d:Ae} {f:b_} (w o y g k:V0) (W:gE) (r:FY) (h:oV U d f=some r):
  Ch prog 42 #[Value.agg #[vI (d.1),w,o,y,vB (d.2.2.2.2.1),vB (d.2.2.2.2.2)],Value.agg #[g,k]] [Ar cY g f.1,Ar bN.raw k W,hJ bW W f.2] [Sl aK w d.2.1,Sl aK o d.2.2.1,Sl aK y d.2.2.2.1] (λx:V0×V0×List V0=>Value.agg #[x.1,x.2.1]) (λx l=>Ar cY x.1 r.1::Ar bN.raw x.2.1 x.2.2::hJ bW x.2.2 r.2::l):=by
 let v:=Sl aK w d.2.1;let u:=Sl aK o d.2.2.1;let t:=Sl aK y d.2.2.2.1;let s:=(f.2.length:Int)
 refine Ch.of (vs:=[Value.agg #[vI (d.1),w,o,y,vB (d.2.2.2.2.1),vB (d.2.2.2.2.2)],Value.agg #[g,k]]) func42 Z ntmps42 Z λc=>?_;unfold oV at h;refine aT<|aI (aN.box (cs:=[vI (d.1),w,o,y,vB (d.2.2.2.2.1),vB (d.2.2.2.2.2)]) Z Z) Z λN=>let q:=bG N [vI (d.1),w,o,y,vB (d.2.2.2.2.1),vB (d.2.2.2.2.2)] 24;aI (aN.box (cs:=[g,k]) Z Z) Z λL=>let n:=bG L [g,k] 31;aI (aN.alloc (cs:=[eB,eB]) Z Z) Z λM=>let m:=bG M [eB,eB] 31;aO<|aT<|bZ Z<|dO 1 Z<|aB (fR Z (fQ (i:=4) (j:=5) Z Z cA) Z) Z<|aC Z<|aO<|aL<|lN (B:=gE) (λA=>xQ f A=some r) (λA C=>[(3,vP L),(4,vP M)]) (λA C=>[m,n,Ar cY g f.1,Ar bN.raw k C,hJ bW C A]) (λA C=>[v,u,t]) ?_ ?_
 .refine aT<|aA Z<|aC Z<|aO<|aQ<|qF (B:=gE) (rE U d f) (λa b=>[(2,vP N),(3,vP L),(4,vP M),(5,vI s),(6,vI (a.1))]) (λa b=>[m,n,q,Ar cY g f.1,Ar bN.raw k b,hJ bW b a.2]) (λa b=>[v,u,t]) (s,f.2) (W) h SF (aS.refl _) (aD.refl _ _) ?_;intro Q a b h;refine aL<|aL<|lN (B:=Unit) (λe=>nN U d f a (bE (rE U d f) Q) e=some r) (λe p=>[(2,vP N),(3,vP L),(4,vP M),(5,vI s),(6,vI (a.1)),(20,vB (e))]) (λe p=>[m,n,q,Ar cY g f.1,Ar bN.raw k b,hJ bW b a.2]) (λe p=>[v,u,t]) ?_ ?_
  .refine aP<|aA Z<|cH Z<|bZ Z<|dO 2 Z<|jH (cP Z) Z<|cN Z<|aA Z ?_;refine IX h Z (λ_ h=>?_) λ_ h=>?_
   .refine gW Z<|bB Z (Ew Z Z) Z<|gT Z<|aO ?_;exact jV (decide (a.1<(60:Int))) () h SF Z
   refine aW Z<|aW Z<|iV Z<|aO ?_;exact jV (false) () h SF Z
  intro e p h;refine Ag h Z (λ_ h=>?_) λ_ h=>?_
  .refine cU<|aL<|aQ ?_;refine Bf [0,0,0,4,0,28,60,0,252,0,512,0,2048,7680,15872,0,65532,0,131072,0,1048572,2097148,4194300,8388607] 23 mixedOrders ?_;refine sP 2 Z<|sP 1 Z<|cT Z<|gN 2 Z<|bM Z<|dQ h λI h=>aY Z .nil (iH 0 Z) (bD Z Z (cP Z) Z Z I) aJ.z<|aY Z .nil (iH 0 Z) (bY Z (cP Z) Z Z Z dJ I) aJ.z<|bM Z<|fF h λR D h=>zBl Z Z Z (zBj xR (fL U R D) Z .nil) Z (λX=>(oP [([1],[]),([2],[])] Z)) λX=>jS Z (dN Z Z Z Z Z)<|aY Z (aS.cons 2 Z .nil) .nil (eI 0 Z Z Z Z Z) (aJ.h (aS.ix [2] Z Z) .nil aJ.z)<|jS Z (f_ Z)<|jS Z (Ak Z Z)<|dQ h λJ h=>aY Z .nil (iH 0 Z) (bD Z Z (cP Z) Z Z J) (aJ.h .nil (iH 0 Z) aJ.z)<|aY Z .nil (iH 0 Z) (bY Z (cP Z) Z Z Z dJ J) (aJ.h .nil (iH 0 Z) aJ.z)<|jS Z (f_ Z)<|fF h λS E h=>zBl Z Z Z (zBj xR (fL U S E) Z .nil) Z (λY=>(oP [([1],[]),([2],[])] Z)) λY=>jS Z (dN Z Z Z Z Z)<|aY Z (aS.cons 2 Z .nil) .nil (eI 0 Z Z Z Z Z) (aJ.h (aS.ix [2] Z Z) .nil (aJ.h (aS.ix [2] Z Z) .nil aJ.z))<|jS Z (f_ Z)<|fF h λT F h=>zBl Z Z Z (zBj Nk (Dy U o T F) Z (jJ [1] Z)) Z (λaa=>(oP [([1],[]),([2],[])] Z)) λaa=>fF h λV G h=>zBl Z Z Z (zBj xR (fL U V G) Z .nil) Z (λab=>(oP [([1],[]),([2],[])] Z)) λab=>jS Z (Ak Z Z)<|bS 23 Z Z<|fF h λK H h=>aI (EV (Min:=[Ar bN.raw k b,hJ bW b a.2]) (Mr:=[m,n,q,Ar cY g f.1]) aaJ (Du U w o y g k b K H) Z (aS.ix [4,5,0,1,2,3] Z Z) (aD.cons (cP Z) (aD.cons (n_ Z) (aD.cons (uI Z) (aD.cons (bI (aH.res 3 Z) eP) .nil)))) (λ_ _=>rfl)) Z λac=>fC<|mF<|aP<|aA Z<|cH Z<|aC Z<|aO ?_;exact gA ((wI .i64 (a.1+(2:Int))),K) (ac) h SF (aS.ix [2,3,4,5,0,1] Z Z) (aD.refl _ _)
  refine fH ?_;exact cD (a.2) (b) h SF (aS.ix [0,1,3,4,5] Z Z) (aD.refl _ _)
 intro A C h;unfold xQ at h;refine aT<|cL 1 Z<|bO (Know.one ((bI (aH.res 2 Z) eP))) λO=>bO (BH (fQ (i:=3) (j:=4) Z Z cA)) λP=>bP 0 (vs:=[g,k]) Z Z (iZ O (iZ P Z)) Z Z Z<|aO<|aV ?_;cases h;exact fD (g,k,C) Z Z (RV.cell 0 Z Z Z Z) (aS.ix [2,3,4] Z Z) aD.nil
def kO (a:Ae) (d:Int):V1 xM:=
 Option.bind (oT U ((a.1,a.2.1,a.2.2.1,a.2.2.2.1,a.2.2.2.2.1,a.2.2.2.2.2)) d) λb=>(Option.bind (oV U ((a.1,a.2.1,a.2.2.1,a.2.2.2.1,a.2.2.2.2.1,a.2.2.2.2.2)) ((b.1,b.2))) λc=>(some ((c.1,c.2))))
theorem ajz:aU prog 8:=call8
theorem EL {a:Ae} {o:Int} (d e f:V0) (r:FY) (h:kO U a o=some r):
  aZ prog 8 #[Value.agg #[vI (a.1),d,e,f,vB (a.2.2.2.2.1),vB (a.2.2.2.2.2)],vI (o)] [Sl aK d a.2.1,Sl aK e a.2.2.1,Sl aK f a.2.2.2.1] (λx:V0×V0×V6 V0=>Value.agg #[x.1,x.2.1]) (λx l=>Ar cY x.1 r.1::Ar bN.raw x.2.1 x.2.2::hJ bW x.2.2 r.2::l) (λ_ l=>l):=by
 refine aZ.of func8 Z ntmps8 Z λc=>aT<|aI (aN.box (cs:=[vI (a.1),d,e,f,vB (a.2.2.2.2.1),vB (a.2.2.2.2.2)]) Z Z) Z λp=>aI (aN.alloc (cs:=[eB,eB]) Z Z) Z λq=>aO<|aL<|Bf [0,0,0,6,15,31] 4 mixedOrders<|sP 1 Z<|sP 1 Z<|bM Z<|fF h λn t h=>zBl Z Z Z (zBj aaA (Dt U d e f n t) Z (jJ [0,1,2] Z)) Z (λb=>(oP [([4],[])] Z)) λb=>bS 4 Z Z<|fF h λs u h=>aI (EV (Min:=[Ar cY b.1 n.1,Ar bN.raw b.2.1 b.2.2,hJ bW b.2.2 n.2]) (Mr:=[bG q [eB,eB] 31,bG p [vI (a.1),d,e,f,vB (a.2.2.2.2.1),vB (a.2.2.2.2.2)] 24]) ahs (IS U d e f b.1 b.2.1 b.2.2 s u) Z (aS.refl _) (jJ [0,1,2] Z) (λ_ _=>rfl)) Z λk=>bO (Know.one ((bI (aH.res 0 Z) eP))) λm=>bO (BH (fQ (i:=1) (j:=2) Z Z cA)) λg=>bP 3 (vs:=[k.1,k.2.1]) Z Z (iZ m (iZ g Z)) Z Z Z<|aO<|aV ?_;cases h;exact fD (k.1,k.2.1,k.2.2) Z Z (RV.cell 3 Z Z Z Z) (aS.ix [0,1,2] Z Z) aD.nil
def tY (a:bJ):V1 bJ:=
 some (a)
def zJ (a:bJ×Int) (c:(bJ×Int)->V1 bJ) (b:aX):V1 bJ:=
 ck ((a.1.length:Int)+(List.length ([b]):Int)<=1099511627) (c ((a.1++[b]),(wI .i64 (a.2+(1:Int)))))
def lM (g:DK) (h:aX) (e:bJ×Int) (a:aX×Int) (c:(aX×Int)->V1 bJ) (b:e_):V1 bJ:=
 Option.bind (vR U h (wI .i64 ((wI .i64 (e.2*(g.length:Int)))+a.2))) λf=>(Option.bind (dH U f (wI .i64 ((wI .i64 (b.2 - b.1))+(1:Int)))) λd=>(ck ((a.1.length:Int)+(List.length ([(wI .i64 (b.1+d))]):Int)<=1099511627) (c ((a.1++([(wI .i64 (b.1+d))])),(wI .i64 (a.2+(1:Int)))))))
def kD (f:b_) (c:DK) (g:aX) (h:Int) (b:bJ×Int) (e:(bJ×Int)->V1 bJ) (a:aX×Int) (d:(aX×Int)->V1 bJ):V1 bJ:=
 if a.2<(c.length:Int)then(ck (0<=a.2/\a.2<(c.length:Int)) (ck (0<=a.2/\a.2<(c.length:Int)) (ck (0<=a.2/\a.2<(c.length:Int)) (ck (0<=a.2/\a.2<(c.length:Int)) (ck (0<=a.2/\a.2<(c.length:Int)) (if((at' c a.2).2.1)=(2:Int)then(lM U c g b a d ((0:Int),(1:Int)))else(if((at' c a.2).2.1)=(3:Int)then(ck (0<=b.2/\b.2<(f.2.length:Int)) (lM U c g b a d ((-1:Int),(wI .i64 (((at' f.2 b.2).length:Int) - (1:Int))))))else(lM U c g b a d (((at' c a.2).2.2.1),(wI .i64 ((wI .i64 (((at' c a.2).2.2.2.1)+(wI .i64 (((at' c a.2).2.2.2.2.1)*(f.2.length:Int)))))+(wI .i64 (((at' c a.2).2.2.2.2.2)*h)))))))))))))else(zJ b e (a.1))
def iG (c:b_) (e:DK) (f:aX) (d:Int) (a:bJ×Int) (b:(bJ×Int)->V1 bJ):V1 bJ:=
 if a.2<(c.2.length:Int)then(bE (kD U c e f d a b) U (([]:aX),(0:Int)))else(tY (a.1))
def nL (b:b_) (c:DK) (d:aX) (a:Int):V1 bJ:=
 bE (iG U b c d a) U (([]:bJ),(0:Int))
def qE (c:b_) (d:DK) (e:aX) (a:e_) (b:iU->V1 bJ):V1 bJ:=
 if a.2<(c.2.length:Int)then(ck (0<=a.2/\a.2<(c.1.length:Int)) (b ((max a.1 (at' c.1 a.2)),(wI .i64 (a.2+(1:Int))))))else(nL U c d e (a.1))
def gK (a:b_) (b:DK) (c:aX):V1 bJ:=
 bE (qE U a b c) U ((0:Int),(0:Int))
theorem aaD:aU prog 34:=call34
theorem Hb (U:Nat) {p:b_} {s:DK} {u:aX} (W X:V0) (z2:kI) (F y:V0) (r:bJ) (h:gK U p s u=some r):
  aZ prog 34 #[Value.agg #[W,X],F,y] [Sl aK W p.1,S2 aR X z2 p.2,Sl aG F s,Sl aK y u] (λx:Kc=>x.1) (λx l=>Ar bN.raw x.1 x.2::hJ cY x.2 r::l) (λ_ l=>l):=by
 let k:=(p.2.length:Int)
 refine aZ.of func34 Z ntmps34 Z λc=>?_;unfold gK at h;refine aT<|aI (aN.box (cs:=[W,X]) Z Z) Z λG=>let o:=bG G [W,X] 31;aC Z<|aO<|aT<|bZ Z<|dO 0 Z<|aB (fR Z (n_ Z) Z) Z<|aC Z<|aC Z<|aO<|aL<|fV (λm=>nL U p s u m=some r) (λm b4=>[(1,F),(2,y),(3,vP G),(7,vI k),(8,vI (m))]) (λm b4=>[o]) ?_ ?_
 .refine aT<|aC Z<|aO<|aQ<|fT (qE U p s u) (λf M=>[(1,F),(2,y),(3,vP G),(7,vI k),(8,vI (f.1)),(9,vI (f.2))]) (λf M=>[o]) ((0:Int),(0:Int)) () h SF (aS.refl _) ?_;intro ah f M h;refine aL<|aT<|aA Z<|aA Z<|cN Z<|aO ?_;refine gC h Z (λh=>?_) λh=>?_
  .refine cU<|aL<|aQ<|aP<|aA Z<|bZ Z<|dO 0 Z<|aA Z<|dQ h λT h=>aB (bD Z Z (cP Z) Z Z T) Z<|aB (bY Z (cP Z) Z Z Z dJ T) Z<|aB (Lw Z Z) Z<|aC Z<|fC<|mF<|aP<|aA Z<|cH Z<|aC Z<|aO ?_;exact Ci ((max f.1 (at' p.1 f.2)),(wI .i64 (f.2+(1:Int)))) () h SF Z
  refine fH ?_;exact jV (f.1) () h SF Z
 intro m b4 h;unfold nL at h;refine aT<|aC Z<|aO<|aL<|HU (B:=Kc) (λK=>tY K=some r) (λK A=>[(10,A.1)]) (λK A=>[Ar bN.raw A.1 A.2,hJ cY A.2 K]) ?_ ?_
 .refine aT<|aC Z<|aO<|aQ<|cQ (iJ bN.raw) (cQ (mM cY) ?_);refine fT (B:=Kc) (iG U p s u m) (λa b=>[(1,F),(2,y),(3,vP G),(7,vI k),(8,vI (m)),(10,b.1),(11,vI (a.2))]) (λa b=>[o,Ar bN.raw b.1 b.2,hJ cY b.2 a.1]) (([]:bJ),(0:Int)) ((eB),([]:gE)) h SF (aS.ix [2,1,0] Z Z) ?_;intro aa a b h;let J:=hJ cY b.2 a.1;let I:=Ar bN.raw b.1 b.2;let H:=(bE (iG U p s u m) aa)
  refine aL<|aT<|aA Z<|aA Z<|cN Z<|aO ?_;refine gC h Z (λh=>?_) λh=>?_
  .refine cU<|aL<|aQ<|aT<|aC Z<|aO<|aL<|HU (B:=V0) (λn=>zJ a H n=some r) (λn g=>[(1,F),(2,y),(3,vP G),(7,vI k),(8,vI (m)),(10,b.1),(11,vI (a.2)),(12,g)]) (λn g=>[o,I,J,Ar cY g n]) ?_ ?_
   .refine aT<|aC Z<|aO<|aQ<|cQ (iJ cY)<|fT (B:=V0) (kD U p s u m a H) (λd j=>[(1,F),(2,y),(3,vP G),(7,vI k),(8,vI (m)),(10,b.1),(11,vI (a.2)),(12,j),(13,vI (d.2))]) (λd j=>[o,I,J,Ar cY j d.1]) (([]:aX),(0:Int)) (eB) h SF (aS.ix [1,2,3,0] Z Z) ?_;intro ab d j h;let w:=(at' s d.2)
    refine aL<|aT<|aA Z<|aA Z<|jH (uI Z) Z<|cN Z<|aO ?_;refine gC h Z (λh=>?_) λh=>?_
    .refine cU<|aL<|aQ<|aL ?_;refine Bf [0,0,3,7,15,0,0,96,224,480,0,0,3072,7168,15360,0,64512,131040,0,0,786432,1835008,3932160,0,16515072,33554400,31,134217727] 27 mixedOrders ?_;refine bM Z<|bM Z<|dQ h λO h=>aY Z .nil (iH 2 Z) (bD Z Z (cP Z) Z Z O) aJ.z<|jS Z (lF Z Z Z Z Z)<|aY Z .nil (iH 2 Z) (nR Z (cP Z) Z Z Z FZ O) aJ.z<|bM Z<|bM Z<|dQ h λP h=>aY Z .nil (iH 2 Z) (bD Z Z (cP Z) Z Z P) aJ.z<|jS Z (lF Z Z Z Z Z)<|aY Z .nil (iH 2 Z) (nR Z (cP Z) Z Z Z F_ P) aJ.z<|bM Z<|bM Z<|dQ h λQ h=>aY Z .nil (iH 2 Z) (bD Z Z (cP Z) Z Z Q) aJ.z<|jS Z (lF Z Z Z Z Z)<|aY Z .nil (iH 2 Z) (nR Z (cP Z) Z Z Z Ga Q) aJ.z<|bM Z<|jS Z (uX Z Z)<|jS Z (Ak Z Z)<|bM Z<|bM Z<|dQ h λR h=>aY Z .nil (iH 2 Z) (bD Z Z (cP Z) Z Z R) aJ.z<|jS Z (lF Z Z Z Z Z)<|aY Z .nil (iH 2 Z) (nR Z (cP Z) Z Z Z Gb R) aJ.z<|bM Z<|jS Z (uX Z Z)<|jS Z (Ak Z Z)<|jS Z (oK Z)<|bS 27 Z Z<|aC Z<|aO<|aL<|fV (λi=>lM U s u a d (bE (kD U p s u m a H) ab) i=some r) (λi L=>[(1,F),(2,y),(3,vP G),(7,vI k),(8,vI (m)),(10,b.1),(11,vI (a.2)),(12,j),(13,vI (d.2)),(14,vI (i.1)),(15,vI (i.2))]) (λi L=>[o,I,J,Ar cY j d.1]) ?_ ?_
     .refine aT<|aA Z<|aA Z<|dQ h λS h=>aB (bD Z Z (uI Z) Z Z S) Z<|aB (lF Z Z Z Z Z) Z<|aB (nR Z (uI Z) Z Z Z Bm S) Z<|aO<|aQ<|aT<|d_ Z<|aC Z<|aO ?_;refine gC h Z (λh=>?_) λh=>?_
      .refine aP<|aC Z<|aC Z<|fC<|mF ?_;exact jV ((0:Int),(1:Int)) () h SF Z
      refine aT<|d_ Z<|aC Z<|aO ?_;refine gC h Z (λh=>?_) λh=>?_
      .refine Bf [0,1,0,7,15,31,63,0,255] 8 mixedOrders ?_;refine cT Z<|gN 0 Z<|bM Z<|dQ h λt h=>aY Z .nil (iH 1 Z) (bX Z Z (cP Z) Z Z t) aJ.z<|aY Z .nil (iH 1 Z) (cB Z (cP Z) Z Z t) aJ.z<|aY Z .nil (iH 1 Z) (eW Z (zBk (cP Z) t.1 t.2) Z) aJ.z<|jS Z (zM Z Z)<|jS Z (oK Z)<|bS 8 Z Z<|aC Z<|fC<|mF ?_;exact jV ((-1:Int),(wI .i64 (((at' p.2 a.2).length:Int) - (1:Int)))) () h SF Z
      refine eK<|mF ?_;exact jV ((w.2.2.1),(wI .i64 ((wI .i64 ((w.2.2.2.1)+(wI .i64 ((w.2.2.2.2.1)*k))))+(wI .i64 ((w.2.2.2.2.2)*m))))) () h SF Z
     intro i L h;refine aP<|aA Z<|aA Z<|aA Z<|aA Z<|aA Z<|jH (uI Z) Z<|aB (uX Z Z) Z<|aA Z<|cH Z<|fF h λac af h=>aI (zBj Nk (Dy U y ac af) Z (jJ [3] Z)) Z λak=>aA Z<|aA Z<|aB (zM Z Z) Z<|cH Z<|fF h λV ag h=>let v:=(wI .i64 (i.1+V));aI (zBj xR (fL U V ag) Z .nil) Z λal=>cH Z<|aI (cC (e:=cY) ([v]) [(0,vI v)] Z Z Z Z (kY (vI v) Z) Z Z Z) Z λaj=>dQ h λY h=>aI (gU 4 eP Z Z Z (bI (aH.res 0 Z) eP) Z Z Z Z Y Z) Z λae=>aC Z<|fC<|mF<|aP<|aA Z<|cH Z<|aC Z<|aO ?_
     exact gA ((d.1++([v])),(wI .i64 (d.2+(1:Int)))) (ae) h SF (aS.ix [1,2,3,4] Z Z) (aD.refl _ _)
    refine fH ?_;exact jV (d.1) (j) h SF Z
   intro n g h;refine aP<|aA Z<|aA Z<|cQ (mM cY)<|bO (Know.one ((bI (aH.res 4 Z) eP))) λE=>cQ (Bv 0 4 Z Z Z) ?_;refine aI (cC (e:=bN.raw) [g] [(0,g)] Z Z Z Z (kY (g) E) Z Z (by simp[cellsOf,bN.raw,E])) Z λai=>?_;refine bO (eQ 4 Z) λC=>bO (eQ 1 Z) λD=>dQ h λN h=>cQ (uV 4 1 Z Z Z) ?_;refine aI (aN.append 2 0 Z Z Z Z Z Z Z (by have q:=N;have q1:=C;have q2:=D;(try simp only[zAa,zAm]at q q1 q2 ⊢);omega) (by have q:=N;have q1:=C;have q2:=D;(try simp only[zAa,zAm]at q q1 q2 ⊢);omega) Z) Z λad=>?_;refine aC Z<|fC<|mF<|aP<|aA Z<|cH Z<|aC Z<|aO ?_;exact gA ((a.1++[n]),(wI .i64 (a.2+(1:Int)))) (ad,(b.2++[g])) h SF (aS.ix [1,2,3] Z Z) (aD.refl _ _)
  refine fH ?_;exact cD (a.1) (b.1,b.2) h SF (aS.ix [1,2] Z Z) (aD.refl _ _)
 intro K A h;unfold tY at h;refine aT<|aA Z<|aC Z<|aO<|aV ?_;cases h;exact fD (A.1,A.2) Z Z (RV.tmp Z) (aS.refl _) aD.nil
end Go.Proofs.YtflciafboapaaaaGreat
namespace Go.Proofs.YtflciafboapaaaaGreat
open Go.Sx
theorem afi {R:Type} {step:Int->(Int->V1 R)->V1 R} {K:V1 R} {bad:R} (N:Nat) (p:Nat->Prop)
  (r:∀(k:Nat) c,k<N->p k->step k c=c ((k:Int)+1)) (i:∀(k:Nat) c,k<N->¬p k->step k c=some bad) (j:∀c,step N c=K):
  ∀(b:Nat),N<b->((∀k,k<N->p k)->bE step b 0=K)/\(¬(∀k,k<N->p k)->bE step b 0=some bad):=by
 intro b q;have s:∀(d a b:Nat),a+d=N->d<b->((∀k,a<=k->k<N->p k)->bE step b (a:Int)=K)/\(¬(∀k,a<=k->k<N->p k)->bE step b (a:Int)=some bad):=by
  intro d
  induction d with
  |zero=>
   intro a b v q;obtain rfl:a=N:=V7
   cases b with
   |zero=>omega
   |succ f=>exact⟨λ_=>j _,λh=>absurd (λk m g=>V7) h⟩
  | succ d ih =>
   intro a b v q;cases b with
   |zero=>omega
   | succ f =>
    have⟨t,u⟩:=ih (a+1) f V7 V7;have e:((a+1:Nat):Int)=(a:Int)+1:=V7
    rw[e]at t u;by_cases n:p a
    .have w:bE step (f+1) (a:Int)=bE step f ((a:Int)+1):=r a _ V7 n;rw[w];refine⟨λh=>t λk m g=>h k V7 g,λh=>u λo=>h λk m g=>?_⟩
     by_cases l:k=a
     .subst l;exact n
     .exact o k V7 g
    .exact⟨λh=>absurd (h a (zAg _) V7) n,λ_=>i a _ V7 n⟩
 have⟨m,g⟩:=s N 0 b V7 q;exact⟨λh=>m λk _ l=>h k l,λh=>g λo=>h λk l=>o k V7 l⟩
abbrev GR:=V6 Int×gY
abbrev row (g:GR) (v:Nat):iF:=at' g.2 (v:Int)
abbrev abD (g:GR) (v:Nat):Int:=at' g.1 (v:Int)
abbrev gR (l:iF) (i:Nat):e_:=at' l (i:Int)
def light (g:GR):Prop:=g.1.length<=30/\g.2.length<=30/\∀v,v<g.2.length->(row g v).length<=30
def MX (l:iF) (v n i:Nat):Prop:=(0<=(gR l i).1/\(gR l i).1<=(n:Int) - 1)/\(gR l i).1≠v/\(1<=(gR l i).2/\(gR l i).2<=15)/\∀k,k<i->(gR l k).1≠(gR l i).1
def yN (l:iF) (v n:Nat):Prop:=∀i,i<l.length->MX l v n i
def Cr (l:iF) (u:Int):Int:=match l.findIdx? (λx=>decide (x.1=u))with
 |some i=>i
 |none=> -1
theorem LQ {l:iF} {u:Int} (i:Nat) (b:i<l.length) (d:(gR l i).1=u) (c:∀k,k<i->(gR l k).1≠u):Cr l u=i:=by
 have:l.findIdx? (λx=>decide (x.1=u))=some i:=by
  rw[List.findIdx?_eq_some_iff_getElem];have e:∀k (a:k<l.length),gR l k=l[k]:=λk a=>by rw[gR,kT,zA9,zA0 a];rfl
  refine⟨b,by rw[<-e i b];simpa using d,λk a=>?_⟩
  have:=c k a;rw[e k V7]at this;simpa using this
 rw[Cr,this]
theorem TS {l:iF} {u:Int} (b:∀k,k<l.length->(gR l k).1≠u):Cr l u = -1:=by
 have:l.findIdx? (λx=>decide (x.1=u))=none:=by
  rw[List.findIdx?_eq_none_iff];intro x c;obtain⟨k,a,rfl⟩:=List.getElem_of_mem c;have:=b k a;rw[gR,kT,zA9,zA0 a]at this;simpa using this
 rw[Cr,this]
theorem Fw (l:iF) (u:Int):(∃i,i<l.length/\(gR l i).1=u/\(∀k,k<i->(gR l k).1≠u)/\Cr l u=i)\/((∀k,k<l.length->(gR l k).1≠u)/\Cr l u = -1):=by
 by_cases h:∀k,k<l.length->(gR l k).1≠u
 .exact .inr ⟨h,TS h⟩
 .left;have f:∃k,k<l.length/\(gR l k).1=u:=by
   apply Classical.byContradiction;intro o;exact h λk g e=>o ⟨k,g,e⟩
  have⟨k,g,n⟩:=f;have:∀m,(∃k,k<=m/\k<l.length/\(gR l k).1=u)->∃i,i<l.length/\(gR l i).1=u/\∀k,k<i->(gR l k).1≠u:=by
   intro m
   induction m with
   |zero=>rintro⟨k,d,a,b⟩;exact⟨k,a,b,λj p=>V7⟩
   |succ m q=>
    rintro⟨k,d,a,b⟩;by_cases c:∃j,j<=m/\j<l.length/\(gR l j).1=u
    .exact q c
    .exact⟨k,a,b,λj p e=>c ⟨j,V7,V7,e⟩⟩
  have⟨i,d,a,b⟩:=this k ⟨k,zAg _,g,n⟩;exact⟨i,d,a,b,LQ i d a b⟩
theorem Jz {X R:Type} {step:X->(X->V1 R)->V1 R} {K:X->V1 R} {bad:R} (N:Nat) (p:Nat->Prop) (I:Nat->X->Prop)
  (t:∀(k:Nat) x g,k<N->I k x->p k->∃c,I (k+1) c/\step x g=g c) (j:∀(k:Nat) x g,k<N->I k x->¬p k->step x g=some bad) (l:∀x g,I N x->step x g=K x):
  ∀(b:Nat) (x:X),I 0 x->N<b->((∀k,k<N->p k)->∃c,I N c/\bE step b x=K c)/\(¬(∀k,k<N->p k)->bE step b x=some bad):=by
 intro b x e s;have v:∀(d a b:Nat) (x:X),a+d=N->d<b->I a x->((∀k,a<=k->k<N->p k)->∃c,I N c/\bE step b x=K c)/\(¬(∀k,a<=k->k<N->p k)->bE step b x=some bad):=by
  intro d
  induction d with
  |zero=>
   intro a b x w s e;obtain rfl:a=N:=V7
   cases b with
   |zero=>omega
   |succ f=>exact⟨λ_=>⟨x,e,l _ _ e⟩,λh=>absurd (λk n i=>V7) h⟩
  | succ d ih =>
   intro a b x w s e;cases b with
   |zero=>omega
   | succ f =>
    by_cases o:p a
    .have⟨c,r,u⟩:=t a x (bE step f) V7 e o;have u:bE step (f+1) x=bE step f c:=u;have⟨y,z⟩:=ih (a+1) f c V7 V7 r;rw[u];refine⟨λh=>y λk n i=>h k V7 i,λh=>z λq=>h λk n i=>?_⟩
     by_cases m:k=a
     .subst m;exact o
     .exact q k V7 i
    .exact⟨λh=>absurd (h a (zAg _) V7) o,λ_=>j a x _ V7 e o⟩
 have⟨n,i⟩:=v N 0 b x V7 s e;exact⟨λh=>n λk _ m=>h k m,λh=>i λq=>h λk m=>q k V7 m⟩
def Po (g:GR) (v i:Nat):Prop:=∃j,j<(at' g.2 (gR (row g v) i).1).length/\(gR (at' g.2 (gR (row g v) i).1) j).1=v/\(gR (at' g.2 (gR (row g v) i).1) j).2=(gR (row g v) i).2
structure agV (g:GR) (v:Nat):Prop where
 id:0<=abD g v/\abD g v<=255
 deg:(row g v).length<g.2.length
 links:yN (row g v) v g.2.length
 ids:∀k,k<v->abD g k≠abD g v
structure VG (g:GR):Prop where
 n1:1<=g.2.length
 n24:g.2.length<=24
 len:g.1.length=g.2.length
 node:∀v,v<g.2.length->agV g v
 sym:∀v,v<g.2.length->∀i,i<(row g v).length->Po g v i
theorem qT {a:Type} [Inhabited a] (l:V6 a) (i k:Nat) (y:a) (b:i<l.length):at' (l.set i y) (k:Int)=if k=i then y else at' l (k:Int):=by
 rw[kT,kT,zA9,zA9,List.getElem?_set];by_cases h:i=k
 .rw[if_pos h,if_pos h.symm,Q3];rfl
 .rw[if_neg h,if_neg (Ne.symm h)]
def ZW (l:aX) (k:Nat):Prop:=(0<=at' l (k:Int)/\at' l (k:Int)<=255)/\∀j,j<k->at' l (j:Int)≠at' l (k:Int)
theorem yO (l:aX) (C:l.length<=30):((∀k,k<l.length->ZW l k)->kQ 1000 l=some true)/\(¬(∀k,k<l.length->ZW l k)->kQ 1000 l=some false):=by
 unfold kQ;have i:=Jz (step:=iO l) (K:=λ_=>some true) (bad:=false) l.length (ZW l) (λk x=>x.1=(k:Int)/\x.2.length=256/\∀z:Nat,z<256->(at' x.2 (z:Int)=true↔∃j,j<k/\at' l (j:Int)=(z:Int))) ?_ ?_ ?_ 1000 ((0:Int),(List.replicate 256 false)) ⟨rfl,List.length_replicate ..,λz c=>?_⟩ V7
 .exact⟨λh=>by have⟨x,_,b⟩:=i.1 h;exact b,i.2⟩
 .rintro k ⟨t,m⟩ q w ⟨b,a,f⟩ ⟨D,v⟩;dsimp only at b a f;subst b;obtain⟨z,c⟩:∃z:Nat,at' l (k:Int)=z:=⟨(at' l (k:Int)).toNat,V7⟩
  have p:z<256:=V7
  have o:¬at' m (z:Int)=true:=by
   rw[f z p];rintro⟨j,e,d⟩;exact v j e (d.trans c.symm)
  refine⟨((k:Int)+1,m.set z true),⟨V8,by simp[a],λy B=>?_⟩,?_⟩
  .dsimp only;rw[qT _ _ _ _ V7];by_cases g:y=z
   .subst g;rw[if_pos Z];exact⟨λ_=>⟨k,V7,c⟩,λ_=>rfl⟩
   .rw[if_neg g,f y B];constructor
    .rintro⟨j,e,d⟩;exact⟨j,V7,d⟩
    .rintro⟨j,e,d⟩;by_cases n:j=k
     .subst n;rw[c]at d;omega
     .exact⟨j,V7,d⟩
  .unfold iO jX;dsimp only;rw[Q3,Q7,c,Q0,Q0,cR ⟨V7,a⟩,if_neg o,cR ⟨V7,a⟩,Q9];rfl
 .rintro k ⟨t,m⟩ q w ⟨b,a,f⟩ A;dsimp only at b a f;subst b;unfold iO jX;dsimp only;rw[Q3,Q7];by_cases r:at' l (k:Int)<0
  .rw[if_pos r,if_pos Z]
  rw[if_neg r];by_cases s:255<at' l (k:Int)
  .rw[if_pos s,if_pos Z]
  rw[if_neg s];obtain⟨z,c⟩:∃z:Nat,at' l (k:Int)=z:=⟨(at' l (k:Int)).toNat,V7⟩
  rw[c,cR ⟨V7,a⟩,if_pos];rw[f z V7];apply Classical.byContradiction;intro u;exact A ⟨V7,λj e d=>u ⟨j,e,d.trans c⟩⟩
 .rintro⟨t,m⟩ q ⟨b,_,_⟩;dsimp only at b;subst b;unfold iO pL;dsimp only;rw[Q0]
 .rw[show at' (List.replicate 256 false) (z:Int)=false by rw[kT,zA9,List.getElem?_replicate,if_pos c];rfl];exact⟨λh=>(by cases h),fun⟨j,e,_⟩=>V7⟩
theorem TE {a b:Type} [DecidableEq a] {k:a} {v:b} {z:a×b} {l:V6 (a×b)} (c:q_ k l=none):z∈HV k v l↔z=(k,v)\/z∈l:=by
 rw[KO k v l c];simp[or_comm]
theorem KN {a c:Type} [DecidableEq a] {k:a}:∀{l:V6 (a×c)},(∀v,(k,v)∉l)->q_ k l=none
 | [],_=>rfl
 |x::xs,h=>by
  simp only[q_];rw[if_neg (λe=>h x.2 (by rw[e];exact zAd ..))];exact KN λv b=>h v (zAk _ b)
theorem yG {b c:Type} [DecidableEq b] {k:b} {v:c}:∀{l:V6 (b×c)},q_ k l=none->(k,v)∉l
 | [],_=>by simp
 | x :: xs, h =>by
  simp only[q_]at h;by_cases e:k=x.1
  .rw[if_pos e]at h;cases h
  .rw[if_neg e]at h;intro d;rcases zAn.1 d with a|a
   .exact e (by rw[<-a])
   .exact yG h a
theorem EH {a b:Type} [DecidableEq a] {k:a} {v:b}:∀{l:V6 (a×b)},q_ k l=some v->(k,v)∈l
 |x::xs,h=>by
  simp only[q_]at h;by_cases e:k=x.1
  .rw[if_pos e]at h;cases h;rw[e];exact zAd ..
  .rw[if_neg e]at h;exact zAk _ (EH h)
theorem NW {a b:Type} (p:a×b->Prop) [DecidablePred p]:∀l:V6 (a×b),ON (λd x=>if p d then some false else x) (some true) l=some (decide (∀z∈l,¬p z))
 | []=>by simp[ON]
 |x::xs=>by
  show(if p x then some false else ON _ (some true) xs)=_;rw[NW p xs];by_cases h:p x
  .rw[if_pos h];congr 1;symm;exact zA6 λc=>c x (zAd ..) h
  .rw[if_neg h];congr 1;apply decide_eq_decide.2;simp[h]
def SI (c:gY) (v i:Nat) (z:(Int×Int)×Int):Prop:=∃a b:Nat,(a<v\/(a=v/\b<i))/\b<(at' c (a:Int)).length/\z=(((a:Int),(gR (at' c (a:Int)) b).1),(gR (at' c (a:Int)) b).2)
def Pp (a:gY):Prop:=(∀v,v<a.length->yN (at' a (v:Int)) v a.length)/\∀v,v<a.length->∀i,i<(at' a (v:Int)).length->Po ([],a) v i
theorem JQ (c:gY) (hn:c.length<=30) (hd:∀v,v<c.length->(at' c (v:Int)).length<=30):(Pp c->iR 1000 c=some true)/\(¬Pp c->iR 1000 c=some false):=by
 unfold iR;have s:∀(v:Nat) (m:V6 ((Int×Int)×Int)) p,v<c.length->(∀z,z∈m↔SI c v 0 z)->
   (yN (at' c (v:Int)) v c.length->∃X,(∀z,z∈X↔SI c (v+1) 0 z)/\bE (dK c ((v:Int),m) p) 1000 ((0:Int),m)=p ((v:Int)+1,X))/\
   (¬yN (at' c (v:Int)) v c.length->bE (dK c ((v:Int),m) p) 1000 ((0:Int),m)=some false):=by
  intro v m p F hm;have af:=hd v F;have R:=Jz (step:=dK c ((v:Int),m) p) (K:=λx=>p ((v:Int)+1,x.2)) (bad:=false) (at' c (v:Int)).length (MX (at' c (v:Int)) v c.length) (λi x=>x.1=(i:Int)/\∀z,z∈x.2↔SI c v i z) ?_ ?_ ?_ 1000 ((0:Int),m) ⟨rfl,hm⟩ V7
  .refine⟨λh=>?_,λh=>R.2 h⟩
   have⟨x,⟨ah,ad⟩,f⟩:=R.1 h;refine⟨x.2,λz=>(ad z).trans ⟨?_,?_⟩,f⟩
   .rintro⟨a,b,y,e,l⟩;exact⟨a,b,V7,e,l⟩
   .rintro⟨a,b,y,e,l⟩;refine⟨a,b,?_,e,l⟩
    by_cases W:a=v
    .subst W;exact .inr ⟨rfl,e⟩
    .omega
  .rintro i ⟨H,g⟩ I M ⟨f,d⟩ ⟨p1,p2,p3,p4⟩;dsimp only at f d;subst f;have q:q_ (((v:Int),(gR (at' c (v:Int)) i).1)) g=none:=by
    apply KN;intro w hw;have⟨a,b,y,e,l⟩:=(d _).1 hw;simp only[Prod.mk.injEq]at l;have⟨⟨C,A⟩,_⟩:=l;have:a=v:=V7
    subst this;have hb:b<i:=V7
    exact p4 b hb A.symm
   refine⟨((i:Int)+1,HV (((v:Int),(gR (at' c (v:Int)) i).1)) (gR (at' c (v:Int)) i).2 g),⟨V8,λz=>?_⟩,?_⟩
   .dsimp only;rw[TE q,d];constructor
    .rintro(rfl|⟨a,b,y,e,l⟩)
     .exact⟨v,i,.inr ⟨rfl,V7⟩,M,rfl⟩
     .exact⟨a,b,V7,e,l⟩
    .rintro⟨a,b,y,e,l⟩;by_cases J:a=v/\b=i
     .left;rw[l,J.1,J.2]
     .right;exact⟨a,b,V7,e,l⟩
   .replace p1:0<=(at' (at' c (v:Int)) (i:Int)).1/\(at' (at' c (v:Int)) (i:Int)).1<=(c.length:Int) - 1:=p1;replace p3:1<=(at' (at' c (v:Int)) (i:Int)).2/\(at' (at' c (v:Int)) (i:Int)).2<=15:=p3;unfold dK jD kG;dsimp only;rw[Q3,Q7,Q0,Q0,if_neg (by rw[zA6 p2];simp),Q0,if_neg (by rw[zA6 V7];simp),q,if_neg V8,Q9]
  .rintro i ⟨H,g⟩ I M ⟨f,d⟩ P;dsimp only at f d;subst f;unfold dK jD kG;dsimp only;rw[Q3,Q7];by_cases y:(gR (at' c (v:Int)) i).1<0
   .rw[if_pos y,if_pos Z]
   rw[if_neg y];by_cases e:(c.length:Int)<=(gR (at' c (v:Int)) i).1
   .rw[if_pos e,if_pos Z]
   rw[if_neg e];by_cases l:(gR (at' c (v:Int)) i).1=v
   .rw[if_pos (zAe l)]
   rw[if_neg (by rw[zA6 l];simp)];by_cases C:(gR (at' c (v:Int)) i).2<1
   .rw[if_pos C,if_pos Z]
   rw[if_neg C];by_cases A:15<(gR (at' c (v:Int)) i).2
   .rw[if_pos (zAe A)]
   rw[if_neg (by rw[zA6 A];simp)];have:∃k,k<i/\(gR (at' c (v:Int)) k).1=(gR (at' c (v:Int)) i).1:=by
    apply Classical.byContradiction;intro hc;exact P ⟨V7,l,V7,λk N L=>hc ⟨k,N,L⟩⟩
   have⟨k,N,L⟩:=this;have n:=(d _).2 ⟨v,k,.inr ⟨rfl,N⟩,V7,rfl⟩;rw[if_pos];rw[<-L];cases q:q_ (((v:Int),(gR (at' c (v:Int)) k).1)) g with
   |some w=>rfl
   | none =>exact absurd n (by
     intro n;exact yG q n)
  .rintro⟨H,g⟩ I ⟨f,d⟩;dsimp only at f d;subst f;unfold dK oS;dsimp only;rw[Q0,Q9]
 have t:=Jz (step:=dY 1000 c) (K:=λx=>kF x.2) (bad:=false) c.length (λv=>yN (at' c (v:Int)) v c.length) (λv x=>x.1=(v:Int)/\∀z,z∈x.2↔SI c v 0 z) ?_ ?_ ?_ 1000 ((0:Int),[]) ⟨rfl,λz=>⟨λh=>(by cases h),fun⟨a,b,y,_⟩=>V7⟩⟩ V7
 rotate_left
 .rintro v ⟨H,g⟩ p F ⟨f,d⟩ P;dsimp only at f d;subst f;have⟨X,y,e⟩:=(s v g p F d).1 P;refine⟨((v:Int)+1,X),⟨V8,y⟩,?_⟩
  .unfold dY;dsimp only;rw[Q3,Q7];exact e
 .rintro v ⟨H,g⟩ p F ⟨f,d⟩ P;dsimp only at f d;subst f;unfold dY;dsimp only;rw[Q3,Q7];exact(s v g p F d).2 P
 .rintro⟨H,g⟩ p ⟨f,d⟩;dsimp only at f d;subst f;unfold dY;dsimp only;rw[Q0]
 by_cases D:∀v,v<c.length->yN (at' c (v:Int)) v c.length
 rotate_left
 .exact⟨λh=>absurd h.1 D,λ_=>t.2 D⟩
 have⟨⟨H,g⟩,⟨f,d⟩,L⟩:=t.1 D;rw[L];dsimp only at d ⊢;have N:kF g=some (decide (∀z∈g,¬(Option.getD (q_ (z.1.2,z.1.1) g) (0:Int))≠z.2)):=NW (λz:(Int×Int)×Int=>(Option.getD (q_ (z.1.2,z.1.1) g) (0:Int))≠z.2) g;rw[N];have E:(∀z∈g,¬(Option.getD (q_ (z.1.2,z.1.1) g) (0:Int))≠z.2)↔∀v,v<c.length->∀i,i<(at' c (v:Int)).length->Po ([],c) v i:=by
  constructor
  .intro h v F i M;have hw:=(D v F i M).2.2.1;have n:=(d (((v:Int),(gR (at' c (v:Int)) i).1),(gR (at' c (v:Int)) i).2)).2 ⟨v,i,.inl F,M,rfl⟩;have e:=zAw.1 (h _ n);dsimp only at e;cases q:q_ ((gR (at' c (v:Int)) i).1,(v:Int)) g with
   |none=>rw[q]at e;simp only[Option.getD]at e;omega
   | some w =>
    rw[q]at e;simp only[Option.getD]at e;have⟨a,b,l,C,A⟩:=(d _).1 (EH q);simp only[Prod.mk.injEq]at A;have⟨⟨T,U⟩,h8⟩:=A;refine⟨b,?_,?_,?_⟩
    .show b<(at' c (gR (at' c (v:Int)) i).1).length;rw[T];exact C
    .show(gR (at' c (gR (at' c (v:Int)) i).1) b).1=v;rw[T];exact U.symm
    .show(gR (at' c (gR (at' c (v:Int)) i).1) b).2=(gR (at' c (v:Int)) i).2;rw[T,<-h8];exact e
  .intro h z hz ac;obtain⟨a,b,l,C,rfl⟩:=(d z).1 hz;have W:a<c.length:=V7
   apply ac;have⟨j,r,o,B⟩:=h a W b C;have hu:=(D a W b C).1;obtain⟨u,Q⟩:∃u:Nat,(gR (at' c (a:Int)) b).1=u:=⟨(gR (at' c (a:Int)) b).1.toNat,V7⟩
   replace r:j<(at' c (gR (at' c (a:Int)) b).1).length:=r;replace o:(gR (at' c (gR (at' c (a:Int)) b).1) j).1=a:=o;replace B:(gR (at' c (gR (at' c (a:Int)) b).1) j).2=(gR (at' c (a:Int)) b).2:=B;rw[Q]at r o B;have G:u<c.length:=V7
   dsimp only;rw[Q,<-B];have n:=(d (((u:Int),(gR (at' c (u:Int)) j).1),(gR (at' c (u:Int)) j).2)).2 ⟨u,j,.inl G,r,rfl⟩;rw[o]at n;cases q:q_ ((u:Int),(a:Int)) g with
   |none=>exact absurd n (yG q)
   | some w =>
    have⟨Y,S,ae,aa,A⟩:=(d _).1 (EH q);simp only[Prod.mk.injEq]at A;have⟨⟨T,U⟩,h8⟩:=A;have:Y=u:=V7
    subst this;have ab:S=j:=by
     rcases Nat.lt_trichotomy S j with O|O|O
     .exact absurd (U.symm.trans o.symm) ((D Y G j r).2.2.2 S O)
     .exact O
     .exact absurd (o.trans U) ((D Y G S aa).2.2.2 j O)
    subst ab;exact h8
 by_cases V:∀v,v<c.length->∀i,i<(at' c (v:Int)).length->Po ([],c) v i
 .rw[zAe (E.2 V)];exact⟨λ_=>rfl,λh=>absurd ⟨D,V⟩ h⟩
 .rw[zA6 (λh=>V (E.1 h))];exact⟨λh=>absurd h.2 V,λ_=>rfl⟩
theorem N_:∀(N:Nat) (f:Nat->Nat) (k:Nat),(∀i,i<k->f i<N)->(∀i j,i<j->j<k->f i≠f j)->k<=N
 |0,f,k,h,_=>by
  cases k with
  |zero=>omega
  |succ k=>exact absurd (h 0 V7) V7
 | N + 1, f, k, h, hd =>by
  by_cases b:∃a,a<k/\f a=N
  .have⟨a,g,l⟩:=b;have:=N_ N (λi=>if i<a then f i else f (i+1)) (k - 1) (λi c=>by
    split
    .have:=h i V7;have:=hd i a V7 g;omega
    .have:=h (i+1) V7;have:=hd a (i+1) V7 V7;omega) (λi j d m=>by
    split<;>split
    .exact hd i j d V7
    .exact hd i (j+1) V7 V7
    .omega
    .exact hd (i+1) (j+1) V7 V7)
   omega
  .have:=N_ N f k (λi c=>by
    have:=h i c;have:f i≠N:=λe=>b ⟨i,c,e⟩;omega) hd
   omega
theorem Vq {l:iF} {v n:Nat} (b:v<n) (h:yN l v n):l.length<n:=by
 have:=N_ n (λi=>if i=l.length then v else(gR l i).1.toNat) (l.length+1) (λi e=>by
  split
  .exact b
  .have:=(h i V7).1;omega) (λi j a f=>by
  rw[Q0];have c:=(h i V7).1;split
  .have:=(h i V7).2.1;omega
  .have d:=(h j V7).1;have:=(h j V7).2.2.2 i a;omega)
 omega
theorem UC (g:GR) (j:light g):(VG g->gO 1000 g=some true)/\(¬VG g->gO 1000 g=some false):=by
 have⟨e,f,i⟩:=j;unfold gO rW rX;by_cases l:g.1.length<1
 .rw[Q3];exact⟨λh=>by have:=h.n1;have:=h.len;omega,λ_=>rfl⟩
 rw[Q0];by_cases m:24<g.1.length
 .rw[Q3];exact⟨λh=>by have:=h.n24;have:=h.len;omega,λ_=>rfl⟩
 rw[Q0];by_cases d:g.1.length=g.2.length
 rotate_left
 .rw[zAe V7];exact⟨λh=>absurd h.len d,λ_=>rfl⟩
 rw[zA6 V7,if_neg V8];by_cases b:∀k,k<g.1.length->ZW g.1 k
 rotate_left
 .rw[(yO g.1 e).2 b,bA Z];exact⟨λh=>absurd (λk n=>⟨(h.node k V7).id,(h.node k V7).ids⟩) b,λ_=>rfl⟩
 rw[(yO g.1 e).1 b,bA Z,if_pos Z];by_cases a:Pp g.2
 .rw[(JQ g.2 f i).1 a];exact⟨λ_=>rfl,λh=>absurd ⟨V7,V7,d,λv c=>⟨(b v V7).1,Vq c (a.1 v c),a.1 v c,(b v V7).2⟩,a.2⟩ h⟩
 .rw[(JQ g.2 f i).2 a];exact⟨λh=>absurd ⟨λv c=>(h.node v c).links,h.sym⟩ a,λ_=>rfl⟩
theorem VG.light {g:GR} (h:VG g):light g:=⟨by have:=h.n24;have:=h.len;omega,by have:=h.n24;omega,λv a=>by have:=(h.node v a).deg;have:=h.n24;omega⟩
abbrev D (d:aX) (v:Nat):Int:=at' d (v:Int)
def ZO (g:GR) (v u:Nat):Prop:=∃i,i<(row g v).length/\(gR (row g v) i).1=(u:Int)
theorem VG.port {g:GR} (h:VG g) {v i:Nat} (b:v<g.2.length) (a:i<(row g v).length):∃u:Nat,u<g.2.length/\(gR (row g v) i).1=(u:Int)/\ZO g v u:=by
 have c:=((h.node v b).links i a).1;exact⟨(gR (row g v) i).1.toNat,V7,V7,i,a,V7⟩
theorem VG.back {g:GR} (h:VG g) {v u:Nat} (f:v<g.2.length) (c:ZO g v u):ZO g u v:=by
 have⟨i,d,e⟩:=c;have⟨j,b,a,_⟩:=h.sym v f i d;rw[e]at b a;exact⟨j,b,a⟩
theorem VG.adj_lt {g:GR} (h:VG g) {v u:Nat} (c:v<g.2.length) (a:ZO g v u):u<g.2.length:=by
 have⟨i,b,d⟩:=a;have:=((h.node v c).links i b).1;omega
def Jp (d:aX):Nat:=d.countP λx=>decide (x<0)
structure ZS (g:GR) (s:Nat) (d:aX):Prop where
 len:d.length=g.2.length
 lo:∀v,v<g.2.length -> -1<=D d v
 zero:∀v,v<g.2.length->(D d v=0↔v=s)
 near:∀v,v<g.2.length->0<D d v->∃u,u<g.2.length/\ZO g v u/\D d u=D d v - 1
 hi:∀v,v<g.2.length->D d v+(Jp d:Int)<=(g.2.length:Int)
structure Qu (g:GR) (q d:aX) (b:Int) (done:Nat->Prop):Prop where
 mem:∀y∈q,∃v,v<g.2.length/\y=((v:Nat):Int)/\0<=D d v
 top:∀v,v<g.2.length->D d v<=b
 sort:q.Pairwise λa c=>at' d a<=at' d c
 done:∀v,v<g.2.length->0<=D d v->((v:Nat):Int)∉q->done v->∀u,u<g.2.length->ZO g v u->0<=D d u/\D d u<=D d v+1
theorem Hl {d:aX} {v:Nat} (h:v<d.length):D d v=d[v]:=by
 rw[D,kT,zA9,zA0 h];rfl
theorem Tg {d:aX} {u:Nat} {x:Int} (a:u<d.length) (b:D d u<0) (e:0<=x):Jp (d.set u x)+1=Jp d:=by
 unfold Jp;rw[List.countP_set a];have c:0<d.countP λx=>decide (x<0):=by
  rw[List.countP_pos_iff];exact⟨d[u],List.getElem_mem a,by rw[<-Hl a];simpa using b⟩
 rw[Hl a]at b;rw[if_pos (by simpa using b),if_neg Q1];omega
theorem assign {g : GR} {s : Nat} {q d : V6 Int} {b : Int} {done : Nat → Prop} (E : VG g) (l : ZS g s d) {x u : Nat} (m : Qu g q d (D d x + 1) done) (B : x < g.2.length) (K : 0 ≤ D d x) (J : u < g.2.length) (t : D d u < 0) (F : ZO g x u) :
    ZS g s (d.set u (D d x + 1)) /\ Qu g (q ++ [(u : Int)]) (d.set u (D d x + 1)) (D d x + 1) done := by
  have o := l.len;have e : ∀ v, D (d.set u (D d x + 1)) v = if v = u then D d x + 1 else D d v := λv =>qT _ _ _ _ V7;have G := Tg (x := D d x + 1) (by omega : u < d.length) t V7;refine ⟨⟨by simp [o], λv f =>?_, λv f =>?_, λv f =>?_, λv f =>?_⟩, ⟨λy j =>?_, λv f =>?_, ?_, λv f k n H w A i =>?_⟩⟩
  · rw [e]; split
    · omega
    · exact l.lo v f
  · rw [e]; split
    · rename_i h; subst h;have := (l.zero v f)
      constructor
      · intro; omega
      · intro h; have := this.2 h; omega
    · exact l.zero v f
  · rw [e]; split
    · rename_i h; subst h;intro _;refine ⟨x, B, E.back B F, ?_⟩
      rw [e, if_neg (by intro h; subst h; omega)]; omega
    · intro k;obtain ⟨w, A, i, I⟩ := l.near v f k;refine ⟨w, A, i, ?_⟩
      rw [e, if_neg (by intro h; subst h; omega)]; exact I
  · rw [e]; split
    · have := l.hi x B; omega
    · have := l.hi v f; omega
  · rcases zB1.1 j with j | j
    · obtain ⟨v, f, rfl, k⟩ := m.mem y j;refine ⟨v, f, rfl, ?_⟩
      rw [e]; split <;> omega
    · simp only [List.mem_singleton] at j;refine ⟨u, J, j, ?_⟩
      rw [e, if_pos Z]; omega
  · rw [e]; split
    · omega
    · exact m.top v f
  · rw [List.pairwise_append];have n : ∀ y ∈ q, at' (d.set u (D d x + 1)) y = at' d y := by
      intro y j;obtain ⟨v, f, rfl, k⟩ := m.mem y j;have := e v;rw [if_neg (by intro h; subst h; omega)] at this;exact this
    refine ⟨m.sort.imp_of_mem λ{a c} h1 r h =>?_, List.pairwise_singleton .., λy j z C =>?_⟩
    · rw [n a h1, n c r]; exact h
    · simp only [List.mem_singleton] at C;subst C;rw [n y j];have r := e u;rw [if_pos Z] at r;obtain ⟨v, f, rfl, k⟩ := m.mem y j;have := m.top v f;show D d v ≤ D (d.set u (D d x + 1)) u;omega
  · have p : v ≠ u := by
      rintro rfl;exact n V8
    rw [e, if_neg p] at k;rw [e v, if_neg p];have := m.done v f k (λh =>n (List.mem_append_left _ h)) H w A i;rw [e w, if_neg (by rintro rfl; omega)];exact this
theorem RF {g:GR} (E:VG g) {s x:Nat} (I:x<g.2.length) (a e:aX) (R:V6 Int×aX->V1 aX) (r:aX->Prop)
  (o:ZS g s e) (ae:0<=D e x) (m:Qu g a e (D e x+1) (λv=>v≠x)) (hm:a.length+Jp e<=g.2.length)
  (K:∀q d,ZS g s d->D d x=D e x->Qu g q d (D d x+1) (λ_=>True)->q.length+Jp d=a.length+Jp e->(∀y∈q,D e x<=at' d y)->OK r (R (q,d)))
  (l:∀y∈a,D e x<=at' e y):
  OK r (bE (tK g ((x:Int)::a,e) R) 1000 ((0:Int),a,e)):=by
 have U:=(E.node x I).deg;have aa:=E.n24;refine wP (λz:Int×V6 Int×aX=>∃k:Nat,z.1=k/\k<=(row g x).length/\ZS g s z.2.2/\D z.2.2 x=D e x/\Qu g z.2.1 z.2.2 (D e x+1) (λv=>v≠x)/\z.2.1.length+Jp z.2.2=a.length+Jp e/\(∀i,i<k->∀u:Nat,(gR (row g x) i).1=u->0<=D z.2.2 u)/\(∀y∈z.2.1,D e x<=at' z.2.2 y)) (λz=>31 - z.1.toNat) ?_ 1000 _ ⟨0,rfl,V7,o,rfl,m,rfl,λi L=>V7,l⟩ V8;rintro⟨z1,q,d⟩ X ⟨k,W,hk,o,f,m,A,F,l⟩ p;dsimp only at W o f m A F l;subst W;have V:=o.len;have e0:at' ((x:Int)::a) 0=(x:Int):=rfl;unfold tK tJ;dsimp only;rw[e0];by_cases N:k<(row g x).length
 .rw[if_pos (show(k:Int)<((row g x).length:Int) by omega),cR (show 0<=(k:Int)/\(k:Int)<((row g x).length:Int) by omega)];have⟨u,G,O,j⟩:=E.port I N;rw[show at' (at' g.2 (x:Int)) (k:Int)=gR (row g x) k from rfl,O,Q7];have ac:=o.hi x I;by_cases c:at' d (u:Int)<0
  .have J:Qu g q d (D d x+1) (λv=>v≠x):=by rw[f];exact m
   have⟨Y,c2⟩:=assign (b:=0) E o J I V7 G c j;have ab:=Tg (x:=D d x+1) (by omega:u<d.length) c V7;have n:∀v,D (d.set u (D d x+1)) v=if v=u then D d x+1 else D d v:=λv=>qT _ _ _ _ V7;have Q:x≠u:=by rintro rfl;have:D d x<0:=c;omega
   rw[if_pos c,Q7,Q7,cR (by simp only[List.length_singleton];omega),Q9 (x:=(k:Int)+1),wr (x:=at' d (x:Int)+1) (by show -9223372036854775808<=D d x+1;omega) (by show D d x+1<=_;omega)];refine p _ ⟨k+1,V8,V7,Y,?_,?_,?_,?_,?_⟩ (by dsimp only;omega)
   .show D (d.set u (D d x+1)) x=_;rw[n,if_neg Q];exact f
   .rw[<-f];exact c2
   .show(q++[(u:Int)]).length+Jp (d.set u (D d x+1))=_;simp only[zA4,List.length_singleton];omega
   .intro i L w P;show 0<=D (d.set u (D d x+1)) w;rw[n];split
    .omega
    .by_cases t:i=k
     .subst t;omega
     .exact F i V7 w P
   .intro y B;show D e x<=at' (d.set u (D d x+1)) y;rcases zB1.1 B with B|B
    .have h1:=l y B;obtain⟨v,H,rfl,S⟩:=m.mem y B;have T:=n v;rw[if_neg (by intro h;subst h;have:D d v<0:=c;omega)]at T;rw[show at' (d.set u (D d x+1)) (v:Int)=D d v from T];exact h1
    .simp only[List.mem_singleton]at B;subst B;rw[show at' (d.set u (D d x+1)) (u:Int)=D d x+1 from(n u).trans (if_pos Z)];omega
  .rw[if_neg c,Q9];refine p _ ⟨k+1,V8,V7,o,f,m,A,?_,l⟩ (by dsimp only;omega);intro i L w P;by_cases t:i=k
   .subst t;have:w=u:=V7
    subst this;show 0<=at' d (w:Int);omega
   .exact F i V7 w P
 .rw[if_neg (show¬(k:Int)<((row g x).length:Int) by omega)];have ad:k=(row g x).length:=V7
  refine K q d o f ⟨m.mem,λv H=>by rw[f];exact m.top v H,m.sort,λv H S hq _ u G j=>?_⟩ A l;by_cases C:v=x
  .subst C;have⟨i,L,M⟩:=j;exact⟨F i V7 u M,by rw[f];exact m.top u G⟩
  .exact m.done v H S hq C u G j
structure BQ (g:GR) (s:Nat) (d:aX):Prop where
 len:d.length=g.2.length
 lo:∀v,v<g.2.length -> -1<=D d v
 zero:∀v,v<g.2.length->(D d v=0↔v=s)
 near:∀v,v<g.2.length->0<D d v->∃u,u<g.2.length/\ZO g v u/\D d u=D d v - 1
 next:∀v,v<g.2.length->0<=D d v->∀u,u<g.2.length->ZO g v u->0<=D d u/\D d u<=D d v+1
 hi:∀v,v<g.2.length->D d v<=(g.2.length:Int)
theorem Uk {g:GR} (t:VG g) {s:Nat} (f k:aX) (b:ZS g s f) (c:Qu g k f (match k with|[]=>1000|y::_=>at' f y+1) (λ_=>True)) (j:k.length+Jp f<=g.2.length):
  OK (BQ g s) (bE (pZ 1000 g) 1000 (k,f)):=by
 have G:=t.n24;refine wP (λz:V6 Int×aX=>ZS g s z.2/\Qu g z.1 z.2 (match z.1 with|[]=>1000|y::_=>at' z.2 y+1) (λ_=>True)/\z.1.length+Jp z.2<=g.2.length) (λz=>z.1.length+Jp z.2) ?_ 1000 _ ⟨b,c,j⟩ (by dsimp only;omega);rintro⟨q,d⟩ C ⟨b,c,j⟩ m;dsimp only at b c j;unfold pZ yT;dsimp only;cases q with
 |nil=>
  rw[if_neg V8];exact⟨d,rfl,b.len,b.lo,b.zero,b.near,λv e l u n a=>c.done v e l V8 trivial u n a,λv e=>by have:=b.hi v e;omega⟩
 | cons y rest =>
  obtain⟨x,A,rfl,p⟩:=c.mem y (zAd ..);have F:at' ((x:Int)::rest) 0=(x:Int):=rfl;rw[if_pos (by simp only[zAa];omega),cR (by simp only[zAa];omega),cR (by simp only[zAa];omega),F,Q7];have w:=List.pairwise_cons.1 c.sort;simp only[zAa]at j;refine RF t A rest d C _ b p ⟨λz I=>c.mem z (zAk _ I),c.top,w.2,λv e l H o u n a=>c.done v e l (λh=>?_) trivial u n a⟩ V7 (λB E r J i K D=>?_) w.1
  .rcases zAn.1 h with h|h
   .exact o V7
   .exact H h
  .refine m (B,E) ⟨r,⟨i.mem,λv e=>?_,i.sort,i.done⟩,by dsimp only;omega⟩ (by simp only[zAa];omega);dsimp only;have L:=i.top v e;cases B with
   |nil=>
    dsimp only;have:=r.hi x A;omega
   |cons z M=>
    dsimp only;have:=D z (zAd ..);omega
theorem K_ {g:GR} (l:VG g) {s:Nat} (m:s<g.2.length):OK (BQ g s) (jY 1000 g (s:Int)):=by
 have q:=l.n24;unfold jY;rw[Q7];refine wP (λz:nD=>∃k:Nat,z.1=k/\k<=g.2.length/\z.2.length=g.2.length/\∀v,v<k->D z.2 v = -1) (λz=>31 - z.1.toNat) ?_ 1000 _ ⟨0,rfl,V7,V8,λv c=>V7⟩ V8;rintro⟨C,d⟩ A ⟨k,o,B,e,j⟩ i;dsimp only at o e j;subst o;unfold Cn;simp only[List.length_replicate,zAf];by_cases u:k<g.2.length
 .rw[Q3,Q7,Q9];refine i _ ⟨k+1,V8,V7,by simp[e],λv c=>?_⟩ (by dsimp only;omega);show at' (d.set k (-1)) (v:Int) = -1;rw[qT _ _ _ _ V7];split
  .rfl
  .exact j v V7
 .rw[Q0];unfold Cm;rw[Q7];have b:∀v,v<g.2.length->D d v = -1:=λv c=>j v V7;have a:∀v,D (d.set s 0) v=if v=s then 0 else D d v:=λv=>qT _ _ _ _ V7;have t:=Tg (x:=0) (by omega:s<d.length) (by rw[b s m];omega) V7;have r:Jp d<=d.length:=List.countP_le_length ..;refine Uk l _ _ ⟨by simp[e],λv c=>?_,λv c=>?_,λv c=>?_,λv c=>?_⟩ ⟨λy n=>?_,λv c=>?_,List.pairwise_singleton ..,λv c p w=>?_⟩ ?_
  .rw[zAf,a];split
   .omega
   .rw[b v c];omega
  .rw[zAf,a];split
   .rename_i h;exact⟨λ_=>h,λ_=>rfl⟩
   .rename_i h;rw[b v c];exact⟨λf=>V7,λf=>absurd f h⟩
  .rw[zAf,a];split
   .omega
   .rw[b v c];omega
  .rw[zAf,a];split
   .omega
   .rw[b v c];omega
  .simp only[List.mem_singleton]at n;refine⟨s,m,n,?_⟩
   rw[zAf,a,if_pos Z];omega
  .rw[zAf];have f:at' (d.set s 0) (s:Int)=0:=(a s).trans (if_pos Z);show D (d.set s 0) v<=at' (d.set s 0) (s:Int)+1;rw[f,a];split
   .omega
   .rw[b v c];omega
  .rw[zAf,a,if_neg (by rintro rfl;exact w V8),b v c]at p;omega
  .rw[zAf];simp only[List.length_singleton];omega
theorem QW {g:GR} (a:VG g) {s:Nat} (e:s<g.2.length):OK (BQ g s) (gJ 1000 g (s:Int)):=by
 unfold gJ lY;rw[(UC g a.light).1 a,bA Z,if_neg V8,Q0,zA6 V7,if_neg V8];have⟨d,c,b⟩:=K_ a e;rw[c];exact⟨d,rfl,b⟩
def xZ (g:GR) (s:Nat):Nat->Nat->Prop
 |0,v=>v=s/\s<g.2.length
 |k+1,v=>∃u,xZ g s k u/\ZO g u v
theorem xZ.lt {g:GR} (a:VG g) {s:Nat}:∀{k v:Nat},xZ g s k v->v<g.2.length
 |0,_,h=>by obtain⟨rfl,h⟩:=h;exact h
 |_+1,_,h=>by have⟨u,b,c⟩:=h;exact a.adj_lt (xZ.lt a b) c
theorem xZ.trans {g:GR} {s t k:Nat} (h:xZ g s k t):∀{m v:Nat},xZ g t m v->xZ g s (k+m) v
 |0,_,h2=>by obtain⟨rfl,_⟩:=h2;exact h
 |_+1,_,h2=>by have⟨u,a,b⟩:=h2;exact⟨u,xZ.trans h a,b⟩
theorem Jh {g:GR} (a:VG g) {s:Nat}:∀{k v:Nat},xZ g s k v->xZ g v k s
 |0,_,h=>by obtain⟨rfl,h⟩:=h;exact⟨rfl,h⟩
 |k+1,v,h=>by
  have⟨u,b,c⟩:=h;have d:=xZ.lt a b;have e:xZ g v 1 u:=⟨v,⟨rfl,a.adj_lt d c⟩,a.back d c⟩
  have:=xZ.trans e (Jh a b);rwa[Nat.add_comm]at this
theorem BQ.le {g:GR} (a:VG g) {s:Nat} {d:aX} (h:BQ g s d):∀{k v:Nat},xZ g s k v->0<=D d v/\D d v<=k
 |0,v,hw=>by
  obtain⟨rfl,i⟩:=hw;have:=(h.zero v i).2 Z;omega
 |k+1,v,hw=>by
  have⟨u,b,c⟩:=hw;have e:=xZ.lt a b;have f:=BQ.le a h b;have j:=h.next u e f.1 v (a.adj_lt e c) c;omega
theorem Pa {g:GR} (b:VG g) {s:Nat} {d:aX} (h:BQ g s d):∀(k v:Nat),v<g.2.length->D d v=k->xZ g s k v
 |0,v,hv,he=>by
  have:=(h.zero v hv).1 he;exact⟨this,V7⟩
 |k+1,v,hv,he=>by
  have⟨u,c,a,e⟩:=h.near v hv V7;exact⟨u,Pa b h k u c V7,b.back hv a⟩
theorem BQ.pos {g:GR} (a:VG g) {s:Nat} {d:aX} (h:BQ g s d) {v:Nat} (b:v<g.2.length) (c:0<=D d v):xZ g s (D d v).toNat v:=
 Pa a h _ v b V7
theorem Ts (d:aX) (h:d.length<=30):OK (λr:Int=> -1<=r/\(∀v,v<d.length->D d v<=r)/\(r = -1\/∃v,v<d.length/\D d v=r)) (oE 1000 d):=by
 unfold oE;refine wP (λz:e_=>∃k:Nat,z.2=k/\k<=d.length /\ -1<=z.1/\(∀v,v<k->D d v<=z.1)/\(z.1 = -1\/∃v,v<k/\D d v=z.1)) (λz=>31 - z.2.toNat) ?_ 1000 _ ⟨0,rfl,V7,V7,λv b=>V7,.inl Z⟩ V8;rintro⟨m,z⟩ n ⟨k,j,o,g,c,a⟩ e;dsimp only at j g c a;subst j;unfold Av uJ;dsimp only;by_cases l:k<d.length
 .rw[Q3,Q7,Q9];refine e _ ⟨k+1,V8,V7,by dsimp only;omega,λv b=>?_,?_⟩ (by dsimp only;omega)
  .by_cases f:v=k
   .subst f;show D d v<=max m (D d v);omega
   .have:=c v V7;show D d v<=max m (D d k);omega
  .by_cases p:m<=D d k
   .exact .inr ⟨k,V7,by show D d k=max m (D d k);omega⟩
   .rcases a with a|⟨v,b,i⟩
    .left;show max m (D d k) = -1;omega
    .exact .inr ⟨v,V7,by show D d v=max m (D d k);omega⟩
 .rw[Q0];refine⟨m,rfl,g,λv b=>c v V7,?_⟩
  rcases a with a|⟨v,b,i⟩
  .exact .inl a
  .exact .inr ⟨v,V7,i⟩
def Ep (g:GR):Prop:=∀u v,u<g.2.length->v<g.2.length->∃k,xZ g u k v
theorem CI {g:GR} (a:VG g):(Ep g->cX 1000 g=some true)/\(¬Ep g->cX 1000 g=some false):=by
 have r:=a.n1;have n:=a.n24;unfold cX;have⟨d,o,e⟩:=K_ a (s:=0) V7;have j:=e.len;rw[(UC g a.light).1 a,bA Z,if_neg V8,show jY 1000 (g.1,g.2) 0=some d from o,bA Z];have c:=afi (step:=lX d) (K:=some true) (bad:=false) d.length (λv=>0<=D d v) (λk i f p=>?_) (λk i f p=>?_) (λi=>?_) 1000 V7
 .have b:(∀v,v<d.length->0<=D d v)↔Ep g:=by
   constructor
   .intro h u v q l;exact⟨_,xZ.trans (Jh a (BQ.pos a e q (h u V7))) (BQ.pos a e l (h v V7))⟩
   .intro h v l;have⟨k,f⟩:=h 0 v V7 V7;exact(BQ.le a e f).1
  exact⟨λh=>c.1 (b.2 h),λh=>c.2 λm=>h (b.1 m)⟩
 .unfold lX;rw[Q3,Q7,if_neg (show¬D d k<0 by omega),Q9]
 .unfold lX;rw[Q3,Q7,if_pos (show D d k<0 by omega)]
 .unfold lX sW;rw[Q0]
def Ecc (g:GR) (s:Nat) (r:Int):Prop:=∃d,jY 1000 g (s:Int)=some d/\BQ g s d/\(∀v,v<g.2.length->D d v<=r)/\∃v,v<g.2.length/\D d v=r
theorem Vs {g:GR} (e:VG g) {s:Nat} (i:s<g.2.length):∃d r,jY 1000 g (s:Int)=some d/\oE 1000 d=some r/\Ecc g s r:=by
 have⟨d,f,a⟩:=K_ e i;have h:=a.len;have j:=e.n24;have⟨r,l,o,b,c⟩:=Ts d V7;have n:=b s V7;have:=(a.zero s i).2 Z;refine⟨d,r,f,l,d,f,a,λv m=>b v V7,?_⟩
 rcases c with c|⟨v,m,k⟩
 .omega
 .exact⟨v,V7,k⟩
theorem FM {g:GR} (a:VG g) (f:Ep g) {s:Nat} (h:s<g.2.length):OK (Ecc g s) (jE 1000 g (s:Int)):=by
 unfold jE lS;rw[(CI a).1 f,bA Z,if_neg V8,Q0,zA6 V7,if_neg V8];have⟨d,r,b,c,e⟩:=Vs a h;rw[b,bA Z,c,bA Z];exact⟨r,rfl,e⟩
theorem PU (g:GR) (v:Nat) (u:Int) (m:v<g.2.length) (l:(row g v).length<=30):mV 1000 g v u=some (Cr (row g v) u):=by
 unfold mV;rw[Q7];rcases Fw (row g v) u with⟨i,j,h,c,b⟩|⟨c,b⟩
 .rw[b];refine Hy (λx:Int=>∃k:Nat,x=k/\k<=i) (λx=>31 - x.toNat) ?_ 1000 _ ⟨0,rfl,V7⟩ V7;rintro x d ⟨k,rfl,f⟩ a;unfold yS;rw[if_pos (show(k:Int)<((row g v).length:Int) by omega),cR (show 0<=(k:Int)/\(k:Int)<((row g v).length:Int) by omega)];by_cases e:k=i
  .subst e;exact if_pos h
  .rw[if_neg (c k V7),Q9];exact a _ ⟨k+1,V7,V7⟩ V7
 .rw[b];refine Hy (λx:Int=>∃k:Nat,x=k/\k<=(row g v).length) (λx=>31 - x.toNat) ?_ 1000 _ ⟨0,rfl,V7⟩ V7;rintro x d ⟨k,rfl,f⟩ a;unfold yS;by_cases e:k<(row g v).length
  .rw[if_pos (show(k:Int)<((row g v).length:Int) by omega),cR (show 0<=(k:Int)/\(k:Int)<((row g v).length:Int) by omega),if_neg (c k e),Q9];exact a _ ⟨k+1,V7,V7⟩ V7
  .rw[if_neg (show¬(k:Int)<((row g v).length:Int) by omega)];rfl
def amD (f:Nat->Nat):Nat->Nat
 |0=>0
 |k+1=>amD f k+f k
theorem agM (a:Nat) (h:a<4294967296):IntKind.u32.wrap (a:Int)=a:=by rw[<-Qp];exact if_pos ⟨V7,V7⟩
def N32 (x:Int):Nat:=(BitVec.ofInt 32 x).toNat
theorem aai (x:Int):N32 x<4294967296:=(BitVec.ofInt 32 x).isLt
theorem WB {a:Nat} (h:a<4294967296):N32 (a:Int)=a:=by
 unfold N32;rw[BitVec.ofInt_natCast,BitVec.toNat_ofNat];exact Nat.mod_eq_of_lt h
theorem ahi (x y:Int):bOr .u32 x y=((N32 x ||| N32 y:Nat):Int):=by
 show IntKind.u32.wrap (((BitVec.ofInt 32 x ||| BitVec.ofInt 32 y).toNat:Nat):Int)=_;rw[BitVec.toNat_or];exact agM _ (Nat.or_lt_two_pow (n:=32) (aai x) (aai y))
theorem agC {k:Nat} (a:k<32):2^k<4294967296:=Nat.pow_lt_pow_right (n:=32) V7 a
theorem ajv {k:Nat} (a:k<32):YD .u32 1 (k:Int)=((2^k:Nat):Int):=by
 show IntKind.u32.wrap (1*2^(min ((k:Int).toNat) 32))=_;rw[zAf,Nat.min_eq_left V7,Int.one_mul,show(2:Int)^k=((2^k:Nat):Int) by simp];exact agM _ (agC a)
theorem BQ.lt {g:GR} {s:Nat} {d:aX} (h:BQ g s d) {v:Nat} (p:v<g.2.length):D d v<(g.2.length:Int):=by
 apply Classical.byContradiction;intro t;have all:∀m:Nat,(m:Int)<=D d v->∃w,w<g.2.length/\D d w=D d v - m:=by
  intro m
  induction m with
  |zero=>intro _;exact⟨v,p,V7⟩
  |succ m q=>
   intro x;have⟨w,e,c⟩:=q V7;have⟨u,n,_,o⟩:=h.near w e V7;exact⟨u,n,V7⟩
 have b:∀i:Nat,i<g.2.length+1->∃w,w<g.2.length/\D d w=(i:Int):=by
  intro i a;have⟨w,e,c⟩:=all (D d v - i).toNat V7;exact⟨w,e,V7⟩
 have:=N_ g.2.length (λi=>if a:i<g.2.length+1 then Classical.choose (b i a)else 0) (g.2.length+1) (λi a=>by
  rw[dif_pos a];exact(Classical.choose_spec (b i a)).1) (λi j l f c=>by
  rw[dif_pos V7,dif_pos f]at c;have k:=(Classical.choose_spec (b i V7)).2;have r:=(Classical.choose_spec (b j f)).2;rw[c]at k;omega)
 omega
def T (e:aX) (k v w:Nat):Int:=if 0<=D e w/\(D e w<k\/(D e w=k/\w<v))then D e w else -1
theorem abS {d e:aX} (c:d.length=e.length) (h:∀v,v<d.length->D d v=D e v):d=e:=by
 apply List.ext_getElem c;intro i a b;rw[<-Hl a,<-Hl b];exact h i a
theorem Nt {g:GR} (b:VG g) {s:Nat} (i:s<g.2.length) {d:aX} (a:BQ g s d):(∀v,v<d.length->0<=D d v)↔Ep g:=by
 have c:=a.len;constructor
 .intro h u v j e;exact⟨_,xZ.trans (Jh b (BQ.pos b a j (h u V7))) (BQ.pos b a e (h v V7))⟩
 .intro h v e;have⟨k,f⟩:=h s v i V7;exact(BQ.le b a f).1
theorem abF {X R:Type} {step:X->(X->V1 R)->V1 R} {K:X->V1 R} {bad:R} (N:Nat) (p:Nat->Prop) (I:Nat->X->Prop) (B:Nat)
  (t:∀(k:Nat) x q,k<N->k<B->I k x->p k->∃c,I (k+1) c/\step x q=q c) (l:∀(k:Nat) x q,k<N->k<B->I k x->¬p k->step x q=some bad) (s:∀x q,I N x->N<B->step x q=K x):
  ∀(b:Nat) (x:X),I 0 x->B<=b->(N<B\/∃k,k<N/\k<B/\¬p k)->((∀k,k<N->p k)->∃c,I N c/\bE step b x=K c)/\(¬(∀k,k<N->p k)->bE step b x=some bad):=by
 intro b x e v hB;have r:∀(d a b:Nat) (x:X),I a x->a+d<N->a+d<B->¬p (a+d)->d<b->bE step b x=some bad:=by
  intro d
  induction d with
  |zero=>
   intro a b x e j g i v;obtain⟨f,rfl⟩:∃f,b=f+1:=⟨b - 1,V7⟩
   exact l a x _ j g e i
  | succ d y =>
   intro a b x e j g i v;obtain⟨f,rfl⟩:∃f,b=f+1:=⟨b - 1,V7⟩
   by_cases u:p a
   .have⟨c,n,o⟩:=t a x (bE step f) V7 V7 e u;have o:bE step (f+1) x=bE step f c:=o;rw[o];exact y (a+1) f c n V7 V7 (by rw[show a+1+d=a+(d+1) by omega];exact i) V7
   .exact l a x _ V7 V7 e u
 have m:∀(d a b:Nat) (x:X),I a x->a+d=N->N<B->(∀k,a<=k->k<N->p k)->d<b->∃c,I N c/\bE step b x=K c:=by
  intro d
  induction d with
  |zero=>
   intro a b x e j g i v;obtain⟨f,rfl⟩:∃f,b=f+1:=⟨b - 1,V7⟩
   obtain rfl:a=N:=V7
   exact⟨x,e,s x _ e g⟩
  |succ d y=>
   intro a b x e j g i v;obtain⟨f,rfl⟩:∃f,b=f+1:=⟨b - 1,V7⟩
   have⟨c,n,o⟩:=t a x (bE step f) V7 V7 e (i a (zAg _) V7);have o:bE step (f+1) x=bE step f c:=o;rw[o];exact y (a+1) f c n V7 g (λk j g=>i k V7 g) V7
 constructor
 .intro h;rcases hB with hB|⟨k,j,_,g⟩
  .exact m N 0 b x e V7 hB (λk _ w=>h k w) V7
  .exact absurd (h k j) g
 .intro h;have:∃k,k<N/\k<B/\¬p k:=by
   rcases hB with hB|hB
   .apply Classical.byContradiction;intro A;exact h λk w=>Classical.byContradiction λi=>A ⟨k,w,V7,i⟩
   .exact hB
  have⟨k,j,g,z⟩:=this;exact r k 0 b x e V7 V7 (by rw[Nat.zero_add];exact z) V7
theorem Zu {a:gY} (q:a.length<=30) {v:Nat} (r:v<a.length):(at' a (v:Int)).length<1000\/∃k,k<(at' a (v:Int)).length/\k<1000/\¬MX (at' a (v:Int)) v a.length k:=by
 by_cases h:(at' a (v:Int)).length<1000
 .exact .inl h
 .right;apply Classical.byContradiction;intro f;have b:∀k,k<40->MX (at' a (v:Int)) v a.length k:=λk p=>Classical.byContradiction λl=>f ⟨k,V7,V7,l⟩;have:=N_ a.length (λi=>(gR (at' a (v:Int)) i).1.toNat) 40 (λi g=>by have:=(b i g).1;omega) (λi j c d o=>by
   have m:=(b i V7).1;have n:=(b j d).1;have e:=(b j d).2.2.2 i c;exact e V7)
  omega
theorem Is (c:gY) (hn:c.length<=30):(Pp c->iR 1000 c=some true)/\(¬Pp c->iR 1000 c=some false):=by
 unfold iR;have s:∀(v:Nat) (m:V6 ((Int×Int)×Int)) p,v<c.length->(∀z,z∈m↔SI c v 0 z)->
   (yN (at' c (v:Int)) v c.length->∃Y,(∀z,z∈Y↔SI c (v+1) 0 z)/\bE (dK c ((v:Int),m) p) 1000 ((0:Int),m)=p ((v:Int)+1,Y))/\
   (¬yN (at' c (v:Int)) v c.length->bE (dK c ((v:Int),m) p) 1000 ((0:Int),m)=some false):=by
  intro v m p F hm;have L:=Zu hn F;have S:=abF (step:=dK c ((v:Int),m) p) (K:=λx=>p ((v:Int)+1,x.2)) (bad:=false) (at' c (v:Int)).length (MX (at' c (v:Int)) v c.length) (λi x=>x.1=(i:Int)/\∀z,z∈x.2↔SI c v i z) 1000 ?_ ?_ ?_ 1000 ((0:Int),m) ⟨rfl,hm⟩ V7 L
  .refine⟨λh=>?_,λh=>S.2 h⟩
   have⟨x,⟨ah,ae⟩,f⟩:=S.1 h;refine⟨x.2,λz=>(ae z).trans ⟨?_,?_⟩,f⟩
   .rintro⟨a,b,y,e,l⟩;exact⟨a,b,V7,e,l⟩
   .rintro⟨a,b,y,e,l⟩;refine⟨a,b,?_,e,l⟩
    by_cases X:a=v
    .subst X;exact .inr ⟨rfl,e⟩
    .omega
  .rintro i ⟨H,g⟩ I N ac ⟨f,d⟩ ⟨p1,p2,p3,p4⟩;dsimp only at f d;subst f;have q:q_ (((v:Int),(gR (at' c (v:Int)) i).1)) g=none:=by
    apply KN;intro w hw;have⟨a,b,y,e,l⟩:=(d _).1 hw;simp only[Prod.mk.injEq]at l;have⟨⟨C,A⟩,_⟩:=l;have:a=v:=V7
    subst this;have hb:b<i:=V7
    exact p4 b hb A.symm
   refine⟨((i:Int)+1,HV (((v:Int),(gR (at' c (v:Int)) i).1)) (gR (at' c (v:Int)) i).2 g),⟨V8,λz=>?_⟩,?_⟩
   .dsimp only;rw[TE q,d];constructor
    .rintro(rfl|⟨a,b,y,e,l⟩)
     .exact⟨v,i,.inr ⟨rfl,V7⟩,N,rfl⟩
     .exact⟨a,b,V7,e,l⟩
    .rintro⟨a,b,y,e,l⟩;by_cases J:a=v/\b=i
     .left;rw[l,J.1,J.2]
     .right;exact⟨a,b,V7,e,l⟩
   .replace p1:0<=(at' (at' c (v:Int)) (i:Int)).1/\(at' (at' c (v:Int)) (i:Int)).1<=(c.length:Int) - 1:=p1;replace p3:1<=(at' (at' c (v:Int)) (i:Int)).2/\(at' (at' c (v:Int)) (i:Int)).2<=15:=p3;unfold dK jD kG;dsimp only;rw[Q3,Q7,Q0,Q0,if_neg (by rw[zA6 p2];simp),Q0,if_neg (by rw[zA6 V7];simp),q,if_neg V8,Q9]
  .rintro i ⟨H,g⟩ I N ac ⟨f,d⟩ Q;dsimp only at f d;subst f;unfold dK jD kG;dsimp only;rw[Q3,Q7];by_cases y:(gR (at' c (v:Int)) i).1<0
   .rw[if_pos y,if_pos Z]
   rw[if_neg y];by_cases e:(c.length:Int)<=(gR (at' c (v:Int)) i).1
   .rw[if_pos e,if_pos Z]
   rw[if_neg e];by_cases l:(gR (at' c (v:Int)) i).1=v
   .rw[if_pos (zAe l)]
   rw[if_neg (by rw[zA6 l];simp)];by_cases C:(gR (at' c (v:Int)) i).2<1
   .rw[if_pos C,if_pos Z]
   rw[if_neg C];by_cases A:15<(gR (at' c (v:Int)) i).2
   .rw[if_pos (zAe A)]
   rw[if_neg (by rw[zA6 A];simp)];have:∃k,k<i/\(gR (at' c (v:Int)) k).1=(gR (at' c (v:Int)) i).1:=by
    apply Classical.byContradiction;intro hc;exact Q ⟨V7,l,V7,λk O M=>hc ⟨k,O,M⟩⟩
   have⟨k,O,M⟩:=this;have n:=(d _).2 ⟨v,k,.inr ⟨rfl,O⟩,V7,rfl⟩;rw[if_pos];rw[<-M];cases q:q_ (((v:Int),(gR (at' c (v:Int)) k).1)) g with
   |some w=>rfl
   | none =>exact absurd n (by
     intro n;exact yG q n)
  .rintro⟨H,g⟩ I ⟨f,d⟩ _;dsimp only at f d;subst f;unfold dK oS;dsimp only;rw[Q0,Q9]
 have t:=Jz (step:=dY 1000 c) (K:=λx=>kF x.2) (bad:=false) c.length (λv=>yN (at' c (v:Int)) v c.length) (λv x=>x.1=(v:Int)/\∀z,z∈x.2↔SI c v 0 z) ?_ ?_ ?_ 1000 ((0:Int),[]) ⟨rfl,λz=>⟨λh=>(by cases h),fun⟨a,b,y,_⟩=>V7⟩⟩ V7
 rotate_left
 .rintro v ⟨H,g⟩ p F ⟨f,d⟩ Q;dsimp only at f d;subst f;have⟨Y,y,e⟩:=(s v g p F d).1 Q;refine⟨((v:Int)+1,Y),⟨V8,y⟩,?_⟩
  .unfold dY;dsimp only;rw[Q3,Q7];exact e
 .rintro v ⟨H,g⟩ p F ⟨f,d⟩ Q;dsimp only at f d;subst f;unfold dY;dsimp only;rw[Q3,Q7];exact(s v g p F d).2 Q
 .rintro⟨H,g⟩ p ⟨f,d⟩;dsimp only at f d;subst f;unfold dY;dsimp only;rw[Q0]
 by_cases D:∀v,v<c.length->yN (at' c (v:Int)) v c.length
 rotate_left
 .exact⟨λh=>absurd h.1 D,λ_=>t.2 D⟩
 have⟨⟨H,g⟩,⟨f,d⟩,M⟩:=t.1 D;rw[M];dsimp only at d ⊢;have O:kF g=some (decide (∀z∈g,¬(Option.getD (q_ (z.1.2,z.1.1) g) (0:Int))≠z.2)):=NW (λz:(Int×Int)×Int=>(Option.getD (q_ (z.1.2,z.1.1) g) (0:Int))≠z.2) g;rw[O];have E:(∀z∈g,¬(Option.getD (q_ (z.1.2,z.1.1) g) (0:Int))≠z.2)↔∀v,v<c.length->∀i,i<(at' c (v:Int)).length->Po ([],c) v i:=by
  constructor
  .intro h v F i N;have hw:=(D v F i N).2.2.1;have n:=(d (((v:Int),(gR (at' c (v:Int)) i).1),(gR (at' c (v:Int)) i).2)).2 ⟨v,i,.inl F,N,rfl⟩;have e:=zAw.1 (h _ n);dsimp only at e;cases q:q_ ((gR (at' c (v:Int)) i).1,(v:Int)) g with
   |none=>rw[q]at e;simp only[Option.getD]at e;omega
   | some w =>
    rw[q]at e;simp only[Option.getD]at e;have⟨a,b,l,C,A⟩:=(d _).1 (EH q);simp only[Prod.mk.injEq]at A;have⟨⟨U,V⟩,h8⟩:=A;refine⟨b,?_,?_,?_⟩
    .show b<(at' c (gR (at' c (v:Int)) i).1).length;rw[U];exact C
    .show(gR (at' c (gR (at' c (v:Int)) i).1) b).1=v;rw[U];exact V.symm
    .show(gR (at' c (gR (at' c (v:Int)) i).1) b).2=(gR (at' c (v:Int)) i).2;rw[U,<-h8];exact e
  .intro h z hz ad;obtain⟨a,b,l,C,rfl⟩:=(d z).1 hz;have X:a<c.length:=V7
   apply ad;have⟨j,r,o,B⟩:=h a X b C;have hu:=(D a X b C).1;obtain⟨u,R⟩:∃u:Nat,(gR (at' c (a:Int)) b).1=u:=⟨(gR (at' c (a:Int)) b).1.toNat,V7⟩
   replace r:j<(at' c (gR (at' c (a:Int)) b).1).length:=r;replace o:(gR (at' c (gR (at' c (a:Int)) b).1) j).1=a:=o;replace B:(gR (at' c (gR (at' c (a:Int)) b).1) j).2=(gR (at' c (a:Int)) b).2:=B;rw[R]at r o B;have G:u<c.length:=V7
   dsimp only;rw[R,<-B];have n:=(d (((u:Int),(gR (at' c (u:Int)) j).1),(gR (at' c (u:Int)) j).2)).2 ⟨u,j,.inl G,r,rfl⟩;rw[o]at n;cases q:q_ ((u:Int),(a:Int)) g with
   |none=>exact absurd n (yG q)
   | some w =>
    have⟨a',T,af,aa,A⟩:=(d _).1 (EH q);simp only[Prod.mk.injEq]at A;have⟨⟨U,V⟩,h8⟩:=A;have:a'=u:=V7
    subst this;have ab:T=j:=by
     rcases Nat.lt_trichotomy T j with P|P|P
     .exact absurd (V.symm.trans o.symm) ((D a' G j r).2.2.2 T P)
     .exact P
     .exact absurd (o.trans V) ((D a' G T aa).2.2.2 j P)
    subst ab;exact h8
 by_cases W:∀v,v<c.length->∀i,i<(at' c (v:Int)).length->Po ([],c) v i
 .rw[zAe (E.2 W)];exact⟨λ_=>rfl,λh=>absurd ⟨D,W⟩ h⟩
 .rw[zA6 (λh=>W (E.1 h))];exact⟨λh=>absurd h.2 W,λ_=>rfl⟩
theorem Lo (g:GR):(VG g->gO 1000 g=some true)/\(¬VG g->gO 1000 g=some false):=by
 unfold gO rW rX;by_cases e:g.1.length<1
 .rw[Q3];exact⟨λh=>by have:=h.n1;have:=h.len;omega,λ_=>rfl⟩
 rw[Q0];by_cases f:24<g.1.length
 .rw[Q3];exact⟨λh=>by have:=h.n24;have:=h.len;omega,λ_=>rfl⟩
 rw[Q0];by_cases d:g.1.length=g.2.length
 rotate_left
 .rw[zAe V7];exact⟨λh=>absurd h.len d,λ_=>rfl⟩
 rw[zA6 V7,if_neg V8];by_cases b:∀k,k<g.1.length->ZW g.1 k
 rotate_left
 .rw[(yO g.1 V7).2 b,bA Z];exact⟨λh=>absurd (λk i=>⟨(h.node k V7).id,(h.node k V7).ids⟩) b,λ_=>rfl⟩
 rw[(yO g.1 V7).1 b,bA Z,if_pos Z];by_cases a:Pp g.2
 .rw[(Is g.2 V7).1 a];exact⟨λ_=>rfl,λh=>absurd ⟨V7,V7,d,λv c=>⟨(b v V7).1,Vq c (a.1 v c),a.1 v c,(b v V7).2⟩,a.2⟩ h⟩
 .rw[(Is g.2 V7).2 a];exact⟨λh=>absurd ⟨λv c=>(h.node v c).links,h.sym⟩ a,λ_=>rfl⟩
abbrev UX:=Ae
theorem fZ (v m:Int) (g:1<=m) (h:m<=4611686018427387904):dH 1000 v m=some (v%m):=by
 unfold dH tZ;rw[Q0,Q7];have c:=Int.tmod_eq_emod (a:=v) (b:=m);have f:=zB9 v (show m≠0 by omega);have i:=zB0 v (show 0<m by omega);by_cases e:0<=v\/m∣v
 .rw[if_pos e]at c;have d:v.tmod m=v%m:=by simpa using c
  rw[d,Q0]
 .rw[if_neg e]at c;have:(m.natAbs:Int)=m:=V7
  rw[c,Q3,Q9];congr 1;omega
theorem Pq (l:aX) (i:Int) (h:0<=i):vR 1000 l i=some (at' l i):=by
 unfold vR;by_cases a:i<(l.length:Int)
 .rw[if_pos a,cR ⟨h,a⟩]
 .rw[if_neg a];unfold at';rw[zA9,zAq V7];rfl
theorem TJ {i:Type} [DecidableEq i]:∀(e c:V6 i),e.Nodup->(∀x∈e,x∈c)->e.length<=c.length
 | [],_,_,_=>Nat.zero_le _
 | a :: t, c, hn, hs =>by
  have b:=zBf.1 hn;have f:=hs a (zAd ..);have:=TJ t (c.erase a) b.2 λx h=>by
   have d:x≠a:=λj=>b.1 (j▸h);exact(List.mem_erase_of_ne d).2 (hs x (zAk _ h))
  rw[List.length_erase_of_mem f]at this;have g:0<c.length:=List.length_pos_of_mem f;simp only[zAa];omega
theorem adi (d:Int) (c:aX) (t:Nat) (k:t<=200) (h:∀s,s<t->(d+(s:Int))%256∈c):t<=c.length:=by
 have:=TJ ((List.range t).map λs:Nat=>(d+(s:Int))%256) c (by
  rw[List.nodup_iff_pairwise_ne,List.pairwise_map];refine List.Pairwise.imp_of_mem ?_ List.pairwise_lt_range;intro a b e g f;rw[zAj]at e g;omega) (λx j=>by
  obtain⟨s,i,rfl⟩:=zAr.1 j;exact h s (zAj.1 i))
 simpa using this
structure MS (ids:aX):Prop where
 rng:∀y∈ids,0<=y/\y<=255
 nd:ids.Nodup
theorem MS.snoc {c:aX} {y:Int} (h:MS c) (j:0<=y/\y<=255) (i:y∉c):MS (c++[y]):=by
 refine⟨λz d=>?_,?_⟩
 .rcases zB1.1 d with d|d
  .exact h.rng z d
  .rw[List.mem_singleton.1 d];exact j
 .rw[List.nodup_append];refine⟨h.nd,V8,?_⟩
  intro a e b f;rw[List.mem_singleton.1 f];exact λg=>i (g▸e)
theorem EG {a:Type} [Inhabited a] {l:V6 a} {i:Nat} (h:i<l.length):at' l (i:Int)∈l:=by
 rw[kT,zA9,zA0 h];exact List.getElem_mem h
theorem Hr {a:Type} [Inhabited a] {l:V6 a} {x:a} (h:x∈l):∃i,i<l.length/\at' l ((i:Nat):Int)=x:=by
 have⟨i,b,c⟩:=List.getElem_of_mem h;refine⟨i,b,?_⟩
 rw[kT,zA9,zA0 b];exact c
theorem abt {Q:V6 Int×gY->Prop} {a:aX} (H:a.length<=24) (b:Int) (r:nD->V1 (V6 Int×gY))
  (m:∀y,0<=y->y<=255->y∉a->OK Q (r ((a.length:Int)+1,a++[y]))):OK Q (bE (mQ ((a.length:Int),a) r) 1000 (b%256,0)):=by
 refine wP (λs:e_=>∃(t u:Nat),s.1=(b+(t:Int))%256/\s.2=u/\u<=a.length/\t<=a.length/\(∀k,k<t->(b+(k:Int))%256∈a)/\∀j,j<u->at' a (j:Int)≠s.1)
  (λs=>(a.length - ((s.1 - b)%256).toNat)*30+(a.length - s.2.toNat)) ?_ 1000 _ ⟨0,0,V8,rfl,V7,V7,λk p=>V7,λj o=>V7⟩ ?_
 .rintro⟨i,j⟩ z ⟨t,u,g,v,F,C,w,l⟩ d;dsimp only at g v l;subst v;unfold mQ vD mP;dsimp only;by_cases x:(u:Int)<(a.length:Int)
  .rw[if_pos x,Q7];by_cases f:at' a (u:Int)=i
   .rw[if_pos f,cR Q2];have n:(b+(t:Int))%256∈a:=by rw[<-g,<-f];exact EG V7
    have c:∀k,k<t+1->(b+(k:Int))%256∈a:=λk p=>by
     rcases Nat.lt_succ_iff_lt_or_eq.1 p with h|h
     .exact w k h
     .subst h;exact n
    have E:=adi b a (t+1) V7 c;have G:0<=i/\i<=255:=V7
    rw[Q9,Int.tmod_eq_emod_of_nonneg V7,Q9];refine d _ ⟨t+1,0,?_,V8,V7,E,c,λj o=>V7⟩ ?_
    .dsimp only;omega
    .dsimp only;have A:((i+1)%256 - b)%256=(t:Int)+1:=V7
     have B:(i - b)%256=(t:Int):=V7
     rw[A,B];omega
   .rw[if_neg f,Q9];refine d _ ⟨t,u+1,g,by dsimp only;omega,V7,C,w,λj o=>?_⟩ ?_
    .rcases Nat.lt_succ_iff_lt_or_eq.1 o with h|h
     .exact l j h
     .subst h;exact f
    .dsimp only;omega
  .rw[if_neg x];rw[cR Q1,Q9];refine m i V7 V7 λD=>?_;have⟨k,p,q⟩:=Hr D;exact l k V7 q
 .dsimp only;have e:(b%256 - b)%256=0:=V7
  rw[e];omega
theorem ack (x:UX) (a:Nat) (u:1<=a) (k:a<=24):OK (λg:GR=>MS g.1/\g.2=List.replicate g.1.length []/\1<=g.1.length/\g.1.length<=a) (rI 1000 x (a:Int)):=by
 unfold rI;rw[bA (fZ _ _ V7 V7)];generalize f:(wI .i64 (x.1 - 1))%(a:Int)=r;have m:0<=r:=by rw[<-f];exact zB9 _ V7
 have n:r<a:=by rw[<-f];exact zB0 _ V7
 have i:wI .i64 (1+r)=1+r:=Q9;rw[i,Q7];refine wP (λs:nD=>s.1=(s.2.length:Int)/\(s.2.length:Int)<=1+r/\MS s.2) (λs=>(1+r - s.1).toNat) ?_ 1000 _ ⟨rfl,Q1,⟨λy o=>by simp at o,List.nodup_nil⟩⟩ (by dsimp only;omega);rintro⟨v,d⟩ j ⟨e,l,c⟩ b;dsimp only at e l c;subst e;unfold kL qJ;dsimp only;rw[i];by_cases h:(d.length:Int)<1+r
 .rw[if_pos h,bA (Pq _ _ V7),bA (fZ _ _ Q2 Q2)];exact abt V7 _ j λy p q t=>b _ ⟨V8,Q1,c.snoc ⟨p,q⟩ t⟩ (by dsimp only;omega)
 .rw[if_neg h];refine⟨_,rfl,c,?_,by dsimp only;omega,by dsimp only;omega⟩
  dsimp only;congr 1;omega
structure VM (ids:aX) (P:gY):Prop where
 n1:1<=P.length
 n24:P.length<=24
 len:ids.length=P.length
 ok:MS ids
 nd:∀v:Nat,v<P.length->((at' P (v:Int)).map Prod.fst).Nodup
 lk:∀v:Nat,v<P.length->∀x∈at' P (v:Int),(0<=x.1/\x.1<=(P.length:Int) - 1)/\x.1≠(v:Int)/\(1<=x.2/\x.2<=15)/\((v:Int),x.2)∈at' P x.1
theorem acl {d:Type} [Inhabited d] {l:V6 d} (h:l.Nodup) {i j:Nat} (b:i<l.length) (c:j<l.length) (a:i<j):at' l (i:Int)≠at' l (j:Int):=by
 rw[kT,kT,zA9,zA9,zA0 b,zA0 c];exact List.pairwise_iff_getElem.1 (List.nodup_iff_pairwise_ne.1 h) i j b c a
theorem VM.vg {ids:aX} {P:gY} (h:VM ids P):VG (ids,P):=by
 have hlen:=h.len;have links:∀v,v<P.length->yN (row (ids,P) v) v P.length:=by
  intro v hv i hi;have hm:gR (row (ids,P) v) i∈at' P (v:Int):=EG hi;obtain⟨a1,a2,a3,_⟩:=h.lk v hv _ hm;refine⟨a1,a2,a3,λk hk=>?_⟩
  have hk2:k<(row (ids,P) v).length:=by omega
  have:=List.pairwise_iff_getElem.1 (List.nodup_iff_pairwise_ne.1 (h.nd v hv)) k i (by simpa using hk2) (by simpa using hi) hk;rw[List.getElem_map,List.getElem_map]at this;have e:∀j (hj:j<(row (ids,P) v).length),gR (row (ids,P) v) j=(at' P (v:Int))[j]'hj:=λj hj=>by
   unfold gR;rw[kT,zA9,zA0 hj];rfl
  rw[e k hk2,e i hi];exact this
 refine⟨h.n1,h.n24,h.len,λv hv=>⟨?_,Vq hv (links v hv),links v hv,λk hk=>?_⟩,λv hv i hi=>?_⟩
 .exact h.ok.rng _ (EG (by dsimp only at hv ⊢;omega))
 .exact acl h.ok.nd (by dsimp only at hv ⊢;omega) (by dsimp only at hv ⊢;omega) hk
 .have hm:gR (row (ids,P) v) i∈at' P (v:Int):=EG hi;obtain⟨_,_,_,a4⟩:=h.lk v hv _ hm;obtain⟨j,hj,he⟩:=Hr a4;exact⟨j,hj,by unfold gR;rw[he],by unfold gR;rw[he]⟩
theorem VM.start {a:aX} (h:MS a) (d:1<=a.length) (b:a.length<=24):VM a (List.replicate a.length []):=by
 have e:∀v:Nat,at' (List.replicate a.length ([]:iF)) (v:Int)=[]:=λv=>by
  rw[kT,zA9,List.getElem?_replicate];split<;>rfl
 refine⟨by simpa using d,by simpa using b,V8,h,λv _=>by rw[e];exact List.nodup_nil,λv _ x c=>?_⟩
 rw[e]at c;cases c
def oI (P:gY) (v u:Nat):Prop:=∃x∈at' P (v:Int),x.1=(u:Int)
theorem PQ (d:aX) (P:gY) (a b:Nat) (u:a<P.length) (w:(at' P (a:Int)).length<=900):(oI P a b->oZ 1000 (d,P) a b=some true)/\(¬oI P a b->oZ 1000 (d,P) a b=some false):=by
 have c:∀(r:V4),(r=true->oI P a b)->(r=false->¬oI P a b)->oZ 1000 (d,P) a b=some r:=by
  intro r q p;unfold oZ;refine Hy (λi:Int=>∃k:Nat,i=k/\k<=(at' P (a:Int)).length/\∀j,j<k->(at' (at' P (a:Int)) ((j:Nat):Int)).1≠(b:Int)) (λi=>(at' P (a:Int)).length - i.toNat) ?_ 1000 0 ⟨0,rfl,V7,λj m=>V7⟩ V7;rintro i t ⟨k,rfl,v,f⟩ g;unfold Cw zK;dsimp only;rw[Q7];by_cases o:(k:Int)<((at' P (a:Int)).length:Int)
  .rw[if_pos o,Q7,Q7];by_cases e:(at' (at' P (a:Int)) (k:Int)).1=(b:Int)
   .rw[if_pos e];cases r with
    |true=>rfl
    |false=>exact absurd ⟨_,EG V7,e⟩ (p Z)
   .rw[if_neg e,Q9];refine g _ ⟨k+1,V7,V7,λj m=>?_⟩ V7;rcases Nat.lt_succ_iff_lt_or_eq.1 m with h|h
    .exact f j h
    .subst h;exact e
  .rw[if_neg o];cases r with
   |false=>rfl
   |true=>
    have⟨x,s,e⟩:=q Z;have⟨j,m,n⟩:=Hr s;exact absurd (by rw[n];exact e) (f j V7)
 exact⟨λh=>c true (λ_=>h) (λl=>by cases l),λh=>c false (λl=>by cases l) (λ_=>h)⟩
theorem aee (P:gY) (a b:Nat) (x y:iF) (e:a<P.length) (f:b<P.length) (v:Nat):at' ((P.set a x).set b y) (v:Int)=if v=b then y else if v=a then x else at' P (v:Int):=by
 rw[kT,kT,zA9,zA9,List.getElem?_set,List.getElem?_set];by_cases h:v=b
 .subst h;rw[if_pos Z,if_pos Z,if_pos (by simpa using f)];rfl
 .rw[if_neg (λd=>h d.symm),if_neg h];by_cases c:v=a
  .subst c;rw[if_pos Z,if_pos Z,if_pos e];rfl
  .rw[if_neg (λd=>c d.symm),if_neg c]
theorem VM.add {m:aX} {P:gY} (h:VM m P) {a b:Nat} {w:Int} (J:a<P.length) (A:b<P.length) (p:a≠b) (B:¬oI P a b) (D:1<=w/\w<=15)
  {x y:iF} (E:x.Perm (((b:Int),w)::at' P (a:Int))) (F:y.Perm (((a:Int),w)::at' P (b:Int))):
  VM m ((P.set a x).set b y)/\(∀v u,oI P v u->oI ((P.set a x).set b y) v u)/\oI ((P.set a x).set b y) a b:=by
 have r:¬oI P b a:=by
  rintro⟨z,g,i⟩;have⟨_,_,_,l⟩:=h.lk b A z g;rw[i]at l;exact B ⟨_,l,rfl⟩
 have C:=aee P a b x y J A;have k:((P.set a x).set b y).length=P.length:=V8
 have d:∀(v:Nat) (z:e_),z∈at' ((P.set a x).set b y) (v:Int)↔z∈at' P (v:Int)\/(v=b/\z=((a:Int),w))\/(v=a/\z=((b:Int),w)):=by
  intro v z;rw[C v];by_cases f:v=b
  .subst f;rw[if_pos Z,F.mem_iff,zAn];constructor
   .rintro(c|c)
    .exact .inr (.inl ⟨rfl,c⟩)
    .exact .inl c
   .rintro(c|⟨_,c⟩|⟨e,_⟩)
    .exact .inr c
    .exact .inl c
    .exact absurd e.symm p
  .rw[if_neg f];by_cases c:v=a
   .subst c;rw[if_pos Z,E.mem_iff,zAn];constructor
    .rintro(e|e)
     .exact .inr (.inr ⟨rfl,e⟩)
     .exact .inl e
    .rintro(e|⟨n,_⟩|⟨_,e⟩)
     .exact .inr e
     .exact absurd n f
     .exact .inl e
   .rw[if_neg c];exact⟨.inl,λe=>e.elim id λn=>n.elim (λo=>absurd o.1 f) λo=>absurd o.1 c⟩
 refine⟨⟨by rw[k];exact h.n1,by rw[k];exact h.n24,by rw[k];exact h.len,h.ok,λv j=>?_,λv j z g=>?_⟩,λv u s=>?_,?_⟩
 .rw[k]at j;rw[C v];by_cases f:v=b
  .subst f;rw[if_pos Z,(F.map Prod.fst).nodup_iff,zBd,zBf];exact⟨λq=>by have⟨z,g,i⟩:=zAr.1 q;exact r ⟨z,g,i⟩,h.nd v j⟩
  .rw[if_neg f];by_cases c:v=a
   .subst c;rw[if_pos Z,(E.map Prod.fst).nodup_iff,zBd,zBf];exact⟨λq=>by have⟨z,g,i⟩:=zAr.1 q;exact B ⟨z,g,i⟩,h.nd v j⟩
   .rw[if_neg c];exact h.nd v j
 .rw[k]at j ⊢;rcases(d v z).1 g with f|⟨rfl,rfl⟩|⟨rfl,rfl⟩
  .have⟨G,H,I,t⟩:=h.lk v j z f;refine⟨G,H,I,?_⟩
   obtain⟨u,K⟩:∃u:Nat,z.1=u:=⟨z.1.toNat,V7⟩
   rw[K]at t ⊢;exact(d u _).2 (.inl t)
  .exact⟨by dsimp only;omega,by dsimp only;omega,D,(d a _).2 (.inr (.inr ⟨rfl,rfl⟩))⟩
  .exact⟨by dsimp only;omega,by dsimp only;omega,D,(d b _).2 (.inr (.inl ⟨rfl,rfl⟩))⟩
 .have⟨z,g,i⟩:=s;exact⟨z,(d v z).2 (.inl g),i⟩
 .exact⟨_,(d a _).2 (.inr (.inr ⟨rfl,rfl⟩)),rfl⟩
theorem XA (x:UX) {c:aX} {P:gY} (h:VM c P) {a b:Nat} {w:Int} (g:a<P.length) (m:b<P.length) (o:1<=w/\w<=15):
  ∃f,oU 1000 x (c,P) a b w=some f/\VM c f/\f.length=P.length/\(∀v u,oI P v u->oI f v u)/\(a≠b->oI f a b):=by
 have p:=h.n24;have n:∀v:Nat,v<P.length->(at' P (v:Int)).length<24:=λv s=>by
  have:=(h.vg.node v s).deg;have e:(at' P (v:Int)).length=(row (c,P) v).length:=rfl;dsimp only at this;omega
 have t:=n a g;have z:=n b m;unfold oU;by_cases d:a=b
 .subst d;rw[if_pos Z];exact⟨P,rfl,h,rfl,λ_ _ h=>h,λr=>absurd Z r⟩
 rw[Q0];by_cases i:oI P a b
 .rw[bA ((PQ c P a b g V7).1 i)];exact⟨P,rfl,h,rfl,λ_ _ h=>h,λ_=>i⟩
 rw[bA ((PQ c P a b g V7).2 i)];unfold rD;rw[if_neg V8];dsimp only;cases q:x.2.2.2.2.2 with
 | true =>
  rw[if_pos Z];have e:at' (P.set (Int.toNat (a:Int)) ([((b:Int),w)]++at' P (a:Int))) (b:Int)=at' P (b:Int):=by
   rw[kT,zA9,List.getElem?_set,if_neg (by simpa using d),kT,zA9]
  rw[e];rw[Q7,cR Q1,Q7,cR Q1,cR Q1,cR Q1];have⟨j,k,l⟩:=h.add g m d i o (List.Perm.refl _) (List.Perm.refl _);exact⟨_,rfl,j,V8,k,λ_=>l⟩
 |false=>
  rw[if_neg V8];rw[Q7,Q7,cR Q1,cR Q1,cR (by simpa using d),cR Q1,cR Q1];have⟨j,k,l⟩:=h.add g m d i o (x:=at' P (a:Int)++[((b:Int),w)]) (y:=at' P (b:Int)++[((a:Int),w)]) List.perm_append_comm List.perm_append_comm;exact⟨_,rfl,j,V8,k,λ_=>l⟩
theorem Qq (v:Int):wI .i64 (1+v%15)=1+v%15/\1<=1+v%15/\1+v%15<=15:=by
 have:=zB9 v (show(15:Int)≠0 by decide);have:=zB0 v (show(0:Int)<15 by decide);exact⟨Q9,V7,V7⟩
theorem afT (x:UX) (c:Nat) (F:1<=c) (m:c<=24):
  OK (λg:GR=>VM g.1 g.2/\g.2.length<=c/\∀v:Nat,1<=v->v<g.2.length->∃u:Nat,u<v/\oI g.2 u v) (oT 1000 x (c:Int)):=by
 unfold oT;have⟨⟨d,S⟩,D,h,z,e,q⟩:=ack x c F m;dsimp only at z h e q;rw[bA D];dsimp only;subst z;have r:=VM.start h e V7;refine wP (λs:Int×gY=>∃k:Nat,s.1=k/\1<=k/\k<=d.length/\VM d s.2/\s.2.length=d.length/\∀v:Nat,1<=v->v<k->∃u:Nat,u<v/\oI s.2 u v) (λs=>d.length - s.1.toNat) ?_ 1000 _ ⟨1,rfl,V7,e,r,V8,λv l f=>V7⟩ (by dsimp only;omega);rintro⟨i,P⟩ T ⟨k,B,H,I,p,G,o⟩ j;dsimp only at B p G o;subst B;unfold xP rC;dsimp only;by_cases A:(k:Int)<(P.length:Int)
 .rw[if_pos A,Q9,bA (Pq _ _ V7),bA (fZ _ _ V7 V7),bA (Pq _ _ V7),bA (fZ _ _ Q2 Q2)];have⟨N,O,Q⟩:=Qq (at' x.2.2.1 ((k:Int) - 1));rw[N];generalize C:at' x.2.1 ((k:Int) - 1)%(k:Int)=u;have U:0<=u:=by rw[<-C];exact zB9 _ V7
  have V:u<k:=by rw[<-C];exact zB0 _ V7
  obtain⟨u,rfl⟩:∃n:Nat,u=n:=⟨u.toNat,V7⟩
  have⟨R,E,K,W,L,M⟩:=XA x p (a:=u) (b:=k) V7 V7 ⟨O,Q⟩;rw[bA E,Q9];refine j _ ⟨k+1,by dsimp only;omega,V7,V7,K,by dsimp only;omega,λv l f=>?_⟩ (by dsimp only;omega);by_cases y:v=k
  .subst y;exact⟨u,V7,M V7⟩
  .have⟨J,t,w⟩:=o v l V7;exact⟨J,t,L _ _ w⟩
 .rw[if_neg A];exact⟨_,rfl,p,by dsimp only;omega,λv l f=>o v l (by dsimp only at f;omega)⟩
theorem afw (x:UX) {c:aX} {P:gY} (h:VM c P):OK (λg:GR=>VM g.1 g.2/\g.1=c/\g.2.length=P.length/\∀v u,oI P v u->oI g.2 v u) (oV 1000 x (c,P)):=by
 unfold oV;have z:=h.n24;have B:=h.n1;refine wP (λs:Int×gY=>∃k:Nat,s.1=k/\k<=100/\VM c s.2/\s.2.length=P.length/\∀v u,oI P v u->oI s.2 v u) (λs=>200 - s.1.toNat) ?_ 1000 _ ⟨P.length,rfl,V7,h,rfl,λ_ _ h=>h⟩ (by dsimp only;omega);rintro⟨i,Q⟩ w ⟨k,p,A,f,o,e⟩ d;dsimp only at p f o e;subst p;have done:∀b:V4,b=false->OK (λg:GR=>VM g.1 g.2/\g.1=c/\g.2.length=P.length/\∀v u,oI P v u->oI g.2 v u) (nN 1000 x (c,P) ((k:Int),Q) w b):=by
  rintro b rfl;exact⟨_,rfl,f,rfl,o,e⟩
 unfold rE;dsimp only;rw[Q9];by_cases l:(k:Int)+1<(x.2.1.length:Int)
 rotate_left
 .rw[if_neg l];exact done _ Z
 rw[if_pos l];by_cases m:(k:Int)<60
 rotate_left
 .exact done _ (zA6 m)
 rw[zAe m];unfold nN;dsimp only;rw[if_pos Z,Q7,bA (fZ _ _ V7 V7),Q9,Q7,bA (fZ _ _ V7 V7),bA (Pq _ _ V7),bA (fZ _ _ Q2 Q2)];have⟨E,F,G⟩:=Qq (at' x.2.2.1 (k:Int));rw[E];generalize r:at' x.2.1 (k:Int)%(P.length:Int)=u;have K:0<=u:=by rw[<-r];exact zB9 _ V7
 have L:u<P.length:=by rw[<-r];exact zB0 _ V7
 obtain⟨u,rfl⟩:∃n:Nat,u=n:=⟨u.toNat,V7⟩
 generalize q:at' x.2.1 ((k:Int)+1)%(P.length:Int)=t;have I:0<=t:=by rw[<-q];exact zB9 _ V7
 have J:t<P.length:=by rw[<-q];exact zB0 _ V7
 obtain⟨t,rfl⟩:∃n:Nat,t=n:=⟨t.toNat,V7⟩
 have⟨H,y,C,M,D,N⟩:=XA x f (a:=u) (b:=t) V7 V7 ⟨F,G⟩;rw[bA y,Q9];exact d _ ⟨k+2,by dsimp only;omega,V7,C,by dsimp only;omega,λv u j=>D _ _ (e v u j)⟩ (by dsimp only;omega)
theorem QT (x:UX) (a:Nat) (m:1<=a) (c:a<=24):
  OK (λg:GR=>VM g.1 g.2/\g.2.length<=a/\∀v:Nat,1<=v->v<g.2.length->∃u:Nat,u<v/\oI g.2 u v) (kO 1000 x (a:Int)):=by
 unfold kO;have⟨⟨s,P⟩,k,o,n,i⟩:=afT x a m c;have⟨⟨j,t⟩,l,b,p,d,h⟩:=afw x o;rw[bA k,bA l];dsimp only at n i b p d h;refine⟨_,rfl,b,by dsimp only;omega,λv r f=>?_⟩
 have⟨u,q,e⟩:=i v r (by dsimp only at f;omega);exact⟨u,q,h _ _ e⟩
end Go.Proofs.YtflciafboapaaaaGreat
namespace Go.Proofs.YtflciafboapaaaaGreat
open Go Go.Sx
abbrev val (c:bJ) (v x:Nat):Int:=at' (at' c (v:Int)) (x:Int)
def InTop (g : GR) (b : Int) (v : Nat) (a : Int) : Prop := if b = -1 then -1 ≤ a /\ a ≤ ((row g v).length : Int) - 1 else 0 ≤ a /\ a ≤ b
instance (g:GR) (top:Int) (v:Nat) (a:Int):Decidable (InTop g top v a):=by unfold InTop;infer_instance
def fI (g:GR):Nat->Int
 |0=>0
 |k+1=>max (fI g k) (at' g.1 (k:Int))
theorem rZ {g:GR} (a:VG g):∀k,k<=g.2.length->0<=fI g k/\fI g k<=255
 |0,_=>by simp[fI]
 |k+1,h=>by
  have b:=rZ a k V7;have c:0<=at' g.1 (k:Int)/\at' g.1 (k:Int)<=255:=(a.node k V7).id;simp only[fI];omega
abbrev Ah:=Hg
def Eu (x:Ah):Prop:=(-100000<=x.2.2.2.1/\x.2.2.2.1<=100000)/\(0<=x.2.2.2.2.1/\x.2.2.2.2.1<=100000)/\(0<=x.2.2.2.2.2/\x.2.2.2.2.2<=100000)
def lo (g:GR) (x:Ah) (v:Nat):Int:=if x.2.1=2 then 0 else if x.2.1=3 then -1 else x.2.2.1
def hi (g:GR) (x:Ah) (v:Nat):Int:=if x.2.1=2 then 1 else if x.2.1=3 then((row g v).length:Int) - 1 else x.2.2.2.1+x.2.2.2.2.1*(g.2.length:Int)+x.2.2.2.2.2*fI g g.1.length
structure FJ (g:GR) (c:bJ) (vars:List Ah):Prop where
 len:c.length=g.2.length
 row:∀v,v<g.2.length->(at' c (v:Int)).length=vars.length
 ok:∀v,v<g.2.length->∀x,x<vars.length->lo g (at' vars (x:Int)) v<=val c v x/\val c v x<=hi g (at' vars (x:Int)) v
theorem amj {a b:Nat} (c:a<4294967296) (d:b<4294967296):bOr .u32 (a:Int) (b:Int)=((a ||| b:Nat):Int):=by rw[ahi,WB c,WB d]
theorem ahh {a k:Nat} (c:a<4294967296) (b:k<32):bOr .u32 (a:Int) (YD .u32 1 (k:Int))=((a ||| 2^k:Nat):Int):=by rw[ajv b,amj c (agC b)]
theorem afv (p:Nat->V4) {k:Nat} (a:k<=32):Ab p k<4294967296:=zB4 (TC p k) (Nat.pow_le_pow_right (n:=2) V7 a)
theorem amF {i:Nat} (h:i<1000000):wI .i64 ((i:Int)+1)=(i:Int)+1:=Q9
theorem VG.to {g:GR} (c:VG g) {v i:Nat} (e:v<g.2.length) (d:i<(row g v).length):∃u:Nat,u<g.2.length/\(gR (row g v) i).1=(u:Int):=by
 have⟨u,a,b,_⟩:=c.port e d;exact⟨u,a,b⟩
def d0 (g:GR) (c:bJ) (d v:Nat):Int:=if d.testBit v=true then at' (at' c (v:Int)) 0 else if v=0 then 0 else(g.2.length:Int)
def start (g:GR) (c:bJ) (d:Nat):aX:=(List.range g.2.length).map (d0 g c d)
theorem DW {a:Type} [Inhabited a] (l:V6 a) (x:a) {i:Nat} (b:i<l.length+1):at' (l++[x]) (i:Int)=if i<l.length then at' l (i:Int)else x:=by
 rw[kT,kT];by_cases h:i<l.length
 .rw[if_pos h,zA9,zA9,zAc h]
 .have:i=l.length:=V7
  subst this;rw[if_neg h];simp
def Pk (g:GR) (a:V6 Ah) (v:Nat) (l:aX):Prop:=∀x,x<l.length->lo g (at' a (x:Int)) v<=at' l (x:Int)/\at' l (x:Int)<=hi g (at' a (x:Int)) v
theorem Ks {g:GR} (E:VG g) (vars:V6 Ah) (d:aX) (ht:vars.length<=900) (T:∀x,x<vars.length->Eu (at' vars (x:Int)) /\ -100000<=(at' vars (x:Int)).2.2.1/\(at' vars (x:Int)).2.2.1<=(at' vars (x:Int)).2.2.2.1):
  OK (λc=>FJ g c vars) (gK 1000 g vars d):=by
 have P:=E.n24;have B:=E.len;have O:gK 1000 g vars d=nL 1000 g vars d (fI g g.2.length):=by
  unfold gK;refine eJ (F:=λk:Nat=>((fI g k,(k:Int)):e_)) g.2.length (λk A hk=>?_) (λA=>?_) 1000 V7
  .unfold qE;simp only;rw[Q3,Q7,Q9];rfl
  .unfold qE;simp only;rw[Q0]
 rw[O];have⟨L,W⟩:=rZ E g.2.length V7;unfold nL;have I:=nO (step:=iG 1000 g vars d (fI g g.2.length)) (K:=λx=>some x.1) g.2.length (λv x=>x.2=(v:Int)/\x.1.length=v/\∀w,w<v->(at' x.1 (w:Int)).length=vars.length/\Pk g vars w (at' x.1 (w:Int))) (λv x A s p=>?_) (λx A p=>?_) 1000 (([]:bJ),(0:Int)) ⟨rfl,rfl,λw U=>V7⟩ V7
 .have⟨⟨c,i⟩,⟨_,q,o⟩,H⟩:=I;exact⟨c,H,q,λv s=>(o v s).1,λv s x C=>(o v s).2 x (by rw[(o v s).1];exact C)⟩
 .have⟨c,i⟩:=x;obtain⟨rfl,q,o⟩:=p;simp only at q o;have J:(at' g.2 (v:Int)).length<g.2.length:=(E.node v s).deg;unfold iG;simp only;rw[Q3];have D:=nO (step:=kD 1000 g vars d (fI g g.2.length) (c,(v:Int)) A) (K:=λy=>A (c++[y.1],(v:Int)+1)) vars.length (λx y=>y.2=(x:Int)/\y.1.length=x/\Pk g vars v y.1) (λx y m C p=>?_) (λy m p=>?_) 1000 (([]:aX),(0:Int)) ⟨rfl,rfl,λx C=>by simp at C⟩ V7
  .have⟨⟨l,j⟩,⟨_,f,t⟩,H⟩:=D;refine⟨(c++[l],(v:Int)+1),⟨V8,by simp[q],λw U=>?_⟩,H⟩
   simp only;rw[DW c l V7,q];by_cases e:w<v
   .rw[if_pos e];exact o w e
   .rw[if_neg e];have:w=v:=V7
    subst this;exact⟨f,t⟩
  .have⟨l,j⟩:=y;obtain⟨rfl,f,t⟩:=p;simp only at f t;have⟨⟨s1,M,N⟩,s4,s5⟩:=T x C;have n:∀a b:Int,a=lo g (at' vars (x:Int)) v->b=hi g (at' vars (x:Int)) v -> -100000<=a->a<=b+1->b<=100000000->(a<=b\/(a = -1/\b = -1))->∃G,(G.2=((x+1:Nat):Int)/\G.1.length=x+1/\Pk g vars v G.1)/\lM 1000 vars d (c,(v:Int)) (l,(x:Int)) m (a,b)=m G:=by
    intro a b Q S q1 q2 q3 q4;have R:a<=b:=V7
    unfold lM;simp only;have w1:wI .i64 ((v:Int)*(vars.length:Int))=(v:Int)*(vars.length:Int):=by
     have X:0<=(v:Int)*(vars.length:Int):=zBh V7 V7;have Y:(v:Int)*(vars.length:Int)<=24*900:=Int.mul_le_mul V7 V7 V7 V7;exact Q9
    have X:0<=(v:Int)*(vars.length:Int):=zBh V7 V7;have Y:(v:Int)*(vars.length:Int)<=24*900:=Int.mul_le_mul V7 V7 V7 V7;rw[w1,Q9 (x:=(v:Int)*(vars.length:Int)+(x:Int)),Pq _ _ V7,bA Z,Q9 (x:=b - a),Q9 (x:=b - a+1),fZ _ _ V7 V7,bA Z];have r1:=zB9 (at' d ((v:Int)*(vars.length:Int)+(x:Int))) (b:=b - a+1) V7;have r2:=zB0 (at' d ((v:Int)*(vars.length:Int)+(x:Int))) (b:=b - a+1) V7;generalize at' d ((v:Int)*(vars.length:Int)+(x:Int))%(b - a+1)=r at r1 r2;rw[Q9 (x:=a+r),cR Q1,Q9];refine⟨_,⟨V8,by simp[f],λz V=>?_⟩,rfl⟩
    simp only[zA4,zAa,zAm,f]at V;simp only;rw[DW l _ V7,f];by_cases e:z<x
    .rw[if_pos e];exact t z V7
    .rw[if_neg e];have:z=x:=V7
     subst this;rw[<-Q,<-S];omega
   unfold kD;simp only;rw[Q3,Q7,Q7,Q7,Q7,Q7];by_cases h:(at' vars (x:Int)).2.1=2
   .rw[if_pos h];exact n 0 1 (by unfold lo;rw[if_pos h]) (by unfold hi;rw[if_pos h]) V7 V7 V7 V7
   .rw[if_neg h];by_cases u:(at' vars (x:Int)).2.1=3
    .rw[if_pos u,Q7,Q9];exact n (-1) _ (by unfold lo;rw[if_neg h,if_pos u]) (by unfold hi;rw[if_neg h,if_pos u]) V7 V7 V7 V7
    .rw[if_neg u];have q1:0<=(at' vars (x:Int)).2.2.2.2.1*(g.2.length:Int):=zBh M.1 V7;have q2:(at' vars (x:Int)).2.2.2.2.1*(g.2.length:Int)<=100000*24:=Int.mul_le_mul M.2 V7 V7 V7;have q3:0<=(at' vars (x:Int)).2.2.2.2.2*fI g g.2.length:=zBh N.1 L;have q4:(at' vars (x:Int)).2.2.2.2.2*fI g g.2.length<=100000*255:=Int.mul_le_mul N.2 W L V7;rw[Q9 (x:=(at' vars (x:Int)).2.2.2.2.1*(g.2.length:Int)),Q9 (x:=(at' vars (x:Int)).2.2.2.2.2*fI g g.2.length),Q9 (x:=(at' vars (x:Int)).2.2.2.1+(at' vars (x:Int)).2.2.2.2.1*(g.2.length:Int)),Q9];exact n _ _ (by unfold lo;rw[if_neg h,if_neg u]) (by unfold hi;rw[if_neg h,if_neg u,B]) V7 V7 V7 V7
  .have⟨l,j⟩:=y;obtain⟨rfl,f,t⟩:=p;simp only at f t;unfold kD zJ;simp only;rw[Q0,cR Q1,Q9]
 .have⟨c,i⟩:=x;obtain⟨rfl,q,o⟩:=p;unfold iG tY;simp only;rw[Q0]
end Go.Proofs.YtflciafboapaaaaGreat
namespace Go.Proofs.YtflciafboapaaaaGreat
open Go.Sx
def yI (a:Int):V1 (Int):=
 some (a)
def oB (c:aX) (a:e_) (b:iU->V1 (Int)):V1 (Int):=
 if a.2<(c.length:Int)then(ck (0<=a.2/\a.2<(c.length:Int)) (b ((max a.1 (at' c a.2)),(wI .i64 (a.2+(1:Int))))))else(yI (a.1))
def mG (a:aX):V1 (Int):=
 if(a.length:Int)<(1:Int)then(none)else(ck (0<=(0:Int)/\(0:Int)<(a.length:Int)) (bE (oB a) U ((at' a (0:Int)),(1:Int))))
theorem Mu:aU prog 128:=call128
theorem CR {f:aX} (g:V0) (r:Int) (h:mG U f=some r):
  aZ prog 128 #[g] [Sl aK g f] (λx:Unit=>vI (r)) (λx l=>l) (λ_ l=>l):=by
 refine aZ.of func128 Z ntmps128 Z λc=>Q4 Z<|aL<|Q6 Z<|jH (cP Z) Z<|cN Z<|aO<|gC h Z (λh=>?_) λh=>?_
 .refine aP ?_;cases h
 refine cU<|Q6 Z<|dQ h λj h=>aB (bD Z Z (cP Z) Z Z j) Z<|aB (bY Z (cP Z) Z Z Z dJ j) Z<|Q5 Z<|aL<|fV (λb=>yI b=some r) (λb i=>[(3,vI (b))]) (λb i=>[]) ?_ ?_
 .refine Q4 Z<|aQ<|fT (oB f) (λa d=>[(0,g),(3,vI (a.1)),(4,vI (a.2))]) (λa d=>[]) ((at' f (0:Int)),(1:Int)) () h SF (aS.refl _) ?_;intro k a d h;refine aL<|Q6 Z<|aA Z<|jH (cP Z) Z<|cN Z<|aO<|gC h Z (λh=>?_) λh=>?_
  .exact cU<|aL<|aQ<|aP<|aA Z<|aA Z<|aA Z<|dQ h λe h=>aB (bD Z Z (cP Z) Z Z e) Z<|aB (bY Z (cP Z) Z Z Z dJ e) Z<|aB (Lw Z Z) Z<|aC Z<|fC<|mF<|aP<|aA Z<|cH Z<|Q5 Z<|Ci ((max a.1 (at' f a.2)),(wI .i64 (a.2+(1:Int)))) () h SF Z
  exact fH<|jV (a.1) () h SF Z
 intro b i h;unfold yI at h;refine Q6 Z<|Q5 Z<|aV ?_;cases h;exact oA Z
end Go.Proofs.YtflciafboapaaaaGreat