/- Models and proofs. Conditions: none. -/
import Derived.Test.YtgciopekomcbfaaGreatDoorZTMA7
import Derived.Test.YtgciopekomcbfaaGreatDoorZTMA2
import Derived.Test.YtgciopekomcbfaaGreatDoorZTMA1
import Derived.Test.YtgciopekomcbfaaGreatDoorZTMA3
import Derived.Test.YtgciopekomcbfaaGreatDoorZTMA5
import Derived.KernelRfl
set_option linter.unusedVariables false
set_option linter.unusedSimpArgs false
set_option maxHeartbeats 4000000
set_option maxRecDepth 20000
open Go.Proofs.Tryz
namespace Go.Proofs.YtgciopekomcbfaaGreatDoor
open Go Go.Sx Go.Gx
set_option maxRecDepth 100000
abbrev pP:=ByteArray×(V0×gV)×(V0×V6 (Int×(V0×gV)))
def tO (z:pP):gV×V6 (Int×gV):=(z.2.1.2,z.2.2.2.map λs=>(s.1,s.2.2))
def HJ:ByteArray:=(ByteArray.mk #[112,114,111,103,114,97,109,32,98,102,115,59,10,118,97,114,32,100,32,58,32,48,32,46,46,32,110,59,10,118,97,114,32,112,32,58,32,112,111,114,116,59,10,114,117,108,101,32,116,111,112,58,32,114,111,111,116,32,38,38,32,40,100,32,33,61,32,48,32,124,124,32,112,32,33,61,32,110,111,110,101,41,32,45,62,32,100,32,58,61,32,48,44,32,112,32,58,61,32,110,111,110,101,59,10,114,117,108,101,32,108,111,119,58,32,33,114,111,111,116,32,38,38,32,40,100,32,33,61,32,40,109,105,110,40,113,46,100,41,32,60,32,110,32,63,32,109,105,110,40,113,46,100,41,32,43,32,49,32,58,32,110,41,32,124,124,32,112,32,33,61,32,102,105,114,115,116,40,113,46,100,32,61,61,32,109,105,110,40,113,46,100,41,41,41,10,32,32,45,62,32,100,32,58,61,32,40,109,105,110,40,113,46,100,41,32,60,32,110,32,63,32,109,105,110,40,113,46,100,41,32,43,32,49,32,58,32,110,41,44,32,112,32,58,61,32,102,105,114,115,116,40,113,46,100,32,61,61,32,109,105,110,40,113,46,100,41,41,59,10])
def JM:IX:=[((ByteArray.mk #[100]),(1:Int),(0:Int),(0:Int),(1:Int),(0:Int)),((ByteArray.mk #[112]),(3:Int),(0:Int),(0:Int),(0:Int),(0:Int))]
def GC:OT:=[([(41,0),(10,0),(42,0),(36,0),(5,0),(1,0),(36,0),(5,1),(4,0)],[(0,[(1,0)]),(1,[(4,0)])]),([(41,0),(19,0),(10,0),(42,0),(36,0),(5,0),(43,0),(37,0),(24,0),(12,0),(6,0),(33,0),(24,0),(12,0),(1,1),(6,0),(36,0),(5,1),(23,0),(35,0),(12,0),(24,0),(12,0)],[(0,[(43,0),(37,0),(24,0),(12,0),(6,0),(33,0),(24,0),(12,0),(1,1),(6,0)]),(1,[(23,0),(35,0),(12,0),(24,0),(12,0)])])]
def agt:V6 ((Nat×Nat)×gV×V6 (Int×gV)):=[((7368564,3),[(41,0),(10,0),(42,0),(36,0),(5,0),(1,0),(36,0),(5,1),(4,0)],[(0,[(1,0)]),(1,[(4,0)])]),((7827308,3),[(41,0),(19,0),(10,0),(42,0),(36,0),(5,0),(43,0),(37,0),(24,0),(12,0),(6,0),(33,0),(24,0),(12,0),(1,1),(6,0),(36,0),(5,1),(23,0),(35,0),(12,0),(24,0),(12,0)],[(0,[(43,0),(37,0),(24,0),(12,0),(6,0),(33,0),(24,0),(12,0),(1,1),(6,0)]),(1,[(23,0),(35,0),(12,0),(24,0),(12,0)])])]
def HK:ByteArray:=(ByteArray.mk #[112,114,111,103,114,97,109,32,108,101,97,100,101,114,59,10,118,97,114,32,108,101,97,100,32,58,32,48,32,46,46,32,105,100,115,59,10,118,97,114,32,100,32,58,32,48,32,46,46,32,110,32,45,32,49,59,10,118,97,114,32,112,32,58,32,112,111,114,116,59,10,114,117,108,101,32,111,119,110,58,32,105,100,32,42,32,110,32,60,61,32,109,105,110,40,113,46,100,32,43,32,49,32,60,32,110,32,63,32,113,46,108,101,97,100,32,42,32,110,32,43,32,113,46,100,32,58,32,40,105,100,115,32,43,32,49,41,32,42,32,110,41,32,38,38,32,40,108,101,97,100,32,33,61,32,105,100,32,124,124,32,100,32,33,61,32,48,32,124,124,32,112,32,33,61,32,110,111,110,101,41,32,45,62,32,108,101,97,100,32,58,61,32,105,100,44,32,100,32,58,61,32,48,44,32,112,32,58,61,32,110,111,110,101,59,10,114,117,108,101,32,106,111,105,110,58,32,105,100,32,42,32,110,32,62,32,109,105,110,40,113,46,100,32,43,32,49,32,60,32,110,32,63,32,113,46,108,101,97,100,32,42,32,110,32,43,32,113,46,100,32,58,32,40,105,100,115,32,43,32,49,41,32,42,32,110,41,32,38,38,32,40,108,101,97,100,32,33,61,32,109,105,110,40,113,46,100,32,43,32,49,32,60,32,110,32,63,32,113,46,108,101,97,100,32,42,32,110,32,43,32,113,46,100,32,58,32,40,105,100,115,32,43,32,49,41,32,42,32,110,41,32,47,32,110,32,124,124,32,100,32,33,61,32,109,105,110,40,113,46,100,32,43,32,49,32,60,32,110,32,63,32,113,46,108,101,97,100,32,42,32,110,32,43,32,113,46,100,32,58,32,40,105,100,115,32,43,32,49,41,32,42,32,110,41,32,37,32,110,32,43,32,49,32,124,124,32,112,32,33,61,32,102,105,114,115,116,40,113,46,108,101,97,100,32,42,32,110,32,43,32,113,46,100,32,61,61,32,109,105,110,40,113,46,100,32,43,32,49,32,60,32,110,32,63,32,113,46,108,101,97,100,32,42,32,110,32,43,32,113,46,100,32,58,32,40,105,100,115,32,43,32,49,41,32,42,32,110,41,41,41,10,32,32,45,62,32,108,101,97,100,32,58,61,32,109,105,110,40,113,46,100,32,43,32,49,32,60,32,110,32,63,32,113,46,108,101,97,100,32,42,32,110,32,43,32,113,46,100,32,58,32,40,105,100,115,32,43,32,49,41,32,42,32,110,41,32,47,32,110,44,32,100,32,58,61,32,109,105,110,40,113,46,100,32,43,32,49,32,60,32,110,32,63,32,113,46,108,101,97,100,32,42,32,110,32,43,32,113,46,100,32,58,32,40,105,100,115,32,43,32,49,41,32,42,32,110,41,32,37,32,110,32,43,32,49,44,32,112,32,58,61,32,102,105,114,115,116,40,113,46,108,101,97,100,32,42,32,110,32,43,32,113,46,100,32,61,61,32,109,105,110,40,113,46,100,32,43,32,49,32,60,32,110,32,63,32,113,46,108,101,97,100,32,42,32,110,32,43,32,113,46,100,32,58,32,40,105,100,115,32,43,32,49,41,32,42,32,110,41,41,59,10])
def JN:IX:=[((ByteArray.mk #[108,101,97,100]),(1:Int),(0:Int),(0:Int),(0:Int),(1:Int)),((ByteArray.mk #[100]),(1:Int),(0:Int),(-1:Int),(1:Int),(0:Int)),((ByteArray.mk #[112]),(3:Int),(0:Int),(0:Int),(0:Int),(0:Int))]
def GD:OT:=[([(41,0),(38,0),(30,0),(8,0),(6,0),(24,0),(43,0),(37,0),(33,0),(12,1),(1,1),(6,0),(33,0),(30,0),(12,0),(6,0),(12,1),(30,0),(33,0),(7,0),(1,1),(6,0),(42,0),(42,0),(36,0),(5,0),(8,0),(36,0),(5,1),(1,0),(36,0),(5,2),(4,0)],[(0,[(8,0)]),(1,[(1,0)]),(2,[(4,0)])]),([(41,0),(39,0),(30,0),(8,0),(6,0),(24,0),(43,0),(37,0),(33,0),(12,1),(1,1),(6,0),(33,0),(30,0),(12,0),(6,0),(12,1),(30,0),(33,0),(7,0),(1,1),(6,0),(42,0),(42,0),(36,0),(5,0),(31,0),(24,0),(43,0),(37,0),(33,0),(12,1),(1,1),(6,0),(33,0),(30,0),(12,0),(6,0),(12,1),(30,0),(33,0),(7,0),(1,1),(6,0),(6,0),(36,0),(5,1),(33,0),(32,0),(24,0),(43,0),(37,0),(33,0),(12,1),(1,1),(6,0),(33,0),(30,0),(12,0),(6,0),(12,1),(30,0),(33,0),(7,0),(1,1),(6,0),(6,0),(1,1),(36,0),(5,2),(23,0),(35,0),(33,0),(30,0),(12,0),(6,0),(12,1),(24,0),(43,0),(37,0),(33,0),(12,1),(1,1),(6,0),(33,0),(30,0),(12,0),(6,0),(12,1),(30,0),(33,0),(7,0),(1,1),(6,0)],[(0,[(31,0),(24,0),(43,0),(37,0),(33,0),(12,1),(1,1),(6,0),(33,0),(30,0),(12,0),(6,0),(12,1),(30,0),(33,0),(7,0),(1,1),(6,0),(6,0)]),(1,[(33,0),(32,0),(24,0),(43,0),(37,0),(33,0),(12,1),(1,1),(6,0),(33,0),(30,0),(12,0),(6,0),(12,1),(30,0),(33,0),(7,0),(1,1),(6,0),(6,0),(1,1)]),(2,[(23,0),(35,0),(33,0),(30,0),(12,0),(6,0),(12,1),(24,0),(43,0),(37,0),(33,0),(12,1),(1,1),(6,0),(33,0),(30,0),(12,0),(6,0),(12,1),(30,0),(33,0),(7,0),(1,1),(6,0)])])]
def agu:V6 ((Nat×Nat)×gV×V6 (Int×gV)):=[((7239535,3),[(41,0),(38,0),(30,0),(8,0),(6,0),(24,0),(43,0),(37,0),(33,0),(12,1),(1,1),(6,0),(33,0),(30,0),(12,0),(6,0),(12,1),(30,0),(33,0),(7,0),(1,1),(6,0),(42,0),(42,0),(36,0),(5,0),(8,0),(36,0),(5,1),(1,0),(36,0),(5,2),(4,0)],[(0,[(8,0)]),(1,[(1,0)]),(2,[(4,0)])]),((1852403562,4),[(41,0),(39,0),(30,0),(8,0),(6,0),(24,0),(43,0),(37,0),(33,0),(12,1),(1,1),(6,0),(33,0),(30,0),(12,0),(6,0),(12,1),(30,0),(33,0),(7,0),(1,1),(6,0),(42,0),(42,0),(36,0),(5,0),(31,0),(24,0),(43,0),(37,0),(33,0),(12,1),(1,1),(6,0),(33,0),(30,0),(12,0),(6,0),(12,1),(30,0),(33,0),(7,0),(1,1),(6,0),(6,0),(36,0),(5,1),(33,0),(32,0),(24,0),(43,0),(37,0),(33,0),(12,1),(1,1),(6,0),(33,0),(30,0),(12,0),(6,0),(12,1),(30,0),(33,0),(7,0),(1,1),(6,0),(6,0),(1,1),(36,0),(5,2),(23,0),(35,0),(33,0),(30,0),(12,0),(6,0),(12,1),(24,0),(43,0),(37,0),(33,0),(12,1),(1,1),(6,0),(33,0),(30,0),(12,0),(6,0),(12,1),(30,0),(33,0),(7,0),(1,1),(6,0)],[(0,[(31,0),(24,0),(43,0),(37,0),(33,0),(12,1),(1,1),(6,0),(33,0),(30,0),(12,0),(6,0),(12,1),(30,0),(33,0),(7,0),(1,1),(6,0),(6,0)]),(1,[(33,0),(32,0),(24,0),(43,0),(37,0),(33,0),(12,1),(1,1),(6,0),(33,0),(30,0),(12,0),(6,0),(12,1),(30,0),(33,0),(7,0),(1,1),(6,0),(6,0),(1,1)]),(2,[(23,0),(35,0),(33,0),(30,0),(12,0),(6,0),(12,1),(24,0),(43,0),(37,0),(33,0),(12,1),(1,1),(6,0),(33,0),(30,0),(12,0),(6,0),(12,1),(30,0),(33,0),(7,0),(1,1),(6,0)])])]
def PF (V:V0):aZ:=⟨λw S=>(Rj 3136 mo1 mg1 V).p w S\/(Rj 9723 mo2 mg2 V).p w S,λ{w w' S S'} h k=>by
 rcases h with h|h
 .exact .inl ((Rj 3136 mo1 mg1 V).mono h k)
 exact .inr (((Rj 9723 mo2 mg2 V).mono h k))⟩
noncomputable def ZW {R:Type} (D:OT) (k:V6 pP->V1 R):V1 R:=open Classical in if h:∃r,∀z:V6 pP,z.map tO=D->k z=some r then some (Classical.choose h)else none
theorem XT {R:Type} {D:OT} {k:V6 pP->V1 R} {r:R} (h:ZW D k=some r) (z:V6 pP) (a:z.map tO=D):k z=some r:=by
 unfold ZW at h;split at h
 .rename_i e;rw[<-Option.some.inj h];exact Classical.choose_spec e z a
 cases h
theorem We {R:Type} {D:OT} {k:V6 pP->V1 R} {r:R} (h:∀z:V6 pP,z.map tO=D->k z=some r):ZW D k=some r:=by
 have e:∃r,∀z:V6 pP,z.map tO=D->k z=some r:=⟨r,h⟩
 unfold ZW;rw[dif_pos e];let z:V6 pP:=D.map λx=>(ByteArray.empty,(undef,x.1),(undef,x.2.map λs=>(s.1,(undef,s.2))))
 have c:z.map tO=D:=by
  show(D.map _).map tO=D;rw[List.map_map]
  conv=>rhs;rw[<-List.map_id D]
  refine zBg λx _=>?_;obtain⟨a,b⟩:=x;simp[tO,Function.comp_def]
 rw[<-Classical.choose_spec e z c,h z c]
def nA (a:Nat) (b:ByteArray):V1 Xw:=if b=HJ then some ((ByteArray.mk #[98,102,115]),JM,GC)else if b=HK then some ((ByteArray.mk #[108,101,97,100,101,114]),JN,GD)else none
theorem aag:aU prog 6:=call6
theorem PI:aU prog 167:=call167
theorem Tj:Hz HJ=(6706143830449764899556809608818904919804074884937111603718476495539622089622860971527792587791047894922729163212717263328395231852300855536488424978955807703755604513825873373095632290149847090083112304426652546340939400726262280257803792487332445892473582856512649637013408585975292850644760247287299230258062944610265801223788397479914840704983105145953743025358843726328641031619437354017789814719882883570583131354112070717477863523377784965938515931160728579383844655360852857429048595849656685311997067516701048769715945338084683118784715135226216982869351630641616464718832441949492048937096570154901286325463543707328254906190863546417377904,270):=by kernel_rfl
theorem abV:Hz (ByteArray.mk #[98,102,115])=(7562850,3):=by kernel_rfl
theorem aca:NA (HU 3136 mo1) 6 (dP 1 aaC (dP 1 (dI .i64) (dP 1 (dI .i64) (dP 1 (dI .i64) (dP 1 (dI .i64) (dI .i64)))))) (.sl 1176 0 2 6)=some (JM.map λz=>(Hz z.1,z.2.1,z.2.2.1,z.2.2.2.1,z.2.2.2.2.1,z.2.2.2.2.2)):=by kernel_rfl
theorem YJ:NA (HU 3136 mo1) 3 (dP 1 aaC (dP 1 (dS (HU 3136 mo1) 2 (dP 1 (dI .i64) (dI .i64))) (dS (HU 3136 mo1) 2 (dP 1 (dI .i64) (dS (HU 3136 mo1) 2 (dP 1 (dI .i64) (dI .i64))))))) (.sl 2078 0 2 3)=some agt:=by kernel_rfl
theorem afp:agt.map (λy=>(y.2.1,y.2.2))=GC:=by kernel_rfl
theorem abX (r:Xw) (h:some ((ByteArray.mk #[98,102,115]),JM,GC)=some r):a_ prog 6 #[vS HJ] [Gb 0 (cellsOf Ff sS)] (λx:V0×V0×{z:List pP // z.map tO=r.2.2}=>Value.agg #[vS r.1,x.1,x.2.1]) (λx l=>l) (λx l=>Sl aH x.1 r.2.1::Sl aD x.2.1 x.2.2.1::PF (Value.agg #[vS r.1,x.1,x.2.1])::l):=by
 cases h;refine MJ (gs:=gl) (LO:=λx:V0×V0×{z:List pP // z.map tO=GC}=>[Sl aH x.1 JM,Sl aD x.2.1 x.2.2.1,PF (Value.agg #[vS (ByteArray.mk #[98,102,115]),x.1,x.2.1])]) UW (λT b=>OD De agj me1 aag (.cons (Na (x:=HJ) (congrArg Prod.fst Tj).symm (congrArg Prod.snd Tj).symm) .nil) Z b) ?_;intro T b B w V a R g;have y:=g;obtain⟨f,rfl,c,_⟩:=g.agg_inv;obtain⟨C,f,rfl,m,c⟩:=c.of_cons;obtain⟨j,f,rfl,n,c⟩:=c.of_cons;obtain⟨k,rfl,o⟩:=c.one;obtain rfl:=Xs m abV;obtain⟨A,v,s⟩:=CY R a (eS.pair eS.str (eS.pair (eS.int .i64) (eS.pair (eS.int .i64) (eS.pair (eS.int .i64) (eS.pair (eS.int .i64) (eS.int .i64)))))) n aca;have e:A=JM:=HG (wO (λ_ _=>Ml) (wO Du (wO Du (wO Du (wO Du Du))))) v;subst e;obtain⟨i,u,t⟩:=CY (r:=aD) R a (eS.pair eS.str (eS.pair (eS.sl R a (eS.pair (eS.int .i64) (eS.int .i64))) (eS.sl R a (eS.pair (eS.int .i64) (eS.sl R a (eS.pair (eS.int .i64) (eS.int .i64))))))) o YJ;have d:i.map tO=GC:=by
  rw[<-afp,<-u,List.map_map];refine zBg λx _=>?_;simp[tO,Function.comp_def]
 exact⟨(j,k,⟨i,d⟩),rfl,zB1.2 ⟨s,zB1.2 ⟨t,zB1.2 ⟨.inl (⟨B,gQ.hd R a,y⟩),λq p=>absurd p zB8⟩⟩⟩⟩
theorem ada:okV mo1 (Km FI gp0 4000 167 [mg1] (HU 3136 mo1))=true:=by kernel_rfl
theorem Tk:Hz HK=(694347383405035167176194822044002167647348297245143836294131327360569184365737968126329793190405493482344988959786894529281874176313558490826984968606246471080877494789011164177302286245049115990372077200403708013402509049695102382306818228322771982393217707961675795842989522967358188456979690970385641764651692123905212872060252986787261095913761171524319417829960073087282171735954781095584211454070868651197802307499032207784732548677135855370816834395925866565744265665207222116462978656831551281803369594549094313899917189094449793580303100413293807281703359455343358032385010591122950381170540903283024219015264429781225548838463523961460985867279886747768292538941600374435537547606801203451863138856874214221985847324684911821162203478916645432183221957952246405198551766390813582263330814856421060931063538327705289539381453604124378675808245139143432472308435888706790881913041858159371579898941504693382735800866132567585648297324557324259377338335589867496172224785527092219321786217240867672863735135282467984287700917091573592223335919998225525998760454851250566578735079287735788708791643295000326126232361921241672605532036970180138036720200852591755851876944948989006655553778101348782543140787492202909107220094451130950110838909564269255896107391729847775988160006180135088428875437003457029393388116238549331043434132085245837242978425384584307620834728433727603286891896652071775522271400294050822192304926936532738004063480601437530384204200137077770219811423516471932909178094747412144444130601465298819927667613537532820414148444100189654789199224116680942469602618485657465279305789375435049996248655599547014628641465268294388905743491636110899724336907966066866112157649229705572388001827019957074910716085437328022127866406657227453040,733):=by kernel_rfl
theorem abW:Hz (ByteArray.mk #[108,101,97,100,101,114])=(125779801367916,6):=by kernel_rfl
theorem acb:NA (HU 9723 mo2) 6 (dP 1 aaC (dP 1 (dI .i64) (dP 1 (dI .i64) (dP 1 (dI .i64) (dP 1 (dI .i64) (dI .i64)))))) (.sl 3126 0 3 6)=some (JN.map λz=>(Hz z.1,z.2.1,z.2.2.1,z.2.2.2.1,z.2.2.2.2.1,z.2.2.2.2.2)):=by kernel_rfl
theorem YK:NA (HU 9723 mo2) 3 (dP 1 aaC (dP 1 (dS (HU 9723 mo2) 2 (dP 1 (dI .i64) (dI .i64))) (dS (HU 9723 mo2) 2 (dP 1 (dI .i64) (dS (HU 9723 mo2) 2 (dP 1 (dI .i64) (dI .i64))))))) (.sl 5744 0 2 3)=some agu:=by kernel_rfl
theorem afq:agu.map (λy=>(y.2.1,y.2.2))=GD:=by kernel_rfl
theorem abY (r:Xw) (h:some ((ByteArray.mk #[108,101,97,100,101,114]),JN,GD)=some r):a_ prog 6 #[vS HK] [Gb 0 (cellsOf Ff sS)] (λx:V0×V0×{z:List pP // z.map tO=r.2.2}=>Value.agg #[vS r.1,x.1,x.2.1]) (λx l=>l) (λx l=>Sl aH x.1 r.2.1::Sl aD x.2.1 x.2.2.1::PF (Value.agg #[vS r.1,x.1,x.2.1])::l):=by
 cases h;refine MJ (gs:=gl) (LO:=λx:V0×V0×{z:List pP // z.map tO=GD}=>[Sl aH x.1 JN,Sl aD x.2.1 x.2.2.1,PF (Value.agg #[vS (ByteArray.mk #[108,101,97,100,101,114]),x.1,x.2.1])]) UW (λT b=>OD De agk me2 aag (.cons (Na (x:=HK) (congrArg Prod.fst Tk).symm (congrArg Prod.snd Tk).symm) .nil) Z b) ?_;intro T b B w V a R g;have y:=g;obtain⟨f,rfl,c,_⟩:=g.agg_inv;obtain⟨C,f,rfl,m,c⟩:=c.of_cons;obtain⟨j,f,rfl,n,c⟩:=c.of_cons;obtain⟨k,rfl,o⟩:=c.one;obtain rfl:=Xs m abW;obtain⟨A,v,s⟩:=CY R a (eS.pair eS.str (eS.pair (eS.int .i64) (eS.pair (eS.int .i64) (eS.pair (eS.int .i64) (eS.pair (eS.int .i64) (eS.int .i64)))))) n acb;have e:A=JN:=HG (wO (λ_ _=>Ml) (wO Du (wO Du (wO Du (wO Du Du))))) v;subst e;obtain⟨i,u,t⟩:=CY (r:=aD) R a (eS.pair eS.str (eS.pair (eS.sl R a (eS.pair (eS.int .i64) (eS.int .i64))) (eS.sl R a (eS.pair (eS.int .i64) (eS.sl R a (eS.pair (eS.int .i64) (eS.int .i64))))))) o YK;have d:i.map tO=GD:=by
  rw[<-afq,<-u,List.map_map];refine zBg λx _=>?_;simp[tO,Function.comp_def]
 exact⟨(j,k,⟨i,d⟩),rfl,zB1.2 ⟨s,zB1.2 ⟨t,zB1.2 ⟨.inr ((⟨B,gQ.hd R a,y⟩)),λq p=>absurd p zB8⟩⟩⟩⟩
theorem adb:okV mo2 (Km FI gp0 4000 167 [mg2] (HU 9723 mo2))=true:=by kernel_rfl
theorem KS (a:Nat) {b:ByteArray} (r:Xw) (h:nA a b=some r):a_ prog 6 #[vS b] [Gb 0 (cellsOf Ff sS)] (λx:V0×V0×{z:V6 pP // z.map tO=r.2.2}=>Value.agg #[vS r.1,x.1,x.2.1]) (λx l=>l) (λx l=>Sl aH x.1 r.2.1::Sl aD x.2.1 x.2.2.1::PF (Value.agg #[vS r.1,x.1,x.2.1])::l):=by
 unfold nA at h;by_cases c:b=HJ
 .subst c;exact abX r ((if_pos Z).symm.trans h)
 rw[if_neg c]at h;by_cases d:b=HK
 .subst d;exact abY r ((if_pos Z).symm.trans h)
 rw[if_neg d]at h;cases h
theorem abZ (f:Nat):nA f HJ=some ((ByteArray.mk #[98,102,115]),JM,GC):=by
 unfold nA;exact if_pos Z
theorem ab_ (f:Nat):nA f HK=some ((ByteArray.mk #[108,101,97,100,101,114]),JN,GD):=by
 unfold nA;rw[if_neg (by decide +kernel)];exact if_pos Z
def Dy (fuel:Nat) (a:ByteArray×V6 (ByteArray×Int×Int×Int×Int×Int)×V6 (pP)):V1 V4:=some true
theorem NM (a:Nat) {b:ByteArray×V6 (ByteArray×Int×Int×Int×Int×Int)×V6 (pP)} (f g:V0) (r:V4) (h:Dy a b=some r):
  a_ prog 167 #[Value.agg #[vS b.1,f,g]] [Sl aH f b.2.1,Sl aD g b.2.2,PF (Value.agg #[vS b.1,f,g])] (λx:Unit=>vB (r)) (λx l=>l) (λ_ l=>l):=by
 cases h;intro w S z;have s:Calls prog 167 #[Value.agg #[vS b.1,f,g]] w λe t=>e = .returned (.bool true)/\Ph w t:=by
  rcases z _ (zA3 (i:=2) rfl)with p|p
  .refine Ov (fuel:=4000) aju PI ?_ p;obtain⟨n,c,o⟩:=Tc ada;rw[Fw (G:=gp0) De]at c;exact⟨n,c,o⟩
  refine Ov (fuel:=4000) aju PI ?_ p;obtain⟨n,c,o⟩:=Tc adb;rw[Fw (G:=gp0) De]at c;exact⟨n,c,o⟩
 refine s.mono ?_;rintro e t ⟨rfl,d⟩;exact⟨(),rfl,⟨d.os,d.tape,d.output,d.size,λk u _=>d.block k u⟩,λ_ _=>False,⟨λi m v=>by simp at v,λi k h=>h.elim,λi j k h=>h.elim⟩,λq y=>by simp at y⟩
end Go.Proofs.YtgciopekomcbfaaGreatDoor
namespace Go.Proofs.YtgciopekomcbfaaGreatDoor
open Go Go.Sx
abbrev alU:=Ge
abbrev PRG:=ByteArray×(V6 alU)×(V6 pP)
abbrev GRF:=V6 Int×fY
abbrev SCN:=PRG×GRF×Int×bE
abbrev WLK:=SCN×bE×Int×gV
inductive E where
 |lf (o a:Int)
 |un (o:Int) (x:E)
 |ag (o:Int) (x:E)
 |bi (o:Int) (x y:E)
 |ite (x y z:E)
def E.ts:E->gV
 |lf o a=>[(o,a)]
 |un o x=>(o,0)::x.ts
 |ag o x=>(o,0)::x.ts
 |bi o x y=>(o,0)::(x.ts++y.ts)
 |ite x y z=>(43,0)::(x.ts++(y.ts++z.ts))
def E.depth:E->Nat
 |lf _ _=>1
 |un _ x=>x.depth+1
 |ag _ x=>x.depth+1
 |bi _ x y=>max x.depth y.depth+1
 |ite x y z=>max x.depth (max y.depth z.depth)+1
def E.arOk:E->V4
 |lf o _=>decide (1<=o)&&decide (o<=17)
 |un o x=>decide (18<=o)&&decide (o<=19)&&x.arOk
 |ag o x=>decide (20<=o)&&decide (o<=29)&&x.arOk
 |bi o x y=>decide (30<=o)&&decide (o<=42)&&x.arOk&&y.arOk
 |ite x y z=>x.arOk&&y.arOk&&z.arOk
theorem PC {a:Type} [Inhabited a] {T pre rest:V6 a} {x:a} {k:Nat} (b:T=pre++x::rest) (c:pre.length=k):at' T (k:Int)=x:=by
 subst b;exact XV pre rest x k c
theorem dC {k:Nat} (h:k<1000000):wI .i64 ((k:Int)+1)=((k+1:Nat):Int):=by rw[wr (by omega) (by omega)];rfl
theorem Q8 {k:Nat} (h:k<1000000:=by omega):wI .i64 ((k:Int)+1)=((k+1:Nat):Int):=dC h
theorem ZZ (f:Nat) {o:Int} (a:1<=o) (b:o<=43):zJ f o=some (if o<=17 then 0 else if o<=29 then 1 else if o<=42 then 2 else 3):=by
 unfold zJ AY;rw[Q0];simp only[zA1];rw[Q0];split
 .rfl
 .split
  .rfl
  .split<;>rfl
theorem aaJ {F:Nat} {T c rest:gV} {t:gO} {k m a b:Nat} (d:T=c++t::rest) (g:c.length=k) (i:k<1000) (n:m<3000) (e:zJ F t.1=some ((a:Nat):Int)) (f:a<=3) (j:m+a≠0):
  bN (mP F T) (b+1) ((k:Int),(m:Int))=if m+a=1 then some (((k+1:Nat):Int))else bN (mP F T) b (((k+1:Nat):Int),((m+a - 1:Nat):Int)):=by
 have l:k<T.length:=by rw[d];simp;omega
 show mP F T ((k:Int),(m:Int)) (bN (mP F T) b)=_;unfold mP;dsimp only;rw[Q3,Q7,PC d g,bF e,Q0,Q9 (x:=((a:Nat):Int) - 1),Q9,Q8];by_cases h:m+a=1
 .rw[if_pos h,Q3]
 .rw[if_neg h,Q0];have:(m:Int)+((a:Int) - 1)=((m+a - 1:Nat):Int):=V7
  rw[this]
theorem aeG (F:Nat) (T:gV) (H:T.length<=900):∀(e:E),e.arOk=true->∀(c k m:Nat) (d b:gV),T=d++(e.ts++b)->d.length=k->1<=m->m+2*(e.ts++b).length<=1900->e.ts.length<=c->
  bN (mP F T) c ((k:Int),(m:Int))=if m=1 then some (((k+e.ts.length:Nat):Int))else bN (mP F T) (c - e.ts.length) (((k+e.ts.length:Nat):Int),((m - 1:Nat):Int)):=by
 have r:∀{t:gO} {l b d:gV} {c k m:Nat},T=d++((t::l)++b)->d.length=k->(t::l).length<=c->1<=t.1->t.1<=43->1<=m->m+2*((t::l)++b).length<=1900->∀a:Nat,(if t.1<=17 then 0 else if t.1<=29 then 1 else if t.1<=42 then 2 else 3:Int)=a->a<=3->∃f,c=f+1/\
   bN (mP F T) c ((k:Int),(m:Int))=if m+a=1 then some (((k+1:Nat):Int))else bN (mP F T) f (((k+1:Nat):Int),((m+a - 1:Nat):Int)):=by
  intro t l b d c k m n p q v w i j a I B;have A:=congrArg List.length n;simp only[zA5,zA9]at A j q;obtain⟨f,rfl⟩:∃f,c=f+1:=⟨c - 1,V7⟩
  exact⟨f,rfl,aaJ (rest:=l++b) (by simpa using n) p V7 V7 (by rw[ZZ F v w,I]) B V7⟩
 intro e
 induction e with
 |lf o a=>
  intro g c k m d b n p i j q;simp only[E.arOk,zA4,zA1]at g;obtain⟨f,rfl,h⟩:=r (t:=(o,a)) (l:=[]) n p q (by dsimp only;omega) (by dsimp only;omega) i j 0 (by rw[if_pos (by dsimp only;omega)];rfl) V7;rw[h];rfl
 |un o x C=>
  intro g c k m d b n p i j q;simp only[E.arOk,zA4,zA1]at g;obtain⟨f,rfl,h⟩:=r (t:=(o,0)) (l:=x.ts) n p q (by dsimp only;omega) (by dsimp only;omega) i j 1 (by rw[if_neg (by dsimp only;omega),if_pos (by dsimp only;omega)];rfl) V7;simp only[E.ts,zA9]at q j ⊢;rw[h,Q0];have:=C g.2 f (k+1) m (d++[(o,0)]) b (by rw[n];simp[E.ts]) (by simp[p]) i (by simp at j ⊢;omega) V7;rw[show m+1 - 1=m by omega,this,show k+1+x.ts.length=k+(x.ts.length+1) by omega,show f+1 - (x.ts.length+1)=f - x.ts.length by omega]
 |ag o x C=>
  intro g c k m d b n p i j q;simp only[E.arOk,zA4,zA1]at g;obtain⟨f,rfl,h⟩:=r (t:=(o,0)) (l:=x.ts) n p q (by dsimp only;omega) (by dsimp only;omega) i j 1 (by rw[if_neg (by dsimp only;omega),if_pos (by dsimp only;omega)];rfl) V7;simp only[E.ts,zA9]at q j ⊢;rw[h,Q0];have:=C g.2 f (k+1) m (d++[(o,0)]) b (by rw[n];simp[E.ts]) (by simp[p]) i (by simp at j ⊢;omega) V7;rw[show m+1 - 1=m by omega,this,show k+1+x.ts.length=k+(x.ts.length+1) by omega,show f+1 - (x.ts.length+1)=f - x.ts.length by omega]
 |bi o x y s u=>
  intro g c k m d b n p i j q;simp only[E.arOk,zA4,zA1]at g;obtain⟨f,rfl,h⟩:=r (t:=(o,0)) (l:=x.ts++y.ts) n p q (by dsimp only;omega) (by dsimp only;omega) i j 2 (by rw[if_neg (by dsimp only;omega),if_neg (by dsimp only;omega),if_pos (by dsimp only;omega)];rfl) V7;simp only[E.ts,zA9,zA5]at q j ⊢;rw[h,Q0];have v:=s g.1.2 f (k+1) (m+1) (d++[(o,0)]) (y.ts++b) (by rw[n];simp[E.ts]) (by simp[p]) V7 (by simp at j ⊢;omega) V7;have w:=u g.2 (f - x.ts.length) (k+1+x.ts.length) m (d++((o,0)::x.ts)) b (by rw[n];simp[E.ts]) (by simp[p];omega) V7 (by simp at j ⊢;omega) V7;rw[show m+2 - 1=m+1 by omega,v,Q0,show m+1 - 1=m by omega,w,show k+1+x.ts.length+y.ts.length=k+(x.ts.length+y.ts.length+1) by omega,show f+1 - (x.ts.length+y.ts.length+1)=f - x.ts.length - y.ts.length by omega]
 |ite x y z s u D=>
  intro g c k m d b n p i j q;simp only[E.arOk,zA4,zA1]at g;obtain⟨f,rfl,h⟩:=r (t:=(43,0)) (l:=x.ts++(y.ts++z.ts)) n p q Q2 Q2 i j 3 Z V7;simp only[E.ts,zA9,zA5]at q j ⊢;rw[h,Q0];have v:=s g.1.1 f (k+1) (m+2) (d++[(43,0)]) (y.ts++z.ts++b) (by rw[n];simp[E.ts]) (by simp[p]) V7 (by simp at j ⊢;omega) V7;have w:=u g.1.2 (f - x.ts.length) (k+1+x.ts.length) (m+1) (d++((43,0)::x.ts)) (z.ts++b) (by rw[n];simp[E.ts]) (by simp[p];omega) V7 (by simp at j ⊢;omega) V7;have G:=D g.2 (f - x.ts.length - y.ts.length) (k+1+x.ts.length+y.ts.length) m (d++((43,0)::(x.ts++y.ts))) b (by rw[n];simp[E.ts]) (by simp[p];omega) V7 (by simp at j ⊢;omega) V7;rw[show m+3 - 1=m+2 by omega,v,Q0,show m+2 - 1=m+1 by omega,w,Q0,show m+1 - 1=m by omega,G,show k+1+x.ts.length+y.ts.length+z.ts.length=k+(x.ts.length+(y.ts.length+z.ts.length)+1) by omega,show f+1 - (x.ts.length+(y.ts.length+z.ts.length)+1)=f - x.ts.length - y.ts.length - z.ts.length by omega]
theorem ahJ (F:Nat) (e:E) (d:e.arOk=true) {T b a:gV} {k:Nat} (f:T=b++(e.ts++a)) (i:b.length=k) (j:T.length<=800) (h:e.ts.length<=F):Ey F T (k:Int)=some (((k+e.ts.length:Nat):Int)):=by
 have g:1<=e.ts.length:=by cases e<;>simp[E.ts]
 have c:=congrArg List.length f;simp only[zA5]at c;unfold Ey Dg;rw[Q0];simp only[zA1];rw[Q0];have:=aeG F T V7 e d F k 1 b a f i V7 Q1 h;rw[if_pos Z]at this;exact this
def xG (b:V4):Int:=if b then 1 else 0
theorem xD (f:Nat) (b:V4):kC f b=some (xG b):=by cases b<;>rfl
theorem vO {a:Type} [Inhabited a] {l:V6 a} {k:Nat} (h:k<l.length):l.take (k+1)=l.take k++[at' l (k:Int)]:=by
 rw[List.take_add_one,zA0 h,mE,zAa,zA0 h];rfl
theorem gK {a:Type} [Inhabited a] {l:V6 a} {k:Nat} (h:k<l.length):at' l (k:Int)=l[k]:=by
 rw[mE,zAa,zA0 h];rfl
theorem least {p:Nat->Prop}:∀(n:Nat),p n->∃m,m<=n/\p m/\∀j,j<m->¬p j:=by
 intro n
 induction n using Nat.strongRecOn with
 | _ n ih =>
  intro h;by_cases d:∃m,m<n/\p m
  .obtain⟨m,e,f⟩:=d;obtain⟨k,a,b,c⟩:=ih m e f;exact⟨k,V7,b,c⟩
  .exact⟨n,zAg n,h,λj g i=>d ⟨j,g,i⟩⟩
theorem Xf {g:Type} [DecidableEq g]:∀(c b:V6 g),c.Nodup->(∀x∈c,x∈b)->c.length<=b.length
 | [],b,_,_=>Nat.zero_le _
 |a::c,b,h,hs=>by
  have d:=hs a zAe;have h:=zBh.1 h;have:=Xf c (b.erase a) h.2 (λx f=>(List.mem_erase_of_ne (fun(e:x=a)=>h.1 (by rw[<-e];exact f))).2 (hs x (zAk _ f)));rw[List.length_erase_of_mem d]at this;have i:0<b.length:=List.length_pos_of_mem d;simp only[zA9];omega
def nz (x:Int):V4:=decide (x≠0)
theorem aay (f:Nat) (l:aW) (h:l.length<f) (e:l.length<=1000):rY f l=some ((l.countP nz:Nat):Int):=by
 unfold rY;have:=dZ (step:=sY l) (K:=some ((l.countP nz:Nat):Int)) l.length (λk=>(((l.take k).countP nz:Nat),(k:Int))) (λk b c=>by
  have d:(l.take k).countP nz<=k:=zB4 List.countP_le_length Q1;unfold sY wN;dsimp only;rw[Q3,Q7,vO c,List.countP_append,Q8,Q8];by_cases a:at' l (k:Int)=0
  .rw[if_neg (by simpa using a)];simp[nz,a]
  .rw[if_pos a];simp[nz,a]) (λb=>by
  unfold sY AL;dsimp only;rw[Q0,List.take_length]) f h
 exact this
theorem Kp (f:Nat) (l:aW) (x:Int) (h:l.length<f) (t:l.length<=1000):tH f l x=some (decide (x∈l)):=by
 have q:∃i:Int,k_ f l x=some i/\(0<=i↔x∈l):=by
  by_cases b:x∈l
  .obtain⟨i,r,o⟩:=List.mem_iff_getElem.1 b;have a:∃i,i<l.length/\at' l (i:Int)=x/\∀j,j<i->at' l (j:Int)≠x:=by
    obtain⟨m,d,c,s⟩:=least (p:=λi=>at' l (i:Int)=x) i (by rw[gK r,o]);exact⟨m,V7,c,s⟩
   obtain⟨i,r,d,c⟩:=a;refine⟨i,?_,iff_of_true V7 b⟩
   unfold k_;exact dZ (step:=g_ l x) (K:=some (i:Int)) i (λk=>(k:Int)) (λk n g=>by
    unfold g_;rw[Q3,Q7,if_neg (λe=>c k g e.symm),Q8]) (λn=>by
    unfold g_;rw[Q3,Q7,if_pos d.symm]) f V7
  .refine⟨-1,?_,iff_of_false V7 b⟩
   unfold k_;exact dZ (step:=g_ l x) (K:=some (-1)) l.length (λk=>(k:Int)) (λk n g=>by
    unfold g_;rw[Q3,Q7,if_neg (λe=>b (by rw[e,gK g];exact List.getElem_mem g)),Q8]) (λn=>by
    unfold g_ xW;rw[Q0]) f h
 obtain⟨i,d,c⟩:=q;unfold tH;rw[bF d];by_cases b:x∈l
 .rw[zAd b,zAd (c.2 b)]
 .rw[zA8 b,zA8 (λe=>b (c.1 e))]
def jP (l:aW):Int:=match l.findIdx? nz with
 |some i=>(i:Int)
 |none=> -1
theorem C_ {l:aW} {i:Nat} (a:i<l.length) (b:at' l (i:Int)≠0) (c:∀j,j<i->at' l (j:Int)=0):jP l=i:=by
 have:l.findIdx? nz=some i:=by
  rw[List.findIdx?_eq_some_iff_getElem];refine⟨a,by rw[<-gK a];simpa [nz]using b,λj d=> ?_⟩
  have:=c j d;rw[gK V7]at this;simp[nz,this]
 unfold jP;rw[this]
theorem Bc {l:aW} (h:∀j,j<l.length->at' l (j:Int)=0):jP l = -1:=by
 have:l.findIdx? nz=none:=by
  rw[List.findIdx?_eq_none_iff];intro x b;obtain⟨i,a,rfl⟩:=List.mem_iff_getElem.1 b;have:=h i a;rw[gK a]at this;simp[nz,this]
 unfold jP;rw[this]
theorem aaU (f:Nat) (l:aW) (h:l.length<f) (t:l.length<=1000):oJ f l (λq=>qB f q)=some (jP l):=by
 unfold oJ;by_cases a:∃i,i<l.length/\at' l (i:Int)≠0
 .obtain⟨i,s,o⟩:=a;obtain⟨m,r,n,b⟩:=least (p:=λi=>at' l (i:Int)≠0) i o;have b:∀j,j<m->at' l (j:Int)=0:=λj d=>zAw.1 (b j d);rw[C_ V7 n b];exact dZ (step:=iC l _) (K:=some (m:Int)) m (λk=>(k:Int)) (λk c g=>by
   unfold iC qB;rw[Q3,Q7,bF Z,if_neg (by simp[b k g]),Q8]) (λc=>by
   unfold iC qB;rw[Q3,Q7,bF Z,if_pos (by simpa using n)]) f V7
 .have a:∀j,j<l.length->at' l (j:Int)=0:=λj d=>zAw.1 λe=>a ⟨j,d,e⟩;rw[Bc a];exact dZ (step:=iC l _) (K:=some (-1)) l.length (λk=>(k:Int)) (λk c g=>by
   unfold iC qB;rw[Q3,Q7,bF Z,if_neg (by simp[a k g]),Q8]) (λc=>by
   unfold iC qO;rw[Q0]) f h
def vE (l:aW):Int:=l.foldl min 1073741824
theorem aih (f:Nat) (l:aW) (h:l.length<f) (c:l.length<=1000):bN (uZ l) f ((1073741824:Int),(0:Int))=some (vE l):=by
 exact dZ (step:=uZ l) (K:=some (vE l)) l.length (λk=>((l.take k).foldl min 1073741824,(k:Int))) (λk a b=>by
  unfold uZ;dsimp only;rw[Q3,Q7,vO b,List.foldl_append,Q8];rfl) (λa=>by
  unfold uZ BM;dsimp only;rw[Q0,List.take_length];rfl) f h
theorem BU {l:aW} {x:Int} (h:x∈l):vE l<=x:=by
 have c:∀(l:aW) (a:Int),l.foldl min a<=a/\∀x∈l,l.foldl min a<=x:=by
  intro l
  induction l with
  |nil=>intro a;exact⟨Int.le_refl a,λx b=>by cases b⟩
  |cons y l e=>
   intro a;obtain⟨f,d⟩:=e (min a y);refine⟨by simp only[List.foldl_cons];omega,λx b=> ?_⟩
   rcases zAo.1 b with rfl|b
   .simp only[List.foldl_cons];omega
   .exact d x b
 exact(c l _).2 x h
theorem Cr (l:aW):vE l=1073741824\/vE l∈l:=by
 have b:∀(l:aW) (a:Int),l.foldl min a=a\/l.foldl min a∈l:=by
  intro l
  induction l with
  |nil=>intro a;exact .inl Z
  | cons y l ih =>
   intro a;rcases ih (min a y)with h|h
   .simp only[List.foldl_cons,h];rcases Int.le_total a y with q|q
    .left;omega
    .right;rw[show min a y=y by omega];exact zAe
   .right;exact zAk _ h
 exact b l _
def SQ (l:aW):Nat->Nat->Nat
 |0,k=>k
 |f+1,k=>if((k:Nat):Int)∈l then SQ l f (k+1)else k
def Vm (l:aW):Nat:=SQ l (l.length+1) 0
theorem abD (l:aW):((Vm l:Nat):Int)∉l/\(∀j,j<Vm l->((j:Nat):Int)∈l)/\Vm l<=l.length:=by
 have key:∀(f k:Nat),(∀j,j<k->((j:Nat):Int)∈l)->(∀j,j<SQ l f k->((j:Nat):Int)∈l)/\(SQ l f k=k+f\/((SQ l f k:Nat):Int)∉l):=by
  intro f
  induction f with
  |zero=>intro k h;exact⟨h,.inl Z⟩
  | succ f ih =>
   intro k h;by_cases hk:((k:Nat):Int)∈l
   .have:=ih (k+1) (λj hj=>by
     rcases zAr j k with q|q
     .exact h j q
     .rw[show j=k by omega];exact hk)
    simp only[SQ,if_pos hk];exact⟨this.1,this.2.imp (λe=>by omega) id⟩
   .simp only[SQ,if_neg hk];exact⟨h,.inr hk⟩
 have hle:∀m,(∀j,j<m->((j:Nat):Int)∈l)->m<=l.length:=λm h=>by
  have:=Xf ((List.range m).map λj=>((j:Nat):Int)) l (by
   rw[List.nodup_iff_pairwise_ne,List.pairwise_map];exact(List.nodup_iff_pairwise_ne.1 List.nodup_range).imp (λh e=>h (by omega))) (λx hx=>by
   obtain⟨j,hj,rfl⟩:=zAs.1 hx;exact h j (zAi.1 hj))
  simpa using this
 obtain⟨h1,h2⟩:=key (l.length+1) 0 (λj hj=>by omega);have h3:=hle _ h1;refine⟨?_,h1,h3⟩
 rcases h2 with h2|h2
 .have:SQ l (l.length+1) 0<=l.length:=h3;omega
 .exact h2
theorem aig (f:Nat) (l:aW) (h:l.length+2<f) (hl:l.length<=900):Cq f l=some ((Vm l:Nat):Int):=by
 obtain⟨h1,h2,h3⟩:=abD l;unfold Cq;exact dZ (step:=Bb f l) (K:=some ((Vm l:Nat):Int)) (Vm l) (λk=>(k:Int)) (λk ag hk=>by
  unfold Bb;rw[bF (Kp f l (k:Int) (by omega) (by omega)),if_pos (by simpa using h2 k hk),dC (by omega)]) (λag=>by
  unfold Bb CZ;rw[bF (Kp f l _ (by omega) (by omega)),if_neg (by simpa using h1)]) f (by omega)
def afJ (l:aW):Int:=l.foldl (λa x=>wI .i64 (a+x)) 0
theorem aiE (f:Nat) (l:aW) (h:l.length<f) (c:l.length<=1000):bN (u_ f l) f ((0:Int),(0:Int))=Et f (afJ l):=by
 refine(dZ (step:=u_ f l) l.length (λk=>(afJ (l.take k),(k:Int))) (λk a b=> ?_) (λa=> ?_) f h).trans Z
 .unfold u_;dsimp only;rw[Q3,Q7,Q8,vO b];unfold afJ;rw[List.foldl_append];rfl
 .unfold u_;dsimp only;rw[Q0,List.take_length]
def WN (o:Int) (l:aW):Int:=
 if o=20 then xG (l.all nz)else if o=21 then xG (l.any nz)else if o=22 then((l.countP nz:Nat):Int)else if o=23 then jP l else if o=24 then vE l else if o=26 then max (-1073741824) (min (afJ l) 1073741824)else((Vm l:Nat):Int)
theorem aeM (f:Nat) (o:Int) (l:aW) (hf:40<=f) (hl:l.length<=24) (ho:o=20\/o=21\/o=22\/o=23\/o=24\/o=26\/o=27):Db f o l=some (WN o l):=by
 have hc:=aay f l (by omega) (by omega);unfold Db;rcases ho with rfl|rfl|rfl|rfl|rfl|rfl|rfl
 .rw[if_pos Z,bF hc,bF (xD f _),WN,if_pos Z];have:(decide (((l.countP nz:Nat):Int)=(l.length:Int)))=l.all nz:=by
   rw[Bool.eq_iff_iff];simp[List.countP_eq_length,Int.ofNat_inj]
  rw[this]
 .rw[if_neg (by decide),if_pos Z,bF hc,bF (xD f _),WN,if_neg (by decide),if_pos Z];have:(decide ((0:Int)<((l.countP nz:Nat):Int)))=l.any nz:=by
   rw[Bool.eq_iff_iff,zA1,List.any_eq_true,show((0:Int)<((l.countP nz:Nat):Int))↔0<l.countP nz by omega,List.countP_pos_iff]
  rw[this]
 .rw[if_neg (by decide),if_neg (by decide),if_pos Z,bF hc];rfl
 .rw[if_neg (by decide),if_neg (by decide),if_neg (by decide),if_pos Z,bF (aaU f l (by omega) (by omega))];rfl
 .rw[if_neg (by decide),if_neg (by decide),if_neg (by decide),if_neg (by decide),if_pos Z,aih f l (by omega) (by omega)];rfl
 .rw[if_neg (by decide),if_neg (by decide),if_neg (by decide),if_neg (by decide),if_neg (by decide),if_neg (by decide),if_pos Z,aiE f l (by omega) (by omega)];rfl
 .rw[if_neg (by decide),if_neg (by decide),if_neg (by decide),if_neg (by decide),if_neg (by decide),if_neg (by decide),if_neg (by decide),if_pos Z,bF (aig f l (by omega) (by omega))];rfl
end Go.Proofs.YtgciopekomcbfaaGreatDoor
namespace Go.Proofs.YtgciopekomcbfaaGreatDoor
open Go.Sx
def Bv (a:Unit):V1 (Int):=
 some (-1:Int)
def xM (c:dM) (d e a:Int) (b:(Int)->V1 (Int)):V1 (Int):=
 if a<((at' c.2 d).length:Int)then(ck (0<=a/\a<((at' c.2 d).length:Int)) (if((at' (at' c.2 d) a).1)=e then(some (a))else(b (wI .i64 (a+(1:Int))))))else(Bv (()))
def jY (U:Nat) (b:dM) (a c:Int):V1 (Int):=
 ck (0<=a/\a<(b.2.length:Int)) (bN (xM b a c) U (0:Int))
theorem PG:aU prog 120:=call120
theorem CF (U:Nat) {p0:dM} {p1 p2:Int} (f g:V0) (k:mS) (r:Int) (h:jY U p0 p1 p2=some r):
  a_ prog 120 #[Value.agg #[f,g],vI (p1),vI (p2)] [Sl aL f p0.1,S2 aY g k p0.2] (λx:Unit=>vI (r)) (λx l=>l) (λ_ l=>l):=by
 refine a_.of func120 Z ntmps120 Z λc=>aP<|aI (aN.box (cs:=[f,g]) Z Z) Z λn=>Q5 Z<|aK<|iA (λe=>Bv e=some r) (λe i=>[]) (λe i=>[]) ?_ ?_
 .refine aP<|bT Z<|dO 0 Z<|aA Z<|dV h λb h=>aB (cA Z Z (yQ Z) Z Z b) Z<|aB (cW Z (yQ Z) Z Z b) Z<|aB (iN Z (zBm (yQ Z) b.1 b.2) Z) Z<|aA Z<|aM<|aS<|gC (xM p0 p1 p2) (λa j=>[(2,vI (p2)),(13,(at' k p1).1),(14,vI ((at' p0.2 p1).length:Int)),(15,vI (a))]) (λa j=>[]) (0:Int) () h SF .nil ?_;intro o a j h;refine aP<|dD Z<|aM<|aK<|eI h Z (λh=>?_) λh=>?_
  .refine cQ<|aK<|aS<|Q6 Z<|dV h λd h=>aB (bR Z Z (zBm (yQ Z) b.1 b.2) Z Z d) Z<|aB (gT (cs:=[vI ((at' (at' p0.2 p1) a).1),vI ((at' (at' p0.2 p1) a).2)]) Z (zBm (yQ Z) b.1 b.2) bX Z Z Z Z d) Z<|aI (aN.alloc (cs:=Uj) Z Z) Z λm=>aC Z<|bQ 0 (vs:=[vI ((at' (at' p0.2 p1) a).1),vI ((at' (at' p0.2 p1) a).2)]) Z Z Z Z Z Z<|aM<|aP<|bT Z<|dO 0 Z<|aA Z<|bZ Z<|aM<|eI h Z (λh=>?_) λh=>?_
   .refine Q6 Z<|Q5 Z<|aT<|bW<|aJ<|aJ<|bW<|aJ ?_;cases h;exact xT Z
   exact eP<|m_<|aR<|cU Z<|aA Z<|aM<|iH (wI .i64 (a+(1:Int))) () h SF .nil (aF.refl _ _)
  exact fO<|j_ () (()) h SF Z
 intro e i h;unfold Bv at h;refine Q4 Z<|aT ?_;cases h;exact mA Z
def Bg (U:Nat) (a:dM):V1 (Int):=
 ck (0<=(a.1.length:Int)) (some (wI .u32 ((Dq .u32 (1:Int) (a.1.length:Int)) - (1:Int))))
theorem adV:aU prog 127:=call127
theorem TE (U:Nat) {a:dM} (b d:V0) (f:mS) (r:Int) (h:Bg U a=some r):
  a_ prog 127 #[Value.agg #[b,d]] [Sl aL b a.1,S2 aY d f a.2] (λx:Unit=>vU (r)) (λx l=>l) (λ_ l=>l):=by
 refine a_.of func127 Z ntmps127 Z λc=>aP<|aI (aN.box (cs:=[b,d]) Z Z) Z λg=>Q5 Z<|aP<|bT Z<|dO 0 Z<|kG (dH Z) Z<|dV h λe h=>aB (NZ Z Z e) Z<|aB (vZ Z Z) Z<|Q5 Z<|aT ?_;cases h;exact xT Z
def xN (a:aW):V1 aW:=
 some (a)
def sL (c:Int×aW×aW) (b:(Int×aW×aW)->V1 aW) (a:aW×aW):V1 aW:=
 b ((wI .i64 (c.1+(1:Int))),a.1,a.2)
def sM (c:dM) (b:aW×aW) (e:(aW×aW)->V1 aW) (a:Int×aW×aW) (d:(Int×aW×aW)->V1 aW):V1 aW:=
 if a.1<((at' c.2 (at' b.1 (0:Int))).length:Int)then(ck (0<=a.1/\a.1<((at' c.2 (at' b.1 (0:Int))).length:Int)) (ck (0<=((at' (at' c.2 (at' b.1 (0:Int))) a.1).1)/\((at' (at' c.2 (at' b.1 (0:Int))) a.1).1)<(a.2.2.length:Int)) (if(at' a.2.2 ((at' (at' c.2 (at' b.1 (0:Int))) a.1).1))<(0:Int)then(ck (0<=(at' b.1 (0:Int))/\(at' b.1 (0:Int))<(a.2.2.length:Int)) (ck (0<=((at' (at' c.2 (at' b.1 (0:Int))) a.1).1)/\((at' (at' c.2 (at' b.1 (0:Int))) a.1).1)<(a.2.2.length:Int)) (ck ((a.2.1.length:Int)+(List.length ([((at' (at' c.2 (at' b.1 (0:Int))) a.1).1)]):Int)<=1099511627) (sL a d ((a.2.1++([((at' (at' c.2 (at' b.1 (0:Int))) a.1).1)])),(List.set a.2.2 (Int.toNat ((at' (at' c.2 (at' b.1 (0:Int))) a.1).1)) (wI .i64 ((at' a.2.2 (at' b.1 (0:Int)))+(1:Int)))))))))else(sL a d (a.2.1,a.2.2)))))else(e (a.2.1,a.2.2))
def pD (U:Nat) (c:dM) (a:aW×aW) (b:(aW×aW)->V1 aW):V1 aW:=
 if(0:Int)<(a.1.length:Int)then(ck (0<=(0:Int)/\(0:Int)<(a.1.length:Int)) (ck (0<=(1:Int)/\(1:Int)<=(a.1.length:Int)) (ck (0<=(at' a.1 (0:Int))/\(at' a.1 (0:Int))<(c.2.length:Int)) (bN (sM c a b) U ((0:Int),(List.drop (Int.toNat (1:Int)) a.1),a.2)))))else(xN (a.2))
def Bw (U:Nat) (c:dM) (a:Int) (b:aW):V1 aW:=
 ck (0<=a/\a<(b.length:Int)) (bN (pD U c) U (([a]),(List.set b (Int.toNat a) (0:Int))))
def By (U:Nat) (c:dM) (d:Int) (a:Di) (b:(Int×aW)->V1 aW):V1 aW:=
 if a.1<((List.replicate (Int.toNat (List.length c.2:Int)) (0:Int)).length:Int)then(ck (0<=a.1/\a.1<(a.2.length:Int)) (b ((wI .i64 (a.1+(1:Int))),(List.set a.2 (Int.toNat a.1) (-1:Int)))))else(Bw U c d (a.2))
def mO (U:Nat) (a:dM) (b:Int):V1 aW:=
 ck (0<=(a.2.length:Int)/\(a.2.length:Int)<=1099511627) (bN (By U a b) U ((0:Int),(List.replicate (Int.toNat (a.2.length:Int)) (0:Int))))
theorem Wn:aU prog 161:=call161
theorem FS (U:Nat) {m:dM} {q:Int} (L M:V0) (T:mS) (r:aW) (h:mO U m q=some r):
  a_ prog 161 #[Value.agg #[L,M],vI (q)] [Sl aL L m.1,S2 aY M T m.2] (λx:V0=>x) (λx l=>Ar dW x r::l) (λ_ l=>l):=by
 let H:=(List.replicate (Int.toNat (m.2.length:Int)) (0:Int))
 refine a_.of func161 Z ntmps161 Z λc=>?_;refine aP<|aI (aN.box (cs:=[L,M]) Z Z) Z λv=>let s:=bH v [L,M] 28;aC Z<|aM<|aP<|bT Z<|dO 0 Z<|aB (fN Z (yQ Z) Z) Z<|dV h λY h=>aI (tZ (e:=dW) (0:Int) Z Z Z Z Y Z Z Z) Z λn=>aC Z<|aM<|aK<|iA (λu=>Bw U m q u=some r) (λu V=>[(1,vI (q)),(2,vP v),(5,n)]) (λu V=>[Ar dW n u,s]) ?_ ?_
 .refine aP<|aA Z<|aB (iN Z (bP (aG.res 0 Z) fG) Z) Z<|aA Z<|aM<|aS<|gC (By U m q) (λf y=>[(1,vI (q)),(2,vP v),(5,n),(16,vI (H.length:Int)),(17,vI (f.1))]) (λf y=>[Ar dW n f.2,s]) ((0:Int),H) () h SF (aX.refl _) ?_;intro aa f y h;refine aP<|dD Z<|aM<|aK ?_;refine eI h Z (λh=>?_) λh=>?_
  .refine cQ<|aK<|aS<|aP<|aA Z<|aC Z<|aM<|aR<|aA Z<|aA Z<|dV h λG h=>aB (bR Z Z (bP (aG.res 0 Z) fG) Z Z G) Z<|Fg 0 (-1:Int) G Z Z Z Z Z Z Z<|eW<|m_<|aR<|cU Z<|aA Z<|aM ?_;exact BD ((wI .i64 (f.1+(1:Int))),(List.set f.2 (Int.toNat f.1) (-1:Int))) () h SF Z
  refine fO ?_;exact j_ (f.2) () h SF Z
 intro u V h;refine aP<|aA Z<|aA Z<|dV h λW h=>aB (bR Z Z (bP (aG.res 0 Z) fG) Z Z W) Z<|Fg 0 (0:Int) W Z Z Z Z Z Z Z<|aM<|aP<|aA Z<|aI (b_ (e:=dW) ([q]) [(0,vI (q))] Z Z Z Z (gY (vI (q)) Z) Z Z Z) Z λu8=>aC Z<|aM<|aK<|iA (λo=>xN o=some r) (λo w=>[(5,n)]) (λo w=>[Ar dW n o]) ?_ ?_
 .refine aS<|gC (B:=V0) (pD U m) (λb t=>[(2,vP v),(5,n),(7,t)]) (λb t=>[Ar dW t b.1,Ar dW n b.2,s]) (([q]),(List.set u (Int.toNat q) (0:Int))) (u8) h SF (aX.refl _) ?_;intro P b t h;let K:=(sM m b (bN (pD U m) P))
  let j:=(at' b.1 (0:Int))
  let J:=vI ((at' m.2 j).length:Int);refine aK<|aP<|aA Z<|aB (iN Z (bP (aG.res 0 Z) fG) Z) Z<|aB (wM Z Z) Z<|aM ?_;refine eI h Z (λh=>?_) λh=>?_
  .refine cQ<|aS<|aP<|aA Z<|dV h λA h=>aB (bR Z Z (bP (aG.res 0 Z) fG) Z Z A) Z<|aB (cK Z (bP (aG.res 0 Z) fG) Z Z Z gF A) Z<|aC Z<|aM<|aP<|aA Z<|dV h λN h=>aI (Rv 0 N Z Z Z Z Z Z) Z λR=>aC Z<|aM<|aP<|bT Z<|dO 2 Z<|aA Z<|dV h λg h=>aB (cA Z Z (yQ Z) Z Z g) Z<|aB (cW Z (yQ Z) Z Z g) Z<|aB (iN Z (zBm (yQ Z) g.1 g.2) Z) Z<|aA Z<|aM<|aS<|gC (B:=V0) K (λa k=>[(2,vP v),(5,n),(7,k),(8,vI j),(41,(at' T j).1),(42,J),(43,vI (a.1))]) (λa k=>[Ar dW k a.2.1,Ar dW n a.2.2,s]) ((0:Int),(List.drop (Int.toNat (1:Int)) b.1),b.2) (R) h SF (aX.refl _) ?_;intro Q a k h;let I:=(wI .i64 ((at' a.2.2 j)+(1:Int)))
   let i:=(at' (at' m.2 j) a.1)
   refine aP<|dD Z<|aM<|aK ?_;refine eI h Z (λh=>?_) λh=>?_
   .refine cQ<|aK<|Ez (B:=V0) (λd=>sL a (bN K Q) d=some r) (λd p=>[(2,vP v),(5,n),(7,p),(8,vI j),(41,(at' T j).1),(42,J),(43,vI (a.1))]) (λd p=>[Ar dW p d.1,Ar dW n d.2,s]) ?_ ?_
    .refine aS<|aP<|dV h λC h=>aB (bR Z Z (zBm (yQ Z) g.1 g.2) Z Z C) Z<|aB (gT (cs:=[vI (i.1),vI (i.2)]) Z (zBm (yQ Z) g.1 g.2) bX Z Z Z Z C) Z<|aI (aN.alloc (cs:=Uj) Z Z) Z λX=>bQ 0 (vs:=[vI ((at' (at' m.2 (at' b.1 (0:Int))) a.1).1),vI ((at' (at' m.2 (at' b.1 (0:Int))) a.1).2)]) Z Z Z Z Z Z<|aM<|aP<|aA Z<|bT Z<|dO 0 Z<|dV h λD h=>aB (bR Z Z (bP (aG.res 2 Z) fG) Z Z D) Z<|aB (cK Z (bP (aG.res 2 Z) fG) Z Z Z gF D) Z<|dD Z<|aM ?_;refine eI h Z (λh=>?_) λh=>?_
     .refine aK ?_;refine yP [0,0,2,0,0,24,56,120,255,511] 8 mixedOrders ?_;refine bD Z<|cN Z<|gW 0 Z<|bD Z<|bD Z<|dV h λE h=>bK Z (aX.cons 2 Z .nil) .nil (bR Z Z (bP (aG.res 0 Z) fG) Z Z E) aO.z<|bK Z (aX.cons 2 Z .nil) .nil (cK Z (bP (aG.res 0 Z) fG) Z Z Z gF E) aO.z<|jL Z (Br Z Z)<|bU 8 Z Z<|dV h λF h=>aB (bR Z Z (bP (aG.res 2 Z) fG) Z Z F) Z<|Fg 2 I F Z Z Z Z Z Z Z<|aM<|aR<|aA Z<|bT Z<|dO 0 Z<|aI (b_ (e:=dW) ([(i.1)]) [(0,vI (i.1))] Z Z Z Z (gY (vI (i.1)) Z) Z Z Z) Z λab=>dV h λO h=>aI (fU 2 fG Z Z Z (bP (aG.res 0 Z) fG) Z Z Z Z O Z) Z λS=>aC Z<|eW<|m_ ?_;exact cT ((a.2.1++([(i.1)])),(List.set a.2.2 (Int.toNat (i.1)) I)) (S) h SF (aX.ix [2,3,4] Z Z) (aF.refl _ _)
     refine eP<|m_ ?_;exact cT (a.2.1,a.2.2) (k) h SF (aX.ix [1,2,3] Z Z) (aF.refl _ _)
    intro d p h;unfold sL at h;refine aR<|cU Z<|aA Z<|aM ?_;exact BD ((wI .i64 (a.1+(1:Int))),d.1,d.2) (p) h SF Z
   refine tB<|fT<|fT<|Aj<|m_ ?_;exact BD (a.2.1,a.2.2) (k) h SF Z
  refine fO ?_;exact cT (b.2) () h SF (aX.ix [1] Z Z) (aF.refl _ _)
 intro o w h;unfold xN at h;refine aP<|aA Z<|aC Z<|aM<|aT ?_;cases h;exact fD (n) Z Z (RV.tmp Z) (aX.refl _) aF.nil
def rX (a:Unit):V1 V4:=
 some (true)
def lY (c:aW) (a:Int) (b:(Int)->V1 V4):V1 V4:=
 if a<(c.length:Int)then(ck (0<=a/\a<(c.length:Int)) (if(at' c a)<(0:Int)then(some (false))else(b (wI .i64 (a+(1:Int))))))else(rX (()))
def gR (U:Nat) (a:dM):V1 V4:=
 Option.bind (h_ U ((a.1,a.2))) λb=>(if(!b)=true then(some (false))else(Option.bind (mO U ((a.1,a.2)) (0:Int)) λc=>(bN (lY c) U (0:Int))))
theorem PH:aU prog 159:=call159
theorem Ae (U:Nat) {k:dM} (e f:V0) (m:mS) (r:V4) (h:gR U k=some r):
  a_ prog 159 #[Value.agg #[e,f]] [Sl aL e k.1,S2 aY f m k.2] (λx:Unit=>vB (r)) (λx l=>l) (λ_ l=>l):=by
 refine a_.of func159 Z ntmps159 Z λc=>aP<|aI (aN.box (cs:=[e,f]) Z Z) Z λt=>Q5 Z<|aK<|aP<|dL 0 Z<|fP h λp q h=>aI (zBk PL (AX U e f m p q) Z (jS [0,1] Z)) Z λu=>aB (sI Z) Z<|aM<|Ca h Z (λ_ h=>?_) λ_ h=>?_
 .refine Q4 Z<|aT<|aJ ?_;cases h;exact xT Z
 refine cQ<|aK<|iA (λi=>rX i=some r) (λi n=>[]) (λi n=>[]) ?_ ?_
 .refine aP<|dL 0 Z<|fP h λj s h=>aI (zBk Wn (FS U e f m j s) Z (jS [0,1] Z)) Z λg=>aB (iN Z (bP (aG.res 0 Z) fG) Z) Z<|aA Z<|aM<|aS<|gC (lY j) (λa b=>[(9,g),(10,vI (j.length:Int)),(11,vI (a))]) (λa b=>[Ar dW g j]) (0:Int) () h SF (aX.ix [0] Z Z) ?_;intro o a b h;refine aP<|dD Z<|aM<|aK<|eI h Z (λh=>?_) λh=>?_
  .refine cQ<|aK<|aS<|aP<|dV h λd h=>aB (bR Z Z (bP (aG.res 0 Z) fG) Z Z d) Z<|aB (cK Z (bP (aG.res 0 Z) fG) Z Z Z gF d) Z<|Q5 Z<|Q6 Z<|dD Z<|aM<|eI h Z (λh=>?_) λh=>?_
   .refine Q4 Z<|aT<|bW<|aJ<|aJ<|bW<|aJ ?_;cases h;exact xT Z
   exact eP<|m_<|aR<|cU Z<|aA Z<|aM<|BD (wI .i64 (a+(1:Int))) () h SF Z
  exact fO<|cT () (()) h SF .nil (aF.refl _ _)
 intro i n h;unfold rX at h;refine Q4 Z<|aT ?_;cases h;exact mA Z
def tF (a:Int):V1 (Int):=
 some (a)
def y_ (c:aW) (a:gO) (b:jF->V1 (Int)):V1 (Int):=
 if a.2<(c.length:Int)then(ck (0<=a.2/\a.2<(c.length:Int)) (b ((max a.1 (at' c a.2)),(wI .i64 (a.2+(1:Int))))))else(tF (a.1))
def nV (U:Nat) (a:aW):V1 (Int):=
 bN (y_ a) U ((-1:Int),(0:Int))
theorem adY:aU prog 160:=call160
theorem JY (U:Nat) {e:aW} (f:V0) (r:Int) (h:nV U e=some r):
  a_ prog 160 #[f] [Sl aL f e] (λx:Unit=>vI (r)) (λx l=>l) (λ_ l=>l):=by
 refine a_.of func160 Z ntmps160 Z λc=>?_;unfold nV at h;refine Q4 Z<|Q4 Z<|aK<|iA (λb=>tF b=some r) (λb g=>[(3,vI (b))]) (λb g=>[]) ?_ ?_
 .refine Q6 Z<|kG (dH Z) Z<|aA Z<|aM<|aS<|gC (y_ e) (λa i=>[(3,vI (a.1)),(6,f),(7,vI (e.length:Int)),(8,vI (a.2))]) (λa i=>[]) ((-1:Int),(0:Int)) () h SF (aX.refl _) ?_;intro j a i h;refine aP<|dD Z<|aM<|aK<|eI h Z (λh=>?_) λh=>?_
  .exact cQ<|aK<|aS<|aP<|dV h λd h=>aB (bR Z Z (dH Z) Z Z d) Z<|aB (cK Z (dH Z) Z Z Z gF d) Z<|Q5 Z<|aR<|aA Z<|aA Z<|aB (LU Z Z) Z<|aC Z<|eW<|m_<|aR<|cU Z<|aA Z<|aM<|BD ((max a.1 (at' e a.2)),(wI .i64 (a.2+(1:Int)))) () h SF Z
  exact fO<|j_ (a.1) () h SF Z
 intro b g h;unfold tF at h;refine Q6 Z<|Q5 Z<|aT ?_;cases h;exact mA Z
def wA (b:dM) (a:fY):V1 vW:=
 some ((b.1,a))
def nE (U:Nat) (b:An) (d:dM) (a:Int×fY) (c:(Int×fY)->V1 vW) (e:V4):V1 vW:=
 if e=true then(ck (0<=a.1/\a.1<(b.2.1.length:Int)) (Option.bind (gM U (at' b.2.1 a.1) (d.2.length:Int)) λf=>(ck (0<=(wI .i64 (a.1+(1:Int)))/\(wI .i64 (a.1+(1:Int)))<(b.2.1.length:Int)) (Option.bind (gM U (at' b.2.1 (wI .i64 (a.1+(1:Int)))) (d.2.length:Int)) λg=>(Option.bind (uK U b.2.2.1 a.1) λh=>(Option.bind (gM U h (15:Int)) λi=>(Option.bind (oG U ((b.1,b.2.1,b.2.2.1,b.2.2.2.1,b.2.2.2.2.1,b.2.2.2.2.2)) ((d.1,a.2)) f g (wI .i64 ((1:Int)+i))) λj=>(c ((wI .i64 (a.1+(2:Int))),j)))))))))else(wA d (a.2))
def qL (U:Nat) (c:An) (d:dM) (a:Int×fY) (b:(Int×fY)->V1 vW):V1 vW:=
 if(wI .i64 (a.1+(1:Int)))<(c.2.1.length:Int)then(nE U c d a b (decide (a.1<(60:Int))))else(nE U c d a b (false))
def oH (U:Nat) (b:An) (a:dM):V1 vW:=
 bN (qL U b a) U ((a.2.length:Int),a.2)
theorem ahf:aU prog 18:=call18
theorem HM (U:Nat) {d:An} {f:dM} (w o y g k:V0) (W:e_) (r:Dh) (h:oH U d f=some r):
  Bp prog 18 #[Value.agg #[vI (d.1),w,o,y,vB (d.2.2.2.2.1),vB (d.2.2.2.2.2)],Value.agg #[g,k]] [Ar dW g f.1,Ar bI.raw k W,fE bO W f.2] [Sl aL w d.2.1,Sl aL o d.2.2.1,Sl aL y d.2.2.2.1] (λx:V0×V0×List V0=>Value.agg #[x.1,x.2.1]) (λx l=>Ar dW x.1 r.1::Ar bI.raw x.2.1 x.2.2::fE bO x.2.2 r.2::l):=by
 let v:=Sl aL w d.2.1;let u:=Sl aL o d.2.2.1;let t:=Sl aL y d.2.2.2.1;let s:=(f.2.length:Int)
 refine Bp.of (vs:=[Value.agg #[vI (d.1),w,o,y,vB (d.2.2.2.2.1),vB (d.2.2.2.2.2)],Value.agg #[g,k]]) func18 Z ntmps18 Z λc=>?_;unfold oH at h;refine aP<|aI (aN.box (cs:=[vI (d.1),w,o,y,vB (d.2.2.2.2.1),vB (d.2.2.2.2.2)]) Z Z) Z λN=>let q:=bH N [vI (d.1),w,o,y,vB (d.2.2.2.2.1),vB (d.2.2.2.2.2)] 24;aI (aN.box (cs:=[g,k]) Z Z) Z λL=>let n:=bH L [g,k] 28;aI (aN.alloc (cs:=[eV,eV]) Z Z) Z λM=>let m:=bH M [eV,eV] 28;aM<|aP<|bT Z<|dO 1 Z<|aB (fN Z (cC (i:=4) (j:=5) Z Z bX) Z) Z<|aC Z<|aM<|aK<|lT (B:=e_) (λA=>wA f A=some r) (λA C=>[(3,vP L),(4,vP M)]) (λA C=>[m,n,Ar dW g f.1,Ar bI.raw k C,fE bO C A]) (λA C=>[v,u,t]) ?_ ?_
 .refine aP<|aA Z<|aC Z<|aM<|aS<|pN (B:=e_) (qL U d f) (λa b=>[(2,vP N),(3,vP L),(4,vP M),(5,vI s),(6,vI (a.1))]) (λa b=>[m,n,q,Ar dW g f.1,Ar bI.raw k b,fE bO b a.2]) (λa b=>[v,u,t]) (s,f.2) (W) h SF (aX.refl _) (aF.refl _ _) ?_;intro Q a b h;refine aK<|aK<|lT (B:=Unit) (λe=>nE U d f a (bN (qL U d f) Q) e=some r) (λe p=>[(2,vP N),(3,vP L),(4,vP M),(5,vI s),(6,vI (a.1)),(20,vB (e))]) (λe p=>[m,n,q,Ar dW g f.1,Ar bI.raw k b,fE bO b a.2]) (λe p=>[v,u,t]) ?_ ?_
  .refine aR<|aA Z<|cU Z<|bT Z<|dO 2 Z<|kG (dH Z) Z<|dD Z<|aA Z ?_;refine GN h Z (λ_ h=>?_) λ_ h=>?_
   .refine iP Z<|bA Z (Ft Z Z) Z<|gE Z<|aM ?_;exact j_ (decide (a.1<(60:Int))) () h SF Z
   refine aQ Z<|aQ Z<|jD Z<|aM ?_;exact j_ (false) () h SF Z
  intro e p h;refine Ca h Z (λ_ h=>?_) λ_ h=>?_
  .refine cQ<|aK<|aS ?_;refine yP [0,0,0,4,0,28,60,0,252,0,512,0,2048,7680,15872,0,65532,0,131072,0,1048572,2097148,4194300,8388607] 23 mixedOrders ?_;refine nP 2 Z<|nP 1 Z<|cN Z<|gW 2 Z<|bD Z<|dV h λI h=>bK Z .nil (nD 0 Z) (bR Z Z (dH Z) Z Z I) aO.z<|bK Z .nil (nD 0 Z) (cK Z (dH Z) Z Z Z gF I) aO.z<|bD Z<|fP h λR D h=>zBl Z Z Z (zBk Hc (jZ U R D) Z .nil) Z (λX=>(pB [([1],[]),([2],[])] Z)) λX=>jL Z (cV Z Z Z Z Z)<|bK Z (aX.cons 2 Z .nil) .nil (eB 0 Z Z Z Z Z) (aO.h (aX.ix [2] Z Z) .nil aO.z)<|jL Z (iO Z)<|jL Z (Br Z Z)<|dV h λJ h=>bK Z .nil (nD 0 Z) (bR Z Z (dH Z) Z Z J) (aO.h .nil (nD 0 Z) aO.z)<|bK Z .nil (nD 0 Z) (cK Z (dH Z) Z Z Z gF J) (aO.h .nil (nD 0 Z) aO.z)<|jL Z (iO Z)<|fP h λS E h=>zBl Z Z Z (zBk Hc (jZ U S E) Z .nil) Z (λY=>(pB [([1],[]),([2],[])] Z)) λY=>jL Z (cV Z Z Z Z Z)<|bK Z (aX.cons 2 Z .nil) .nil (eB 0 Z Z Z Z Z) (aO.h (aX.ix [2] Z Z) .nil (aO.h (aX.ix [2] Z Z) .nil aO.z))<|jL Z (iO Z)<|fP h λT F h=>zBl Z Z Z (zBk Mc (CI U o T F) Z (jS [1] Z)) Z (λaa=>(pB [([1],[]),([2],[])] Z)) λaa=>fP h λV G h=>zBl Z Z Z (zBk Hc (jZ U V G) Z .nil) Z (λab=>(pB [([1],[]),([2],[])] Z)) λab=>jL Z (Br Z Z)<|bU 23 Z Z<|fP h λK H h=>aI (Eg (Min:=[Ar bI.raw k b,fE bO b a.2]) (Mr:=[m,n,q,Ar dW g f.1]) aal (CB U w o y g k b K H) Z (aX.ix [4,5,0,1,2,3] Z Z) (aF.cons (dH Z) (aF.cons (yQ Z) (aF.cons (DU Z) (aF.cons (bP (aG.res 3 Z) fG) .nil)))) (λ_ _=>rfl)) Z λac=>eW<|m_<|aR<|aA Z<|cU Z<|aC Z<|aM ?_;exact iH ((wI .i64 (a.1+(2:Int))),K) (ac) h SF (aX.ix [2,3,4,5,0,1] Z Z) (aF.refl _ _)
  refine fO ?_;exact cT (a.2) (b) h SF (aX.ix [0,1,3,4,5] Z Z) (aF.refl _ _)
 intro A C h;unfold wA at h;refine aP<|dL 1 Z<|bG (Know.one ((bP (aG.res 2 Z) fG))) λO=>bG (AA (cC (i:=3) (j:=4) Z Z bX)) λP=>bQ 0 (vs:=[g,k]) Z Z (eJ O (eJ P Z)) Z Z Z<|aM<|aT ?_;cases h;exact fD (g,k,C) Z Z (RV.cell 0 Z Z Z Z) (aX.ix [2,3,4] Z Z) aF.nil
def uH (U:Nat) (a:ByteArray) (b c d:Int):V1 ((ByteArray×Int×Int×Int×Int×Int)):=
 some ((a,(1:Int),(0:Int),b,c,d))
theorem UF:aU prog 89:=call89
theorem CG (U:Nat) {a:ByteArray} {b d e:Int} (r:Xx) (h:uH U a b d e=some r):
  a_ prog 89 #[vS (a),vI (b),vI (d),vI (e)] [] (λx:Unit=>Value.agg #[vS (r.1),vI (r.2.1),vI (r.2.2.1),vI (r.2.2.2.1),vI (r.2.2.2.2.1),vI (r.2.2.2.2.2)]) (λx l=>l) (λ_ l=>l):=by
 refine a_.of func89 Z ntmps89 Z λc=>?_;unfold uH at h;refine aP<|aI (aN.alloc (cs:=vD4) Z Z) Z λf=>aM<|Q6 Z<|aA Z<|aA Z<|aA Z<|aB (Y.bld5 (r:=Value.agg #[vS (a),vI (1:Int),vI (0:Int),vI (b),vI (d),vI (e)]) Z Z Z Z Z (by intro w;simp[Instr.build,Instr.fill,cY,cI,cD,cZ,c_,cJ,dU])) Z ?_;refine bQ 0 (vs:=[vS (a),vI (1:Int),vI (0:Int),vI (b),vI (d),vI (e)]) Z Z Z Z Z Z<|aM<|aT ?_;cases h;exact fD () Z Z (RV.cell 0 Z Z Z Z) .nil aF.nil
def xR (U:Nat) (a:ByteArray):V1 ((ByteArray×Int×Int×Int×Int×Int)):=
 some ((a,(3:Int),(0:Int),(0:Int),(0:Int),(0:Int)))
theorem aam:aU prog 90:=call90
theorem ER (U:Nat) {a:ByteArray} (r:Xx) (h:xR U a=some r):
  a_ prog 90 #[vS (a)] [] (λx:Unit=>Value.agg #[vS (r.1),vI (r.2.1),vI (r.2.2.1),vI (r.2.2.2.1),vI (r.2.2.2.2.1),vI (r.2.2.2.2.2)]) (λx l=>l) (λ_ l=>l):=by
 refine a_.of func90 Z ntmps90 Z λc=>?_;unfold xR at h;refine aP<|aI (aN.alloc (cs:=vD4) Z Z) Z λb=>aM<|Q6 Z<|aB (El (r:=Value.agg #[vS (a),vI (3:Int),vI (0:Int),vI (0:Int),vI (0:Int),vI (0:Int)]) Z Z (by intro w;simp[Instr.build,Instr.fill,cY,cI,cD,cZ,c_,cJ,dU])) Z ?_;refine bQ 0 (vs:=[vS (a),vI (3:Int),vI (0:Int),vI (0:Int),vI (0:Int),vI (0:Int)]) Z Z Z Z Z Z<|aM<|aT ?_;cases h;exact fD () Z Z (RV.cell 0 Z Z Z Z) .nil aF.nil
def Iy (U:Nat) : V1 acI:=
 Option.bind (uH U (ByteArray.mk #[100]) (0:Int) (1:Int) (0:Int)) λa=>(Option.bind (xR U (ByteArray.mk #[112])) λb=>(some ([(a.1,a.2.1,a.2.2.1,a.2.2.2.1,a.2.2.2.2.1,a.2.2.2.2.2),(b.1,b.2.1,b.2.2.1,b.2.2.2.1,b.2.2.2.2.1,b.2.2.2.2.2)])))
theorem ahi:aU prog 37:=call37
theorem QQ (U:Nat) (r:acJ) (h:Iy U = some r):
  a_ prog 37 #[] [] (λx:V0=>x) (λx l=>Ar lC x r::l) (λ_ l=>l):=by
 refine a_.of func37 Z ntmps37 Z λc=>Q4 Z<|aP<|fP h λa f h=>aI (zBk UF (CG U a f) Z .nil) Z λi=>fP h λb g h=>aI (zBk aam (ER U b g) Z .nil) Z λj=>aI (b_ (e:=lC) ([((a.1,a.2.1,a.2.2.1,a.2.2.2.1,a.2.2.2.2.1,a.2.2.2.2.2)),((b.1,b.2.1,b.2.2.1,b.2.2.2.1,b.2.2.2.2.1,b.2.2.2.2.2))]) [(0,Value.agg #[vS (a.1),vI (a.2.1),vI (a.2.2.1),vI (a.2.2.2.1),vI (a.2.2.2.2.1),vI (a.2.2.2.2.2)]),(1,Value.agg #[vS (b.1),vI (b.2.1),vI (b.2.2.1),vI (b.2.2.2.1),vI (b.2.2.2.2.1),vI (b.2.2.2.2.2)])] Z Z Z Z (aaR (vS (a.1)) (vI (a.2.1)) (vI (a.2.2.1)) (vI (a.2.2.2.1)) (vI (a.2.2.2.2.1)) (vI (a.2.2.2.2.2)) (vS (b.1)) (vI (b.2.1)) (vI (b.2.2.1)) (vI (b.2.2.2.1)) (vI (b.2.2.2.2.1)) (vI (b.2.2.2.2.2))) Z Z Z) Z λd=>Q5 Z<|aT ?_;cases h;exact fD (d) Z Z (RV.tmp Z) (aX.refl _) aF.nil
def kQ (U:Nat) (a:An) (d:Int):V1 vW:=
 Option.bind (oF U ((a.1,a.2.1,a.2.2.1,a.2.2.2.1,a.2.2.2.2.1,a.2.2.2.2.2)) d) λb=>(Option.bind (oH U ((a.1,a.2.1,a.2.2.1,a.2.2.2.1,a.2.2.2.2.1,a.2.2.2.2.2)) ((b.1,b.2))) λc=>(some ((c.1,c.2))))
theorem ajh:aU prog 5:=call5
theorem D_ (U:Nat) {a:An} {o:Int} (d e f:V0) (r:Dh) (h:kQ U a o=some r):
  a_ prog 5 #[Value.agg #[vI (a.1),d,e,f,vB (a.2.2.2.2.1),vB (a.2.2.2.2.2)],vI (o)] [Sl aL d a.2.1,Sl aL e a.2.2.1,Sl aL f a.2.2.2.1] (λx:V0×V0×V6 V0=>Value.agg #[x.1,x.2.1]) (λx l=>Ar dW x.1 r.1::Ar bI.raw x.2.1 x.2.2::fE bO x.2.2 r.2::l) (λ_ l=>l):=by
 refine a_.of func5 Z ntmps5 Z λc=>aP<|aI (aN.box (cs:=[vI (a.1),d,e,f,vB (a.2.2.2.2.1),vB (a.2.2.2.2.2)]) Z Z) Z λp=>aI (aN.alloc (cs:=[eV,eV]) Z Z) Z λq=>aM<|aK<|yP [0,0,0,6,15,31] 4 mixedOrders<|nP 1 Z<|nP 1 Z<|bD Z<|fP h λn t h=>zBl Z Z Z (zBk aaf (Cz U d e f n t) Z (jS [0,1,2] Z)) Z (λb=>(pB [([4],[])] Z)) λb=>bU 4 Z Z<|fP h λs u h=>aI (Eg (Min:=[Ar dW b.1 n.1,Ar bI.raw b.2.1 b.2.2,fE bO b.2.2 n.2]) (Mr:=[bH q [eV,eV] 28,bH p [vI (a.1),d,e,f,vB (a.2.2.2.2.1),vB (a.2.2.2.2.2)] 24]) ahf (HM U d e f b.1 b.2.1 b.2.2 s u) Z (aX.refl _) (jS [0,1,2] Z) (λ_ _=>rfl)) Z λk=>bG (Know.one ((bP (aG.res 0 Z) fG))) λm=>bG (AA (cC (i:=1) (j:=2) Z Z bX)) λg=>bQ 3 (vs:=[k.1,k.2.1]) Z Z (eJ m (eJ g Z)) Z Z Z<|aM<|aT ?_;cases h;exact fD (k.1,k.2.1,k.2.2) Z Z (RV.cell 3 Z Z Z Z) (aX.ix [0,1,2] Z Z) aF.nil
def sT (a:bE):V1 bE:=
 some (a)
def xX (a:bE×Int) (c:(bE×Int)->V1 bE) (b:aW):V1 bE:=
 ck ((a.1.length:Int)+(List.length ([b]):Int)<=1099511627) (c ((a.1++[b]),(wI .i64 (a.2+(1:Int)))))
def lJ (U:Nat) (g:IX) (h:aW) (e:bE×Int) (a:aW×Int) (c:(aW×Int)->V1 bE) (b:gO):V1 bE:=
 Option.bind (uK U h (wI .i64 ((wI .i64 (e.2*(g.length:Int)))+a.2))) λf=>(Option.bind (gM U f (wI .i64 ((wI .i64 (b.2 - b.1))+(1:Int)))) λd=>(ck ((a.1.length:Int)+(List.length ([(wI .i64 (b.1+d))]):Int)<=1099511627) (c ((a.1++([(wI .i64 (b.1+d))])),(wI .i64 (a.2+(1:Int)))))))
def kE (U:Nat) (f:dM) (c:IX) (g:aW) (h:Int) (b:bE×Int) (e:(bE×Int)->V1 bE) (a:aW×Int) (d:(aW×Int)->V1 bE):V1 bE:=
 if a.2<(c.length:Int)then(ck (0<=a.2/\a.2<(c.length:Int)) (ck (0<=a.2/\a.2<(c.length:Int)) (ck (0<=a.2/\a.2<(c.length:Int)) (ck (0<=a.2/\a.2<(c.length:Int)) (ck (0<=a.2/\a.2<(c.length:Int)) (if((at' c a.2).2.1)=(2:Int)then(lJ U c g b a d ((0:Int),(1:Int)))else(if((at' c a.2).2.1)=(3:Int)then(ck (0<=b.2/\b.2<(f.2.length:Int)) (lJ U c g b a d ((-1:Int),(wI .i64 (((at' f.2 b.2).length:Int) - (1:Int))))))else(lJ U c g b a d (((at' c a.2).2.2.1),(wI .i64 ((wI .i64 (((at' c a.2).2.2.2.1)+(wI .i64 (((at' c a.2).2.2.2.2.1)*(f.2.length:Int)))))+(wI .i64 (((at' c a.2).2.2.2.2.2)*h)))))))))))))else(xX b e (a.1))
def hZ (U:Nat) (c:dM) (e:IX) (f:aW) (d:Int) (a:bE×Int) (b:(bE×Int)->V1 bE):V1 bE:=
 if a.2<(c.2.length:Int)then(bN (kE U c e f d a b) U (([]:aW),(0:Int)))else(sT (a.1))
def nC (U:Nat) (b:dM) (c:IX) (d:aW) (a:Int):V1 bE:=
 bN (hZ U b c d a) U (([]:bE),(0:Int))
def pK (U:Nat) (c:dM) (d:IX) (e:aW) (a:gO) (b:jF->V1 bE):V1 bE:=
 if a.2<(c.2.length:Int)then(ck (0<=a.2/\a.2<(c.1.length:Int)) (b ((max a.1 (at' c.1 a.2)),(wI .i64 (a.2+(1:Int))))))else(nC U c d e (a.1))
def fC (U:Nat) (a:dM) (b:IX) (c:aW):V1 bE:=
 bN (pK U a b c) U ((0:Int),(0:Int))
theorem agd:aU prog 8:=call8
theorem FY (U:Nat) {p:dM} {s:IX} {u:aW} (W X:V0) (z2:mS) (F y:V0) (r:bE) (h:fC U p s u=some r):
  a_ prog 8 #[Value.agg #[W,X],F,y] [Sl aL W p.1,S2 aY X z2 p.2,Sl aH F s,Sl aL y u] (λx:Hp=>x.1) (λx l=>Ar bI.raw x.1 x.2::fE dW x.2 r::l) (λ_ l=>l):=by
 let k:=(p.2.length:Int)
 refine a_.of func8 Z ntmps8 Z λc=>?_;unfold fC at h;refine aP<|aI (aN.box (cs:=[W,X]) Z Z) Z λG=>let o:=bH G [W,X] 28;aC Z<|aM<|aP<|bT Z<|dO 0 Z<|aB (fN Z (yQ Z) Z) Z<|aC Z<|aC Z<|aM<|aK<|iA (λm=>nC U p s u m=some r) (λm b4=>[(1,F),(2,y),(3,vP G),(7,vI k),(8,vI (m))]) (λm b4=>[o]) ?_ ?_
 .refine aP<|aC Z<|aM<|aS<|gC (pK U p s u) (λf M=>[(1,F),(2,y),(3,vP G),(7,vI k),(8,vI (f.1)),(9,vI (f.2))]) (λf M=>[o]) ((0:Int),(0:Int)) () h SF (aX.refl _) ?_;intro ah f M h;refine aK<|aP<|aA Z<|aA Z<|dD Z<|aM ?_;refine eI h Z (λh=>?_) λh=>?_
  .refine cQ<|aK<|aS<|aR<|aA Z<|bT Z<|dO 0 Z<|aA Z<|dV h λT h=>aB (bR Z Z (dH Z) Z Z T) Z<|aB (cK Z (dH Z) Z Z Z gF T) Z<|aB (LU Z Z) Z<|aC Z<|eW<|m_<|aR<|aA Z<|cU Z<|aC Z<|aM ?_;exact BD ((max f.1 (at' p.1 f.2)),(wI .i64 (f.2+(1:Int)))) () h SF Z
  refine fO ?_;exact j_ (f.1) () h SF Z
 intro m b4 h;unfold nC at h;refine aP<|aC Z<|aM<|aK<|Ez (B:=Hp) (λK=>sT K=some r) (λK A=>[(10,A.1)]) (λK A=>[Ar bI.raw A.1 A.2,fE dW A.2 K]) ?_ ?_
 .refine aP<|aC Z<|aM<|aS<|cF (fK bI.raw) (cF (kL dW) ?_);refine gC (B:=Hp) (hZ U p s u m) (λa b=>[(1,F),(2,y),(3,vP G),(7,vI k),(8,vI (m)),(10,b.1),(11,vI (a.2))]) (λa b=>[o,Ar bI.raw b.1 b.2,fE dW b.2 a.1]) (([]:bE),(0:Int)) ((eV),([]:e_)) h SF (aX.ix [2,1,0] Z Z) ?_;intro aa a b h;let J:=fE dW b.2 a.1;let I:=Ar bI.raw b.1 b.2;let H:=(bN (hZ U p s u m) aa)
  refine aK<|aP<|aA Z<|aA Z<|dD Z<|aM ?_;refine eI h Z (λh=>?_) λh=>?_
  .refine cQ<|aK<|aS<|aP<|aC Z<|aM<|aK<|Ez (B:=V0) (λn=>xX a H n=some r) (λn g=>[(1,F),(2,y),(3,vP G),(7,vI k),(8,vI (m)),(10,b.1),(11,vI (a.2)),(12,g)]) (λn g=>[o,I,J,Ar dW g n]) ?_ ?_
   .refine aP<|aC Z<|aM<|aS<|cF (fK dW)<|gC (B:=V0) (kE U p s u m a H) (λd j=>[(1,F),(2,y),(3,vP G),(7,vI k),(8,vI (m)),(10,b.1),(11,vI (a.2)),(12,j),(13,vI (d.2))]) (λd j=>[o,I,J,Ar dW j d.1]) (([]:aW),(0:Int)) (eV) h SF (aX.ix [1,2,3,0] Z Z) ?_;intro ab d j h;let w:=(at' s d.2)
    refine aK<|aP<|aA Z<|aA Z<|kG (DU Z) Z<|dD Z<|aM ?_;refine eI h Z (λh=>?_) λh=>?_
    .refine cQ<|aK<|aS<|aK ?_;refine yP [0,0,3,7,15,0,0,96,224,480,0,0,3072,7168,15360,0,64512,131040,0,0,786432,1835008,3932160,0,16515072,33554400,31,134217727] 27 mixedOrders ?_;refine bD Z<|bD Z<|dV h λO h=>bK Z .nil (nD 2 Z) (bR Z Z (dH Z) Z Z O) aO.z<|jL Z (nT Z Z Z Z Z)<|bK Z .nil (nD 2 Z) (qI Z (dH Z) Z Z Z EY O) aO.z<|bD Z<|bD Z<|dV h λP h=>bK Z .nil (nD 2 Z) (bR Z Z (dH Z) Z Z P) aO.z<|jL Z (nT Z Z Z Z Z)<|bK Z .nil (nD 2 Z) (qI Z (dH Z) Z Z Z EZ P) aO.z<|bD Z<|bD Z<|dV h λQ h=>bK Z .nil (nD 2 Z) (bR Z Z (dH Z) Z Z Q) aO.z<|jL Z (nT Z Z Z Z Z)<|bK Z .nil (nD 2 Z) (qI Z (dH Z) Z Z Z E_ Q) aO.z<|bD Z<|jL Z (En Z Z)<|jL Z (Br Z Z)<|bD Z<|bD Z<|dV h λR h=>bK Z .nil (nD 2 Z) (bR Z Z (dH Z) Z Z R) aO.z<|jL Z (nT Z Z Z Z Z)<|bK Z .nil (nD 2 Z) (qI Z (dH Z) Z Z Z Fa R) aO.z<|bD Z<|jL Z (En Z Z)<|jL Z (Br Z Z)<|jL Z (Cg Z)<|bU 27 Z Z<|aC Z<|aM<|aK<|iA (λi=>lJ U s u a d (bN (kE U p s u m a H) ab) i=some r) (λi L=>[(1,F),(2,y),(3,vP G),(7,vI k),(8,vI (m)),(10,b.1),(11,vI (a.2)),(12,j),(13,vI (d.2)),(14,vI (i.1)),(15,vI (i.2))]) (λi L=>[o,I,J,Ar dW j d.1]) ?_ ?_
     .refine aP<|aA Z<|aA Z<|dV h λS h=>aB (bR Z Z (DU Z) Z Z S) Z<|aB (nT Z Z Z Z Z) Z<|aB (qI Z (DU Z) Z Z Z Al S) Z<|aM<|aS<|aP<|bZ Z<|aC Z<|aM ?_;refine eI h Z (λh=>?_) λh=>?_
      .refine aR<|aC Z<|aC Z<|eW<|m_ ?_;exact j_ ((0:Int),(1:Int)) () h SF Z
      refine aP<|bZ Z<|aC Z<|aM ?_;refine eI h Z (λh=>?_) λh=>?_
      .refine yP [0,1,0,7,15,31,63,0,255] 8 mixedOrders ?_;refine cN Z<|gW 0 Z<|bD Z<|dV h λt h=>bK Z .nil (nD 1 Z) (cA Z Z (dH Z) Z Z t) aO.z<|bK Z .nil (nD 1 Z) (cW Z (dH Z) Z Z t) aO.z<|bK Z .nil (nD 1 Z) (iN Z (zBm (dH Z) t.1 t.2) Z) aO.z<|jL Z (vZ Z Z)<|jL Z (Cg Z)<|bU 8 Z Z<|aC Z<|eW<|m_ ?_;exact j_ ((-1:Int),(wI .i64 (((at' p.2 a.2).length:Int) - (1:Int)))) () h SF Z
      refine eP<|m_ ?_;exact j_ ((w.2.2.1),(wI .i64 ((wI .i64 ((w.2.2.2.1)+(wI .i64 ((w.2.2.2.2.1)*k))))+(wI .i64 ((w.2.2.2.2.2)*m))))) () h SF Z
     intro i L h;refine aR<|aA Z<|aA Z<|aA Z<|aA Z<|aA Z<|kG (DU Z) Z<|aB (En Z Z) Z<|aA Z<|cU Z<|fP h λac af h=>aI (zBk Mc (CI U y ac af) Z (jS [3] Z)) Z λak=>aA Z<|aA Z<|aB (vZ Z Z) Z<|cU Z<|fP h λV ag h=>let v:=(wI .i64 (i.1+V));aI (zBk Hc (jZ U V ag) Z .nil) Z λal=>cU Z<|aI (b_ (e:=dW) ([v]) [(0,vI v)] Z Z Z Z (gY (vI v) Z) Z Z Z) Z λaj=>dV h λY h=>aI (fU 4 fG Z Z Z (bP (aG.res 0 Z) fG) Z Z Z Z Y Z) Z λae=>aC Z<|eW<|m_<|aR<|aA Z<|cU Z<|aC Z<|aM ?_
     exact iH ((d.1++([v])),(wI .i64 (d.2+(1:Int)))) (ae) h SF (aX.ix [1,2,3,4] Z Z) (aF.refl _ _)
    refine fO ?_;exact j_ (d.1) (j) h SF Z
   intro n g h;refine aR<|aA Z<|aA Z<|cF (kL dW)<|bG (Know.one ((bP (aG.res 4 Z) fG))) λE=>cF (Au 0 4 Z Z Z) ?_;refine aI (b_ (e:=bI.raw) [g] [(0,g)] Z Z Z Z (gY (g) E) Z Z (by simp[cellsOf,bI.raw,E])) Z λai=>?_;refine bG (dQ 4 Z) λC=>bG (dQ 1 Z) λD=>dV h λN h=>cF (t_ 4 1 Z Z Z) ?_;refine aI (aN.append 2 0 Z Z Z Z Z Z Z (by have q:=N;have q1:=C;have q2:=D;(try simp only[zA9,zAm]at q q1 q2 ⊢);omega) (by have q:=N;have q1:=C;have q2:=D;(try simp only[zA9,zAm]at q q1 q2 ⊢);omega) Z) Z λad=>?_;refine aC Z<|eW<|m_<|aR<|aA Z<|cU Z<|aC Z<|aM ?_;exact iH ((a.1++[n]),(wI .i64 (a.2+(1:Int)))) (ad,(b.2++[g])) h SF (aX.ix [1,2,3] Z Z) (aF.refl _ _)
  refine fO ?_;exact cT (a.1) (b.1,b.2) h SF (aX.ix [1,2] Z Z) (aF.refl _ _)
 intro K A h;unfold sT at h;refine aP<|aA Z<|aC Z<|aM<|aT ?_;cases h;exact fD (A.1,A.2) Z Z (RV.tmp Z) (aX.refl _) aF.nil
def tJ (a:Unit):V1 V4:=
 some (true)
def zN (c d:aW) (a:Int) (b:(Int)->V1 V4):V1 V4:=
 if a<(c.length:Int)then(ck (0<=a/\a<(c.length:Int)) (ck (0<=a/\a<(d.length:Int)) (if(at' c a)≠(at' d a)then(some (false))else(b (wI .i64 (a+(1:Int)))))))else(tJ (()))
def vC (U:Nat) (a b:aW):V1 V4:=
 if(a.length:Int)≠(b.length:Int)then(some (false))else(bN (zN a b) U (0:Int))
theorem ahp:aU prog 82:=call82
theorem JZ (U:Nat) {f g:aW} (i j:V0) (r:Bool) (h:vC U f g=some r):
  a_ prog 82 #[i,j] [Sl aL i f,Sl aL j g] (λx:Unit=>vB (r)) (λx l=>l) (λ_ l=>l):=by
 refine a_.of func82 Z ntmps82 Z λc=>?_;refine aP<|aC Z<|aM<|aK<|aP<|aA Z<|kG (dH Z) Z<|aA Z<|kG (yQ Z) Z<|oZ Z<|aM ?_;refine eI h Z (λh=>?_) λh=>?_
 .refine aP<|aC Z<|aM<|aT<|aJ ?_;cases h;exact mA Z
 refine cQ<|aK<|iA (λd=>tJ d=some r) (λd k=>[]) (λd k=>[]) ?_ ?_
 .refine aP<|aC Z<|aM<|aS<|gC (zN f g) (λe m=>[(0,i),(1,j),(5,vI (e))]) (λe m=>[]) (0:Int) () h SF (aX.refl _) ?_;intro n e m h;refine aK<|aP<|aA Z<|aA Z<|kG (dH Z) Z<|dD Z<|aM ?_;refine eI h Z (λh=>?_) λh=>?_
  .refine cQ<|aK<|aS<|aK ?_;refine yP [0,0,3,7,0,0,48,112,255] 8 mixedOrders ?_;refine bD Z<|bD Z<|dV h λa h=>bK Z .nil (nD 0 Z) (bR Z Z (dH Z) Z Z a) aO.z<|bK Z .nil (nD 0 Z) (cK Z (dH Z) Z Z Z gF a) aO.z<|bD Z<|bD Z<|dV h λb h=>bK Z .nil (nD 1 Z) (bR Z Z (dH Z) Z Z b) aO.z<|bK Z .nil (nD 1 Z) (cK Z (dH Z) Z Z Z gF b) aO.z<|bU 8 Z Z<|oZ Z<|aM ?_;refine eI h Z (λh=>?_) λh=>?_
   .refine aP<|aC Z<|aM<|aT<|bW<|aJ<|aJ<|bW<|aJ ?_;cases h;exact mA Z
   refine eP<|m_<|aR<|aA Z<|cU Z<|aC Z<|aM ?_;exact BD (wI .i64 (e+(1:Int))) () h SF Z
  refine fO ?_;exact j_ () (()) h SF Z
 intro d k h;unfold tJ at h;refine aP<|aC Z<|aM<|aT ?_;cases h;exact mA Z
def JF (U:Nat) (a:dM):V1 V4:=
 Option.bind (gR U ((a.1,a.2))) λb=>(some (b))
theorem ahr:aU prog 92:=call92
theorem YT (U:Nat) {d:dM} (a b:V0) (e:mS) (r:V4) (h:JF U d=some r):
  a_ prog 92 #[Value.agg #[a,b]] [Sl aL a d.1,S2 aY b e d.2] (λx:Unit=>vB (r)) (λx l=>l) (λ_ l=>l):=by
 refine a_.of func92 Z ntmps92 Z λc=>aP<|aI (aN.box (cs:=[a,b]) Z Z) Z λi=>Q5 Z<|aP<|dL 0 Z<|fP h λf g h=>aI (zBk PH (Ae U a b e f g) Z (jS [0,1] Z)) Z λj=>Q5 Z<|aT ?_;cases h;exact xT Z
def lR (U:Nat) (a:dM) (c:Int) (b:V4):V1 (Int):=
 if b=true then(some (-1:Int))else(Option.bind (mO U ((a.1,a.2)) c) λd=>(Option.bind (nV U d) λe=>(some (e))))
def jC (U:Nat) (a:dM) (b:Int):V1 (Int):=
 Option.bind (gR U ((a.1,a.2))) λc=>(if(!c)=true then(lR U a b (true))else(if b<(0:Int)then(lR U a b (true))else(lR U a b (decide ((a.2.length:Int)<=b)))))
theorem aan:aU prog 93:=call93
theorem Bl (U:Nat) {f:dM} {g:Int} (b d:V0) (m:mS) (r:Int) (h:jC U f g=some r):
  a_ prog 93 #[Value.agg #[b,d],vI (g)] [Sl aL b f.1,S2 aY d m f.2] (λx:Unit=>vI (r)) (λx l=>l) (λ_ l=>l):=by
 refine a_.of func93 Z ntmps93 Z λc=>aP<|aI (aN.box (cs:=[b,d]) Z Z) Z λn=>Q5 Z<|aK<|aK<|iA (λe=>lR U f g e=some r) (λe o=>[(1,vI (g)),(2,vP n),(18,vB (e))]) (λe o=>[bH n [b,d] 28]) ?_ ?_
 .refine aR<|dL 0 Z<|fP h λi k h=>aI (zBk PH (Ae U b d m i k) Z (jS [0,1] Z)) Z λu=>aB (sI Z) Z<|aA Z<|Ef (by exact rfl) (by exact rfl) (λa=>?_) (λa=>?_)
  .have h:=SE a h;exact aQ Z<|aQ Z<|gE Z<|aA Z<|aQ Z<|aQ Z<|aQ Z<|aQ Z<|aQ Z<|gE Z<|aM<|j_ (true) () h SF Z
  have h:=Qh a h;refine iP Z<|bA Z (Ft Z Z) Z<|jD Z<|aA Z<|GN h Z (λ_ h=>?_) λ_ h=>?_
  .exact aQ Z<|aQ Z<|aQ Z<|aQ Z<|aQ Z<|gE Z<|aM<|j_ (true) () h SF Z
  exact iP Z<|bA Z (cV Z Z Z Z Z) Z<|bA Z (eB 0 Z Z Z Z Z) Z<|bA Z (fN Z (yQ Z) Z) Z<|bA Z (CV Z Z) Z<|jD Z<|aM<|j_ (decide ((f.2.length:Int)<=g)) () h SF Z
 intro e o h;refine Ca h Z (λ_ h=>?_) λ_ h=>?_
 .refine Q4 Z<|aT<|aJ ?_;cases h;exact xT Z
 refine cQ<|aP<|dL 0 Z<|aA Z<|fP h λp s h=>aI (zBk Wn (FS U b d m p s) Z (jS [0,1] Z)) Z λv=>fP h λq j h=>aI (zBk adY (JY U v q j) Z (aF.cons (bP (aG.res 0 Z) fG) .nil)) Z λt=>Q5 Z<|aT ?_;cases h;exact xT Z
end Go.Proofs.YtgciopekomcbfaaGreatDoor
namespace Go.Proofs.YtgciopekomcbfaaGreatDoor
open Go.Sx
theorem aeY {R:Type} {step:Int->(Int->V1 R)->V1 R} {K:V1 R} {bad:R} (N:Nat) (p:Nat->Prop)
  (r:∀(k:Nat) c,k<N->p k->step k c=c ((k:Int)+1)) (i:∀(k:Nat) c,k<N->¬p k->step k c=some bad) (j:∀c,step N c=K):
  ∀(b:Nat),N<b->((∀k,k<N->p k)->bN step b 0=K)/\(¬(∀k,k<N->p k)->bN step b 0=some bad):=by
 intro b q;have s:∀(d a b:Nat),a+d=N->d<b->((∀k,a<=k->k<N->p k)->bN step b (a:Int)=K)/\(¬(∀k,a<=k->k<N->p k)->bN step b (a:Int)=some bad):=by
  intro d
  induction d with
  |zero=>
   intro a b v q;obtain rfl:a=N:=V7
   cases b with
   |zero=>omega
   |succ f=>exact⟨λ_=>j _,λh=>absurd (λk m g=>V7) h⟩
  | succ d ih =>
   intro a b v q;cases b with
   |zero=>omega
   | succ f =>
    obtain⟨t,u⟩:=ih (a+1) f V7 V7;have e:((a+1:Nat):Int)=(a:Int)+1:=V7
    rw[e]at t u;by_cases n:p a
    .have w:bN step (f+1) (a:Int)=bN step f ((a:Int)+1):=r a _ V7 n;rw[w];refine⟨λh=>t λk m g=>h k V7 g,λh=>u λo=>h λk m g=> ?_⟩
     by_cases l:k=a
     .subst l;exact n
     .exact o k V7 g
    .exact⟨λh=>absurd (h a (zAg _) V7) n,λ_=>i a _ V7 n⟩
 obtain⟨m,g⟩:=s N 0 b V7 q;exact⟨λh=>m λk _ l=>h k l,λh=>g λo=>h λk l=>o k V7 l⟩
abbrev GR:=V6 Int×fY
abbrev row (g:GR) (v:Nat):gV:=at' g.2 (v:Int)
abbrev abh (g:GR) (v:Nat):Int:=at' g.1 (v:Int)
abbrev iU (l:gV) (i:Nat):gO:=at' l (i:Int)
def light (g:GR):Prop:=g.1.length<=30/\g.2.length<=30/\∀v,v<g.2.length->(row g v).length<=30
def LG (l:gV) (v n i:Nat):Prop:=(0<=(iU l i).1/\(iU l i).1<=(n:Int) - 1)/\(iU l i).1≠v/\(1<=(iU l i).2/\(iU l i).2<=15)/\∀k,k<i->(iU l k).1≠(iU l i).1
def xE (l:gV) (v n:Nat):Prop:=∀i,i<l.length->LG l v n i
def AC (l:gV) (u:Int):Int:=match l.findIdx? (λx=>decide (x.1=u))with
 |some i=>i
 |none=> -1
theorem Ky {l:gV} {u:Int} (i:Nat) (b:i<l.length) (d:(iU l i).1=u) (c:∀k,k<i->(iU l k).1≠u):AC l u=i:=by
 have:l.findIdx? (λx=>decide (x.1=u))=some i:=by
  rw[List.findIdx?_eq_some_iff_getElem];have e:∀k (a:k<l.length),iU l k=l[k]:=λk a=>by rw[iU,mE,zAa,zA0 a];rfl
  refine⟨b,by rw[<-e i b];simpa using d,λk a=> ?_⟩
  have:=c k a;rw[e k V7]at this;simpa using this
 rw[AC,this]
theorem Te {l:gV} {u:Int} (b:∀k,k<l.length->(iU l k).1≠u):AC l u = -1:=by
 have:l.findIdx? (λx=>decide (x.1=u))=none:=by
  rw[List.findIdx?_eq_none_iff];intro x c;obtain⟨k,a,rfl⟩:=List.getElem_of_mem c;have:=b k a;rw[iU,mE,zAa,zA0 a]at this;simpa using this
 rw[AC,this]
theorem EB (l:gV) (u:Int):(∃i,i<l.length/\(iU l i).1=u/\(∀k,k<i->(iU l k).1≠u)/\AC l u=i)\/((∀k,k<l.length->(iU l k).1≠u)/\AC l u = -1):=by
 by_cases h:∀k,k<l.length->(iU l k).1≠u
 .exact .inr ⟨h,Te h⟩
 .left;have f:∃k,k<l.length/\(iU l k).1=u:=by
   apply Classical.byContradiction;intro o;exact h λk g e=>o ⟨k,g,e⟩
  obtain⟨k,g,n⟩:=f;have:∀m,(∃k,k<=m/\k<l.length/\(iU l k).1=u)->∃i,i<l.length/\(iU l i).1=u/\∀k,k<i->(iU l k).1≠u:=by
   intro m
   induction m with
   |zero=>rintro⟨k,d,a,b⟩;exact⟨k,a,b,λj p=>V7⟩
   |succ m q=>
    rintro⟨k,d,a,b⟩;by_cases c:∃j,j<=m/\j<l.length/\(iU l j).1=u
    .exact q c
    .exact⟨k,a,b,λj p e=>c ⟨j,V7,V7,e⟩⟩
  obtain⟨i,d,a,b⟩:=this k ⟨k,zAg _,g,n⟩;exact⟨i,d,a,b,Ky i d a b⟩
theorem Iw {X R:Type} {step:X->(X->V1 R)->V1 R} {K:X->V1 R} {bad:R} (N:Nat) (p:Nat->Prop) (I:Nat->X->Prop)
  (t:∀(k:Nat) x g,k<N->I k x->p k->∃c,I (k+1) c/\step x g=g c) (j:∀(k:Nat) x g,k<N->I k x->¬p k->step x g=some bad) (l:∀x g,I N x->step x g=K x):
  ∀(b:Nat) (x:X),I 0 x->N<b->((∀k,k<N->p k)->∃c,I N c/\bN step b x=K c)/\(¬(∀k,k<N->p k)->bN step b x=some bad):=by
 intro b x e s;have v:∀(d a b:Nat) (x:X),a+d=N->d<b->I a x->((∀k,a<=k->k<N->p k)->∃c,I N c/\bN step b x=K c)/\(¬(∀k,a<=k->k<N->p k)->bN step b x=some bad):=by
  intro d
  induction d with
  |zero=>
   intro a b x w s e;obtain rfl:a=N:=V7
   cases b with
   |zero=>omega
   |succ f=>exact⟨λ_=>⟨x,e,l _ _ e⟩,λh=>absurd (λk n i=>V7) h⟩
  | succ d ih =>
   intro a b x w s e;cases b with
   |zero=>omega
   | succ f =>
    by_cases o:p a
    .obtain⟨c,r,u⟩:=t a x (bN step f) V7 e o;have u:bN step (f+1) x=bN step f c:=u;obtain⟨y,z⟩:=ih (a+1) f c V7 V7 r;rw[u];refine⟨λh=>y λk n i=>h k V7 i,λh=>z λq=>h λk n i=> ?_⟩
     by_cases m:k=a
     .subst m;exact o
     .exact q k V7 i
    .exact⟨λh=>absurd (h a (zAg _) V7) o,λ_=>j a x _ V7 e o⟩
 obtain⟨n,i⟩:=v N 0 b x V7 s e;exact⟨λh=>n λk _ m=>h k m,λh=>i λq=>h λk m=>q k V7 m⟩
def NX (g:GR) (v i:Nat):Prop:=∃j,j<(at' g.2 (iU (row g v) i).1).length/\(iU (at' g.2 (iU (row g v) i).1) j).1=v/\(iU (at' g.2 (iU (row g v) i).1) j).2=(iU (row g v) i).2
structure agJ (g:GR) (v:Nat):Prop where
 id:0<=abh g v/\abh g v<=255
 deg:(row g v).length<g.2.length
 links:xE (row g v) v g.2.length
 ids:∀k,k<v->abh g k≠abh g v
structure VG (g:GR):Prop where
 n1:1<=g.2.length
 n24:g.2.length<=24
 len:g.1.length=g.2.length
 node:∀v,v<g.2.length->agJ g v
 sym:∀v,v<g.2.length->∀i,i<(row g v).length->NX g v i
theorem tE {a:Type} [Inhabited a] (l:V6 a) (i k:Nat) (y:a) (b:i<l.length):at' (l.set i y) (k:Int)=if k=i then y else at' l (k:Int):=by
 rw[mE,mE,zAa,zAa,List.getElem?_set];by_cases h:i=k
 .rw[if_pos h,if_pos h.symm,Q3];rfl
 .rw[if_neg h,if_neg (Ne.symm h)]
def Zo (l:aW) (k:Nat):Prop:=(0<=at' l (k:Int)/\at' l (k:Int)<=255)/\∀j,j<k->at' l (j:Int)≠at' l (k:Int)
theorem xI (l:aW) (C:l.length<=30):((∀k,k<l.length->Zo l k)->kS 1000 l=some true)/\(¬(∀k,k<l.length->Zo l k)->kS 1000 l=some false):=by
 unfold kS;have i:=Iw (step:=iD l) (K:=λ_=>some true) (bad:=false) l.length (Zo l) (λk x=>x.1=(k:Int)/\x.2.length=256/\∀z:Nat,z<256->(at' x.2 (z:Int)=true↔∃j,j<k/\at' l (j:Int)=(z:Int))) ?_ ?_ ?_ 1000 ((0:Int),(List.replicate 256 false)) ⟨rfl,List.length_replicate ..,λz c=> ?_⟩ V7
 .exact⟨λh=>by obtain⟨x,_,b⟩:=i.1 h;exact b,i.2⟩
 .rintro k ⟨t,m⟩ q w ⟨b,a,f⟩ ⟨D,v⟩;dsimp only at b a f;subst b;obtain⟨z,c⟩:∃z:Nat,at' l (k:Int)=z:=⟨(at' l (k:Int)).toNat,V7⟩
  have p:z<256:=V7
  have o:¬at' m (z:Int)=true:=by
   rw[f z p];rintro⟨j,e,d⟩;exact v j e (d.trans c.symm)
  refine⟨((k:Int)+1,m.set z true),⟨V8,by simp[a],λy B=> ?_⟩,?_⟩
  .dsimp only;rw[tE _ _ _ _ V7];by_cases g:y=z
   .subst g;rw[if_pos Z];exact⟨λ_=>⟨k,V7,c⟩,λ_=>rfl⟩
   .rw[if_neg g,f y B];constructor
    .rintro⟨j,e,d⟩;exact⟨j,V7,d⟩
    .rintro⟨j,e,d⟩;by_cases n:j=k
     .subst n;rw[c]at d;omega
     .exact⟨j,V7,d⟩
  .unfold iD jV;dsimp only;rw[Q3,Q7,c,Q0,Q0,cR ⟨V7,a⟩,if_neg o,cR ⟨V7,a⟩,Q9];rfl
 .rintro k ⟨t,m⟩ q w ⟨b,a,f⟩ A;dsimp only at b a f;subst b;unfold iD jV;dsimp only;rw[Q3,Q7];by_cases r:at' l (k:Int)<0
  .rw[if_pos r,if_pos Z]
  rw[if_neg r];by_cases s:255<at' l (k:Int)
  .rw[if_pos s,if_pos Z]
  rw[if_neg s];obtain⟨z,c⟩:∃z:Nat,at' l (k:Int)=z:=⟨(at' l (k:Int)).toNat,V7⟩
  rw[c,cR ⟨V7,a⟩,if_pos];rw[f z V7];apply Classical.byContradiction;intro u;exact A ⟨V7,λj e d=>u ⟨j,e,d.trans c⟩⟩
 .rintro⟨t,m⟩ q ⟨b,_,_⟩;dsimp only at b;subst b;unfold iD oW;dsimp only;rw[Q0]
 .rw[show at' (List.replicate 256 false) (z:Int)=false by rw[mE,zAa,List.getElem?_replicate,if_pos c];rfl];exact⟨λh=>(by cases h),fun⟨j,e,_⟩=>V7⟩
theorem YC {d e:Type} [DecidableEq d] (k c:d) (v:e):∀l:V6 (d×e),nW c (EA k v l)=if c=k then some v else nW c l
 | []=>by simp only[EA,nW]
 | x :: xs => by
  simp only[EA];by_cases h:k=x.1
  .rw[if_pos h];simp only[nW];by_cases a:c=k
   .rw[if_pos a,if_pos a]
   .rw[if_neg a,if_neg a,if_neg (λb=>a (b.trans h.symm))]
  .rw[if_neg h];simp only[nW];by_cases a:c=x.1
   .rw[if_pos a,if_neg (λb=>h (b.symm.trans a)),if_pos a]
   .rw[if_neg a,YC k c v xs];by_cases b:c=k
    .rw[if_pos b,if_pos b]
    .rw[if_neg b,if_neg b,if_neg a]
theorem SO {a b:Type} [DecidableEq a] {k:a} {v:b} {z:a×b} {l:V6 (a×b)} (c:nW k l=none):z∈EA k v l↔z=(k,v)\/z∈l:=by
 rw[JH k v l c];simp[or_comm]
theorem JG {a c:Type} [DecidableEq a] {k:a}:∀{l:V6 (a×c)},(∀v,(k,v)∉l)->nW k l=none
 | [],_=>rfl
 |x::xs,h=>by
  simp only[nW];rw[if_neg (λe=>h x.2 (by rw[e];exact zAe ..))];exact JG λv b=>h v (zAk _ b)
theorem wS {b c:Type} [DecidableEq b] {k:b} {v:c}:∀{l:V6 (b×c)},nW k l=none->(k,v)∉l
 | [],_=>by simp
 | x :: xs, h => by
  simp only[nW]at h;by_cases e:k=x.1
  .rw[if_pos e]at h;cases h
  .rw[if_neg e]at h;intro d;rcases zAo.1 d with a|a
   .exact e (by rw[<-a])
   .exact wS h a
theorem DX {a b:Type} [DecidableEq a] {k:a} {v:b}:∀{l:V6 (a×b)},nW k l=some v->(k,v)∈l
 |x::xs,h=>by
  simp only[nW]at h;by_cases e:k=x.1
  .rw[if_pos e]at h;cases h;rw[e];exact zAe ..
  .rw[if_neg e]at h;exact zAk _ (DX h)
theorem MN {a b:Type} (p:a×b->Prop) [DecidablePred p]:∀l:V6 (a×b),NC (λd x=>if p d then some false else x) (some true) l=some (decide (∀z∈l,¬p z))
 | []=>by simp[NC]
 |x::xs=>by
  show(if p x then some false else NC _ (some true) xs)=_;rw[MN p xs];by_cases h:p x
  .rw[if_pos h];congr 1;symm;exact zA8 λc=>c x (zAe ..) h
  .rw[if_neg h];congr 1;apply decide_eq_decide.2;simp[h]
def RH (c:fY) (v i:Nat) (z:(Int×Int)×Int):Prop:=∃a b:Nat,(a<v\/(a=v/\b<i))/\b<(at' c (a:Int)).length/\z=(((a:Int),(iU (at' c (a:Int)) b).1),(iU (at' c (a:Int)) b).2)
def NY (a:fY):Prop:=(∀v,v<a.length->xE (at' a (v:Int)) v a.length)/\∀v,v<a.length->∀i,i<(at' a (v:Int)).length->NX ([],a) v i
theorem IN (c:fY) (hn:c.length<=30) (hd:∀v,v<c.length->(at' c (v:Int)).length<=30):(NY c->iK 1000 c=some true)/\(¬NY c->iK 1000 c=some false):=by
 unfold iK;have s:∀(v:Nat) (m:V6 ((Int×Int)×Int)) p,v<c.length->(∀z,z∈m↔RH c v 0 z)->
   (xE (at' c (v:Int)) v c.length->∃X,(∀z,z∈X↔RH c (v+1) 0 z)/\bN (dG c ((v:Int),m) p) 1000 ((0:Int),m)=p ((v:Int)+1,X))/\
   (¬xE (at' c (v:Int)) v c.length->bN (dG c ((v:Int),m) p) 1000 ((0:Int),m)=some false):=by
  intro v m p F hm;have af:=hd v F;have R:=Iw (step:=dG c ((v:Int),m) p) (K:=λx=>p ((v:Int)+1,x.2)) (bad:=false) (at' c (v:Int)).length (LG (at' c (v:Int)) v c.length) (λi x=>x.1=(i:Int)/\∀z,z∈x.2↔RH c v i z) ?_ ?_ ?_ 1000 ((0:Int),m) ⟨rfl,hm⟩ V7
  .refine⟨λh=> ?_,λh=>R.2 h⟩
   obtain⟨x,⟨ah,ad⟩,f⟩:=R.1 h;refine⟨x.2,λz=>(ad z).trans ⟨?_,?_⟩,f⟩
   .rintro⟨a,b,y,e,l⟩;exact⟨a,b,V7,e,l⟩
   .rintro⟨a,b,y,e,l⟩;refine⟨a,b,?_,e,l⟩
    by_cases W:a=v
    .subst W;exact .inr ⟨rfl,e⟩
    .omega
  .rintro i ⟨H,g⟩ I M ⟨f,d⟩ ⟨p1,p2,p3,p4⟩;dsimp only at f d;subst f;have q:nW (((v:Int),(iU (at' c (v:Int)) i).1)) g=none:=by
    apply JG;intro w hw;obtain⟨a,b,y,e,l⟩:=(d _).1 hw;simp only[Prod.mk.injEq]at l;obtain⟨⟨C,A⟩,_⟩:=l;have:a=v:=V7
    subst this;have hb:b<i:=V7
    exact p4 b hb A.symm
   refine⟨((i:Int)+1,EA (((v:Int),(iU (at' c (v:Int)) i).1)) (iU (at' c (v:Int)) i).2 g),⟨V8,λz=> ?_⟩,?_⟩
   .dsimp only;rw[SO q,d];constructor
    .rintro(rfl|⟨a,b,y,e,l⟩)
     .exact⟨v,i,.inr ⟨rfl,V7⟩,M,rfl⟩
     .exact⟨a,b,V7,e,l⟩
    .rintro⟨a,b,y,e,l⟩;by_cases J:a=v/\b=i
     .left;rw[l,J.1,J.2]
     .right;exact⟨a,b,V7,e,l⟩
   .replace p1:0<=(at' (at' c (v:Int)) (i:Int)).1/\(at' (at' c (v:Int)) (i:Int)).1<=(c.length:Int) - 1:=p1;replace p3:1<=(at' (at' c (v:Int)) (i:Int)).2/\(at' (at' c (v:Int)) (i:Int)).2<=15:=p3;unfold dG iY kI;dsimp only;rw[Q3,Q7,Q0,Q0,if_neg (by rw[zA8 p2];simp),Q0,if_neg (by rw[zA8 V7];simp),q,if_neg V8,Q9]
  .rintro i ⟨H,g⟩ I M ⟨f,d⟩ P;dsimp only at f d;subst f;unfold dG iY kI;dsimp only;rw[Q3,Q7];by_cases y:(iU (at' c (v:Int)) i).1<0
   .rw[if_pos y,if_pos Z]
   rw[if_neg y];by_cases e:(c.length:Int)<=(iU (at' c (v:Int)) i).1
   .rw[if_pos e,if_pos Z]
   rw[if_neg e];by_cases l:(iU (at' c (v:Int)) i).1=v
   .rw[if_pos (zAd l)]
   rw[if_neg (by rw[zA8 l];simp)];by_cases C:(iU (at' c (v:Int)) i).2<1
   .rw[if_pos C,if_pos Z]
   rw[if_neg C];by_cases A:15<(iU (at' c (v:Int)) i).2
   .rw[if_pos (zAd A)]
   rw[if_neg (by rw[zA8 A];simp)];have:∃k,k<i/\(iU (at' c (v:Int)) k).1=(iU (at' c (v:Int)) i).1:=by
    apply Classical.byContradiction;intro hc;exact P ⟨V7,l,V7,λk N L=>hc ⟨k,N,L⟩⟩
   obtain⟨k,N,L⟩:=this;have n:=(d _).2 ⟨v,k,.inr ⟨rfl,N⟩,V7,rfl⟩;rw[if_pos];rw[<-L];cases q:nW (((v:Int),(iU (at' c (v:Int)) k).1)) g with
   |some w=>rfl
   | none => exact absurd n (by
     intro n;exact wS q n)
  .rintro⟨H,g⟩ I ⟨f,d⟩;dsimp only at f d;subst f;unfold dG oE;dsimp only;rw[Q0,Q9]
 have t:=Iw (step:=dY 1000 c) (K:=λx=>kH x.2) (bad:=false) c.length (λv=>xE (at' c (v:Int)) v c.length) (λv x=>x.1=(v:Int)/\∀z,z∈x.2↔RH c v 0 z) ?_ ?_ ?_ 1000 ((0:Int),[]) ⟨rfl,λz=>⟨λh=>(by cases h),fun⟨a,b,y,_⟩=>V7⟩⟩ V7
 rotate_left
 .rintro v ⟨H,g⟩ p F ⟨f,d⟩ P;dsimp only at f d;subst f;obtain⟨X,y,e⟩:=(s v g p F d).1 P;refine⟨((v:Int)+1,X),⟨V8,y⟩,?_⟩
  .unfold dY;dsimp only;rw[Q3,Q7];exact e
 .rintro v ⟨H,g⟩ p F ⟨f,d⟩ P;dsimp only at f d;subst f;unfold dY;dsimp only;rw[Q3,Q7];exact(s v g p F d).2 P
 .rintro⟨H,g⟩ p ⟨f,d⟩;dsimp only at f d;subst f;unfold dY;dsimp only;rw[Q0]
 by_cases D:∀v,v<c.length->xE (at' c (v:Int)) v c.length
 rotate_left
 .exact⟨λh=>absurd h.1 D,λ_=>t.2 D⟩
 obtain⟨⟨H,g⟩,⟨f,d⟩,L⟩:=t.1 D;rw[L];dsimp only at d ⊢;have N:kH g=some (decide (∀z∈g,¬(Option.getD (nW (z.1.2,z.1.1) g) (0:Int))≠z.2)):=MN (λz:(Int×Int)×Int=>(Option.getD (nW (z.1.2,z.1.1) g) (0:Int))≠z.2) g;rw[N];have E:(∀z∈g,¬(Option.getD (nW (z.1.2,z.1.1) g) (0:Int))≠z.2)↔∀v,v<c.length->∀i,i<(at' c (v:Int)).length->NX ([],c) v i:=by
  constructor
  .intro h v F i M;have hw:=(D v F i M).2.2.1;have n:=(d (((v:Int),(iU (at' c (v:Int)) i).1),(iU (at' c (v:Int)) i).2)).2 ⟨v,i,.inl F,M,rfl⟩;have e:=zAw.1 (h _ n);dsimp only at e;cases q:nW ((iU (at' c (v:Int)) i).1,(v:Int)) g with
   |none=>rw[q]at e;simp only[Option.getD]at e;omega
   | some w =>
    rw[q]at e;simp only[Option.getD]at e;obtain⟨a,b,l,C,A⟩:=(d _).1 (DX q);simp only[Prod.mk.injEq]at A;obtain⟨⟨T,U⟩,h8⟩:=A;refine⟨b,?_,?_,?_⟩
    .show b<(at' c (iU (at' c (v:Int)) i).1).length;rw[T];exact C
    .show(iU (at' c (iU (at' c (v:Int)) i).1) b).1=v;rw[T];exact U.symm
    .show(iU (at' c (iU (at' c (v:Int)) i).1) b).2=(iU (at' c (v:Int)) i).2;rw[T,<-h8];exact e
  .intro h z hz ac;obtain⟨a,b,l,C,rfl⟩:=(d z).1 hz;have W:a<c.length:=V7
   apply ac;obtain⟨j,r,o,B⟩:=h a W b C;have hu:=(D a W b C).1;obtain⟨u,Q⟩:∃u:Nat,(iU (at' c (a:Int)) b).1=u:=⟨(iU (at' c (a:Int)) b).1.toNat,V7⟩
   replace r:j<(at' c (iU (at' c (a:Int)) b).1).length:=r;replace o:(iU (at' c (iU (at' c (a:Int)) b).1) j).1=a:=o;replace B:(iU (at' c (iU (at' c (a:Int)) b).1) j).2=(iU (at' c (a:Int)) b).2:=B;rw[Q]at r o B;have G:u<c.length:=V7
   dsimp only;rw[Q,<-B];have n:=(d (((u:Int),(iU (at' c (u:Int)) j).1),(iU (at' c (u:Int)) j).2)).2 ⟨u,j,.inl G,r,rfl⟩;rw[o]at n;cases q:nW ((u:Int),(a:Int)) g with
   |none=>exact absurd n (wS q)
   | some w =>
    obtain⟨Y,S,ae,aa,A⟩:=(d _).1 (DX q);simp only[Prod.mk.injEq]at A;obtain⟨⟨T,U⟩,h8⟩:=A;have:Y=u:=V7
    subst this;have ab:S=j:=by
     rcases zB7 S j with O|O|O
     .exact absurd (U.symm.trans o.symm) ((D Y G j r).2.2.2 S O)
     .exact O
     .exact absurd (o.trans U) ((D Y G S aa).2.2.2 j O)
    subst ab;exact h8
 by_cases V:∀v,v<c.length->∀i,i<(at' c (v:Int)).length->NX ([],c) v i
 .rw[zAd (E.2 V)];exact⟨λ_=>rfl,λh=>absurd ⟨D,V⟩ h⟩
 .rw[zA8 (λh=>V (E.1 h))];exact⟨λh=>absurd h.2 V,λ_=>rfl⟩
theorem MV:∀(N:Nat) (f:Nat->Nat) (k:Nat),(∀i,i<k->f i<N)->(∀i j,i<j->j<k->f i≠f j)->k<=N
 |0,f,k,h,_=>by
  cases k with
  |zero=>omega
  |succ k=>exact absurd (h 0 V7) V7
 | N + 1, f, k, h, hd => by
  by_cases b:∃a,a<k/\f a=N
  .obtain⟨a,g,l⟩:=b;have:=MV N (λi=>if i<a then f i else f (i+1)) (k - 1) (λi c=>by
    split
    .have:=h i V7;have:=hd i a V7 g;omega
    .have:=h (i+1) V7;have:=hd a (i+1) V7 V7;omega) (λi j d m=>by
    split<;>split
    .exact hd i j d V7
    .exact hd i (j+1) V7 V7
    .omega
    .exact hd (i+1) (j+1) V7 V7)
   omega
  .have:=MV N f k (λi c=>by
    have:=h i c;have:f i≠N:=λe=>b ⟨i,c,e⟩;omega) hd
   omega
theorem UK {l:gV} {v n:Nat} (b:v<n) (h:xE l v n):l.length<n:=by
 have:=MV n (λi=>if i=l.length then v else(iU l i).1.toNat) (l.length+1) (λi e=>by
  split
  .exact b
  .have:=(h i V7).1;omega) (λi j a f=>by
  rw[Q0];have c:=(h i V7).1;split
  .have:=(h i V7).2.1;omega
  .have d:=(h j V7).1;have:=(h j V7).2.2.2 i a;omega)
 omega
theorem adc (g:GR) (j:light g):(VG g->h_ 1000 g=some true)/\(¬VG g->h_ 1000 g=some false):=by
 obtain⟨e,f,i⟩:=j;unfold h_ qX qY;by_cases l:g.1.length<1
 .rw[Q3];exact⟨λh=>by have:=h.n1;have:=h.len;omega,λ_=>rfl⟩
 rw[Q0];by_cases m:24<g.1.length
 .rw[Q3];exact⟨λh=>by have:=h.n24;have:=h.len;omega,λ_=>rfl⟩
 rw[Q0];by_cases d:g.1.length=g.2.length
 rotate_left
 .rw[zAd V7];exact⟨λh=>absurd h.len d,λ_=>rfl⟩
 rw[zA8 V7,if_neg V8];by_cases b:∀k,k<g.1.length->Zo g.1 k
 rotate_left
 .rw[(xI g.1 e).2 b,bF Z];exact⟨λh=>absurd (λk n=>⟨(h.node k V7).id,(h.node k V7).ids⟩) b,λ_=>rfl⟩
 rw[(xI g.1 e).1 b,bF Z,if_pos Z];by_cases a:NY g.2
 .rw[(IN g.2 f i).1 a];exact⟨λ_=>rfl,λh=>absurd ⟨V7,V7,d,λv c=>⟨(b v V7).1,UK c (a.1 v c),a.1 v c,(b v V7).2⟩,a.2⟩ h⟩
 .rw[(IN g.2 f i).2 a];exact⟨λh=>absurd ⟨λv c=>(h.node v c).links,h.sym⟩ a,λ_=>rfl⟩
theorem VG.light {g:GR} (h:VG g):light g:=⟨by have:=h.n24;have:=h.len;omega,by have:=h.n24;omega,λv a=>by have:=(h.node v a).deg;have:=h.n24;omega⟩
abbrev D (d:aW) (v:Nat):Int:=at' d (v:Int)
def KE (g:GR) (v u:Nat):Prop:=∃i,i<(row g v).length/\(iU (row g v) i).1=(u:Int)
theorem VG.port {g:GR} (h:VG g) {v i:Nat} (b:v<g.2.length) (a:i<(row g v).length):∃u:Nat,u<g.2.length/\(iU (row g v) i).1=(u:Int)/\KE g v u:=by
 have c:=((h.node v b).links i a).1;exact⟨(iU (row g v) i).1.toNat,V7,V7,i,a,V7⟩
theorem VG.back {g:GR} (h:VG g) {v u:Nat} (f:v<g.2.length) (c:KE g v u):KE g u v:=by
 obtain⟨i,d,e⟩:=c;obtain⟨j,b,a,_⟩:=h.sym v f i d;rw[e]at b a;exact⟨j,b,a⟩
theorem VG.adj_lt {g:GR} (h:VG g) {v u:Nat} (c:v<g.2.length) (a:KE g v u):u<g.2.length:=by
 obtain⟨i,b,d⟩:=a;have:=((h.node v c).links i b).1;omega
def Io (d:aW):Nat:=d.countP λx=>decide (x<0)
structure Zj (g:GR) (s:Nat) (d:aW):Prop where
 len:d.length=g.2.length
 lo:∀v,v<g.2.length -> -1<=D d v
 zero:∀v,v<g.2.length->(D d v=0↔v=s)
 near:∀v,v<g.2.length->0<D d v->∃u,u<g.2.length/\KE g v u/\D d u=D d v - 1
 hi:∀v,v<g.2.length->D d v+(Io d:Int)<=(g.2.length:Int)
structure Qu (g:GR) (q d:aW) (b:Int) (done:Nat->Prop):Prop where
 mem:∀y∈q,∃v,v<g.2.length/\y=((v:Nat):Int)/\0<=D d v
 top:∀v,v<g.2.length->D d v<=b
 sort:q.Pairwise λa c=>at' d a<=at' d c
 done:∀v,v<g.2.length->0<=D d v->((v:Nat):Int)∉q->done v->∀u,u<g.2.length->KE g v u->0<=D d u/\D d u<=D d v+1
theorem NO {d:aW} {v:Nat} (h:v<d.length):D d v=d[v]:=by
 rw[D,mE,zAa,zA0 h];rfl
theorem Sj {d:aW} {u:Nat} {x:Int} (a:u<d.length) (b:D d u<0) (e:0<=x):Io (d.set u x)+1=Io d:=by
 unfold Io;rw[List.countP_set a];have c:0<d.countP λx=>decide (x<0):=by
  rw[List.countP_pos_iff];exact⟨d[u],List.getElem_mem a,by rw[<-NO a];simpa using b⟩
 rw[NO a]at b;rw[if_pos (by simpa using b),if_neg Q1];omega
theorem assign {g : GR} {s : Nat} {q d : V6 Int} {b : Int} {done : Nat → Prop} (E : VG g) (l : Zj g s d) {x u : Nat} (m : Qu g q d (D d x + 1) done) (B : x < g.2.length) (K : 0 ≤ D d x) (J : u < g.2.length) (t : D d u < 0) (F : KE g x u) :
    Zj g s (d.set u (D d x + 1)) /\ Qu g (q ++ [(u : Int)]) (d.set u (D d x + 1)) (D d x + 1) done := by
  have o := l.len;have e : ∀ v, D (d.set u (D d x + 1)) v = if v = u then D d x + 1 else D d v := λv => tE _ _ _ _ V7;have G := Sj (x := D d x + 1) (by omega : u < d.length) t V7;refine ⟨⟨by simp [o], λv f => ?_, λv f => ?_, λv f => ?_, λv f => ?_⟩, ⟨λy j => ?_, λv f => ?_, ?_, λv f k n H w A i => ?_⟩⟩
  · rw [e]; split
    · omega
    · exact l.lo v f
  · rw [e]; split
    · rename_i h; subst h;have := (l.zero v f)
      constructor
      · intro; omega
      · intro h; have := this.2 h; omega
    · exact l.zero v f
  · rw [e]; split
    · rename_i h; subst h;intro _;refine ⟨x, B, E.back B F, ?_⟩
      rw [e, if_neg (by intro h; subst h; omega)]; omega
    · intro k;obtain ⟨w, A, i, I⟩ := l.near v f k;refine ⟨w, A, i, ?_⟩
      rw [e, if_neg (by intro h; subst h; omega)]; exact I
  · rw [e]; split
    · have := l.hi x B; omega
    · have := l.hi v f; omega
  · rcases zBa.1 j with j | j
    · obtain ⟨v, f, rfl, k⟩ := m.mem y j;refine ⟨v, f, rfl, ?_⟩
      rw [e]; split <;> omega
    · simp only [zBe] at j;refine ⟨u, J, j, ?_⟩
      rw [e, if_pos Z]; omega
  · rw [e]; split
    · omega
    · exact m.top v f
  · rw [List.pairwise_append];have n : ∀ y ∈ q, at' (d.set u (D d x + 1)) y = at' d y := by
      intro y j;obtain ⟨v, f, rfl, k⟩ := m.mem y j;have := e v;rw [if_neg (by intro h; subst h; omega)] at this;exact this
    refine ⟨m.sort.imp_of_mem λ{a c} h1 r h => ?_, List.pairwise_singleton .., λy j z C => ?_⟩
    · rw [n a h1, n c r]; exact h
    · simp only [zBe] at C;subst C;rw [n y j];have r := e u;rw [if_pos Z] at r;obtain ⟨v, f, rfl, k⟩ := m.mem y j;have := m.top v f;show D d v ≤ D (d.set u (D d x + 1)) u;omega
  · have p : v ≠ u := by
      rintro rfl;exact n V8
    rw [e, if_neg p] at k;rw [e v, if_neg p];have := m.done v f k (λh => n (List.mem_append_left _ h)) H w A i;rw [e w, if_neg (by rintro rfl; omega)];exact this
theorem QF {g:GR} (hV:VG g) {s x:Nat} (hx:x<g.2.length) (rest d0:aW) (ag:List Int×aW->Option aW) (r:aW->Prop)
  (hC:Zj g s d0) (hx0:0<=D d0 x) (hQ:Qu g rest d0 (D d0 x+1) (λv=>v≠x)) (hm:rest.length+Io d0<=g.2.length)
  (hag:∀q d,Zj g s d->D d x=D d0 x->Qu g q d (D d x+1) (λ_=>True)->q.length+Io d=rest.length+Io d0->(∀y∈q,D d0 x<=at' d y)->OK r (ag (q,d)))
  (hge:∀y∈rest,D d0 x<=at' d0 y):
  OK r (bN (sM g ((x:Int)::rest,d0) ag) 1000 ((0:Int),rest,d0)):=by
 have hdeg:=(hV.node x hx).deg
 have h24:=hV.n24
 refine AM (λz:Int×List Int×aW=>∃k:Nat,z.1=k/\k<=(row g x).length/\Zj g s z.2.2/\D z.2.2 x=D d0 x/\Qu g z.2.1 z.2.2 (D d0 x+1) (λv=>v≠x)/\z.2.1.length+Io z.2.2=rest.length+Io d0/\(∀i,i<k->∀u:Nat,(iU (row g x) i).1=u->0<=D z.2.2 u)/\(∀y∈z.2.1,D d0 x<=at' z.2.2 y)) (λz=>31 - z.1.toNat) ?_ 1000 _ ⟨0,rfl,by omega,hC,rfl,hQ,rfl,λi hi=>by omega,hge⟩ (by simp)
 rintro⟨z1,q,d⟩ ag2 ⟨k,hz,hk,hC,hdx,hQ,hm2,hp,hge⟩ hag2
 dsimp only at hz hC hdx hQ hm2 hp hge
 subst hz
 have hlen:=hC.len
 have e0:at' ((x:Int)::rest) 0=(x:Int):=rfl
 unfold sM sL
 dsimp only
 rw[e0]
 by_cases hlt:k<(row g x).length
 .rw[if_pos (show(k:Int)<((row g x).length:Int) by omega),cR (show 0<=(k:Int)/\(k:Int)<((row g x).length:Int) by omega)]
  obtain⟨u,hu,hue,hadj⟩:=hV.port hx hlt
  rw[show at' (at' g.2 (x:Int)) (k:Int)=iU (row g x) k from rfl,hue,cR (by omega)]
  have hhi:=hC.hi x hx
  by_cases hneg:at' d (u:Int)<0
  .have hQ':Qu g q d (D d x+1) (λv=>v≠x):=by rw[hdx];exact hQ
   obtain⟨c1,c2⟩:=assign (b:=0) hV hC hQ' hx (by omega) hu hneg hadj
   have hcn:=Sj (x:=D d x+1) (by omega:u<d.length) hneg (by omega)
   have hat:∀v,D (d.set u (D d x+1)) v=if v=u then D d x+1 else D d v:=λv=>tE _ _ _ _ (by omega)
   have hxu:x≠u:=by rintro rfl;have:D d x<0:=hneg;omega
   rw[if_pos hneg,cR (by omega),cR (by omega),cR (by simp only[List.length_singleton];omega),wr (x:=(k:Int)+1) (by omega) (by omega),wr (x:=at' d (x:Int)+1) (by show -9223372036854775808<=D d x+1;omega) (by show D d x+1<=_;omega)]
   refine hag2 _ ⟨k+1,by simp,by omega,c1,?_,?_,?_,?_,?_⟩ (by dsimp only;omega)
   .show D (d.set u (D d x+1)) x=_
    rw[hat,if_neg hxu];exact hdx
   .rw[<-hdx];exact c2
   .show(q++[(u:Int)]).length+Io (d.set u (D d x+1))=_
    simp only[zA5,List.length_singleton]
    omega
   .intro i hi w hw
    show 0<=D (d.set u (D d x+1)) w
    rw[hat]
    split
    .omega
    .by_cases hik:i=k
     .subst hik;omega
     .exact hp i (by omega) w hw
   .intro y hy
    show D d0 x<=at' (d.set u (D d x+1)) y
    rcases zBa.1 hy with hy|hy
    .have h1:=hge y hy
     obtain⟨v,hv,rfl,h0⟩:=hQ.mem y hy
     have h2:=hat v
     rw[if_neg (by intro h;subst h;have:D d v<0:=hneg;omega)]at h2
     rw[show at' (d.set u (D d x+1)) (v:Int)=D d v from h2]
     exact h1
    .simp only[zBe]at hy
     subst hy
     rw[show at' (d.set u (D d x+1)) (u:Int)=D d x+1 from(hat u).trans (if_pos rfl)]
     omega
  .rw[if_neg hneg,wr (by omega) (by omega)]
   refine hag2 _ ⟨k+1,by simp,by omega,hC,hdx,hQ,hm2,?_,hge⟩ (by dsimp only;omega)
   intro i hi w hw
   by_cases hik:i=k
   .subst hik
    have:w=u:=by omega
    subst this
    show 0<=at' d (w:Int)
    omega
   .exact hp i (by omega) w hw
 .rw[if_neg (show¬(k:Int)<((row g x).length:Int) by omega)]
  have hke:k=(row g x).length:=by omega
  refine hag q d hC hdx ⟨hQ.mem,λv hv=>by rw[hdx];exact hQ.top v hv,hQ.sort,λv hv h0 hq _ u hu hadj=> ?_⟩ hm2 hge
  by_cases hvx:v=x
  .subst hvx
   obtain⟨i,hi,hie⟩:=hadj
   exact⟨hp i (by omega) u hie,by rw[hdx];exact hQ.top u hu⟩
  .exact hQ.done v hv h0 hq hvx u hu hadj
structure BH (g:GR) (s:Nat) (d:aW):Prop where
 len:d.length=g.2.length
 lo:∀v,v<g.2.length -> -1<=D d v
 zero:∀v,v<g.2.length->(D d v=0↔v=s)
 near:∀v,v<g.2.length->0<D d v->∃u,u<g.2.length/\KE g v u/\D d u=D d v - 1
 next:∀v,v<g.2.length->0<=D d v->∀u,u<g.2.length->KE g v u->0<=D d u/\D d u<=D d v+1
 hi:∀v,v<g.2.length->D d v<=(g.2.length:Int)
theorem Tx {g:GR} (t:VG g) {s:Nat} (f k:aW) (b:Zj g s f) (c:Qu g k f (match k with|[]=>1000|y::_=>at' f y+1) (λ_=>True)) (j:k.length+Io f<=g.2.length):
  OK (BH g s) (bN (pD 1000 g) 1000 (k,f)):=by
 have G:=t.n24;refine AM (λz:V6 Int×aW=>Zj g s z.2/\Qu g z.1 z.2 (match z.1 with|[]=>1000|y::_=>at' z.2 y+1) (λ_=>True)/\z.1.length+Io z.2<=g.2.length) (λz=>z.1.length+Io z.2) ?_ 1000 _ ⟨b,c,j⟩ (by dsimp only;omega);rintro⟨q,d⟩ C ⟨b,c,j⟩ m;dsimp only at b c j;unfold pD xN;dsimp only;cases q with
 |nil=>
  rw[if_neg V8];exact⟨d,rfl,b.len,b.lo,b.zero,b.near,λv e l u n a=>c.done v e l V8 trivial u n a,λv e=>by have:=b.hi v e;omega⟩
 | cons y rest =>
  obtain⟨x,A,rfl,p⟩:=c.mem y (zAe ..);have F:at' ((x:Int)::rest) 0=(x:Int):=rfl;rw[if_pos (by simp only[zA9];omega),cR (by simp only[zA9];omega),cR (by simp only[zA9];omega),F,Q7];have w:=List.pairwise_cons.1 c.sort;simp only[zA9]at j;refine QF t A rest d C _ b p ⟨λz I=>c.mem z (zAk _ I),c.top,w.2,λv e l H o u n a=>c.done v e l (λh=> ?_) trivial u n a⟩ V7 (λB E r J i K D=> ?_) w.1
  .rcases zAo.1 h with h|h
   .exact o V7
   .exact H h
  .refine m (B,E) ⟨r,⟨i.mem,λv e=> ?_,i.sort,i.done⟩,by dsimp only;omega⟩ (by simp only[zA9];omega);dsimp only;have L:=i.top v e;cases B with
   |nil=>
    dsimp only;have:=r.hi x A;omega
   |cons z M=>
    dsimp only;have:=D z (zAe ..);omega
theorem ON {g:GR} (l:VG g) {s:Nat} (m:s<g.2.length):OK (BH g s) (mO 1000 g (s:Int)):=by
 have q:=l.n24;unfold mO;rw[Q7];refine AM (λz:Di=>∃k:Nat,z.1=k/\k<=g.2.length/\z.2.length=g.2.length/\∀v,v<k->D z.2 v = -1) (λz=>31 - z.1.toNat) ?_ 1000 _ ⟨0,rfl,V7,V8,λv c=>V7⟩ V8;rintro⟨C,d⟩ A ⟨k,o,B,e,j⟩ i;dsimp only at o e j;subst o;unfold By;simp only[List.length_replicate,zAf];by_cases u:k<g.2.length
 .rw[Q3,Q7,Q9];refine i _ ⟨k+1,V8,V7,by simp[e],λv c=> ?_⟩ (by dsimp only;omega);show at' (d.set k (-1)) (v:Int) = -1;rw[tE _ _ _ _ V7];split
  .rfl
  .exact j v V7
 .rw[Q0];unfold Bw;rw[Q7];have b:∀v,v<g.2.length->D d v = -1:=λv c=>j v V7;have a:∀v,D (d.set s 0) v=if v=s then 0 else D d v:=λv=>tE _ _ _ _ V7;have t:=Sj (x:=0) (by omega:s<d.length) (by rw[b s m];omega) V7;have r:Io d<=d.length:=List.countP_le_length ..;refine Tx l _ _ ⟨by simp[e],λv c=> ?_,λv c=> ?_,λv c=> ?_,λv c=> ?_⟩ ⟨λy n=> ?_,λv c=> ?_,List.pairwise_singleton ..,λv c p w=> ?_⟩ ?_
  .rw[zAf,a];split
   .omega
   .rw[b v c];omega
  .rw[zAf,a];split
   .rename_i h;exact⟨λ_=>h,λ_=>rfl⟩
   .rename_i h;rw[b v c];exact⟨λf=>V7,λf=>absurd f h⟩
  .rw[zAf,a];split
   .omega
   .rw[b v c];omega
  .rw[zAf,a];split
   .omega
   .rw[b v c];omega
  .simp only[zBe]at n;refine⟨s,m,n,?_⟩
   rw[zAf,a,if_pos Z];omega
  .rw[zAf];have f:at' (d.set s 0) (s:Int)=0:=(a s).trans (if_pos Z);show D (d.set s 0) v<=at' (d.set s 0) (s:Int)+1;rw[f,a];split
   .omega
   .rw[b v c];omega
  .rw[zAf,a,if_neg (by rintro rfl;exact w V8),b v c]at p;omega
  .rw[zAf];simp only[List.length_singleton];omega
def wL (g:GR) (s:Nat):Nat->Nat->Prop
 |0,v=>v=s/\s<g.2.length
 |k+1,v=>∃u,wL g s k u/\KE g u v
theorem wL.lt {g:GR} (a:VG g) {s:Nat}:∀{k v:Nat},wL g s k v->v<g.2.length
 |0,_,h=>by obtain⟨rfl,h⟩:=h;exact h
 |_+1,_,h=>by obtain⟨u,b,c⟩:=h;exact a.adj_lt (wL.lt a b) c
theorem wL.trans {g:GR} {s t k:Nat} (h:wL g s k t):∀{m v:Nat},wL g t m v->wL g s (k+m) v
 |0,_,h2=>by obtain⟨rfl,_⟩:=h2;exact h
 |_+1,_,h2=>by obtain⟨u,a,b⟩:=h2;exact⟨u,wL.trans h a,b⟩
theorem Ih {g:GR} (a:VG g) {s:Nat}:∀{k v:Nat},wL g s k v->wL g v k s
 |0,_,h=>by obtain⟨rfl,h⟩:=h;exact⟨rfl,h⟩
 |k+1,v,h=>by
  obtain⟨u,b,c⟩:=h;have d:=wL.lt a b;have e:wL g v 1 u:=⟨v,⟨rfl,a.adj_lt d c⟩,a.back d c⟩
  have:=wL.trans e (Ih a b);rwa[Nat.add_comm]at this
theorem BH.le {g:GR} (a:VG g) {s:Nat} {d:aW} (h:BH g s d):∀{k v:Nat},wL g s k v->0<=D d v/\D d v<=k
 |0,v,hw=>by
  obtain⟨rfl,i⟩:=hw;have:=(h.zero v i).2 Z;omega
 |k+1,v,hw=>by
  obtain⟨u,b,c⟩:=hw;have e:=wL.lt a b;have f:=BH.le a h b;have j:=h.next u e f.1 v (a.adj_lt e c) c;omega
theorem NP {g:GR} (b:VG g) {s:Nat} {d:aW} (h:BH g s d):∀(k v:Nat),v<g.2.length->D d v=k->wL g s k v
 |0,v,hv,he=>by
  have:=(h.zero v hv).1 he;exact⟨this,V7⟩
 |k+1,v,hv,he=>by
  obtain⟨u,c,a,e⟩:=h.near v hv V7;exact⟨u,NP b h k u c V7,b.back hv a⟩
theorem BH.pos {g:GR} (a:VG g) {s:Nat} {d:aW} (h:BH g s d) {v:Nat} (b:v<g.2.length) (c:0<=D d v):wL g s (D d v).toNat v:=
 NP a h _ v b V7
theorem SA (d:aW) (h:d.length<=30):OK (λr:Int=> -1<=r/\(∀v,v<d.length->D d v<=r)/\(r = -1\/∃v,v<d.length/\D d v=r)) (nV 1000 d):=by
 unfold nV;refine AM (λz:gO=>∃k:Nat,z.2=k/\k<=d.length /\ -1<=z.1/\(∀v,v<k->D d v<=z.1)/\(z.1 = -1\/∃v,v<k/\D d v=z.1)) (λz=>31 - z.2.toNat) ?_ 1000 _ ⟨0,rfl,V7,V7,λv b=>V7,.inl Z⟩ V8;rintro⟨m,z⟩ n ⟨k,j,o,g,c,a⟩ e;dsimp only at j g c a;subst j;unfold y_ tF;dsimp only;by_cases l:k<d.length
 .rw[Q3,Q7,Q9];refine e _ ⟨k+1,V8,V7,by dsimp only;omega,λv b=> ?_,?_⟩ (by dsimp only;omega)
  .by_cases f:v=k
   .subst f;show D d v<=max m (D d v);omega
   .have:=c v V7;show D d v<=max m (D d k);omega
  .by_cases p:m<=D d k
   .exact .inr ⟨k,V7,by show D d k=max m (D d k);omega⟩
   .rcases a with a|⟨v,b,i⟩
    .left;show max m (D d k) = -1;omega
    .exact .inr ⟨v,V7,by show D d v=max m (D d k);omega⟩
 .rw[Q0];refine⟨m,rfl,g,λv b=>c v V7,?_⟩
  rcases a with a|⟨v,b,i⟩
  .exact .inl a
  .exact .inr ⟨v,V7,i⟩
def LA (g:GR):Prop:=∀u v,u<g.2.length->v<g.2.length->∃k,wL g u k v
theorem Eo {g:GR} (a:VG g):(LA g->gR 1000 g=some true)/\(¬LA g->gR 1000 g=some false):=by
 have r:=a.n1;have n:=a.n24;unfold gR;obtain⟨d,o,e⟩:=ON a (s:=0) V7;have j:=e.len;rw[(adc g a.light).1 a,bF Z,if_neg V8,show mO 1000 (g.1,g.2) 0=some d from o,bF Z];have c:=aeY (step:=lY d) (K:=some true) (bad:=false) d.length (λv=>0<=D d v) (λk i f p=> ?_) (λk i f p=> ?_) (λi=> ?_) 1000 V7
 .have b:(∀v,v<d.length->0<=D d v)↔LA g:=by
   constructor
   .intro h u v q l;exact⟨_,wL.trans (Ih a (BH.pos a e q (h u V7))) (BH.pos a e l (h v V7))⟩
   .intro h v l;obtain⟨k,f⟩:=h 0 v V7 V7;exact(BH.le a e f).1
  exact⟨λh=>c.1 (b.2 h),λh=>c.2 λm=>h (b.1 m)⟩
 .unfold lY;rw[Q3,Q7,if_neg (show¬D d k<0 by omega),Q9]
 .unfold lY;rw[Q3,Q7,if_pos (show D d k<0 by omega)]
 .unfold lY rX;rw[Q0]
def Ecc (g:GR) (s:Nat) (r:Int):Prop:=∃d,mO 1000 g (s:Int)=some d/\BH g s d/\(∀v,v<g.2.length->D d v<=r)/\∃v,v<g.2.length/\D d v=r
theorem UM {g:GR} (e:VG g) {s:Nat} (i:s<g.2.length):∃d r,mO 1000 g (s:Int)=some d/\nV 1000 d=some r/\Ecc g s r:=by
 obtain⟨d,f,a⟩:=ON e i;have h:=a.len;have j:=e.n24;obtain⟨r,l,o,b,c⟩:=SA d V7;have n:=b s V7;have:=(a.zero s i).2 Z;refine⟨d,r,f,l,d,f,a,λv m=>b v V7,?_⟩
 rcases c with c|⟨v,m,k⟩
 .omega
 .exact⟨v,V7,k⟩
theorem EN {g:GR} (a:VG g) (f:LA g) {s:Nat} (h:s<g.2.length):OK (Ecc g s) (jC 1000 g (s:Int)):=by
 unfold jC lR;rw[(Eo a).1 f,bF Z,if_neg V8,Q0,zA8 V7,if_neg V8];obtain⟨d,r,b,c,e⟩:=UM a h;rw[b,bF Z,c,bF Z];exact⟨r,rfl,e⟩
theorem JK (g:GR) (v:Nat) (u:Int) (m:v<g.2.length) (l:(row g v).length<=30):jY 1000 g v u=some (AC (row g v) u):=by
 unfold jY;rw[Q7];rcases EB (row g v) u with⟨i,j,h,c,b⟩|⟨c,b⟩
 .rw[b];refine Da (λx:Int=>∃k:Nat,x=k/\k<=i) (λx=>31 - x.toNat) ?_ 1000 _ ⟨0,rfl,V7⟩ V7;rintro x d ⟨k,rfl,f⟩ a;unfold xM;rw[if_pos (show(k:Int)<((row g v).length:Int) by omega),cR (show 0<=(k:Int)/\(k:Int)<((row g v).length:Int) by omega)];by_cases e:k=i
  .subst e;exact if_pos h
  .rw[if_neg (c k V7),Q9];exact a _ ⟨k+1,V7,V7⟩ V7
 .rw[b];refine Da (λx:Int=>∃k:Nat,x=k/\k<=(row g v).length) (λx=>31 - x.toNat) ?_ 1000 _ ⟨0,rfl,V7⟩ V7;rintro x d ⟨k,rfl,f⟩ a;unfold xM;by_cases e:k<(row g v).length
  .rw[if_pos (show(k:Int)<((row g v).length:Int) by omega),cR (show 0<=(k:Int)/\(k:Int)<((row g v).length:Int) by omega),if_neg (c k e),Q9];exact a _ ⟨k+1,V7,V7⟩ V7
  .rw[if_neg (show¬(k:Int)<((row g v).length:Int) by omega)];rfl
section
def amw (f:Nat->Nat):Nat->Nat
 |0=>0
 |k+1=>amw f k+f k
open Classical in
noncomputable def ind (p:Prop):Nat:=if p then 1 else 0
end
theorem Pd (a:Nat) (h:a<4294967296):IntKind.u32.wrap (a:Int)=a:=by rw[<-EX];exact if_pos ⟨V7,V7⟩
def RA (x:Int):Nat:=(BitVec.ofInt 32 x).toNat
theorem LM (x:Int):RA x<4294967296:=(BitVec.ofInt 32 x).isLt
theorem AI {a:Nat} (h:a<4294967296):RA (a:Int)=a:=by
 unfold RA;rw[BitVec.ofInt_natCast,BitVec.toNat_ofNat];exact Nat.mod_eq_of_lt h
theorem PD (x y:Int):fF .u32 x y=((RA x &&& RA y:Nat):Int):=by
 show IntKind.u32.wrap (((BitVec.ofInt 32 x &&& BitVec.ofInt 32 y).toNat:Nat):Int)=_;rw[BitVec.toNat_and];exact Pd _ (Nat.lt_of_le_of_lt Nat.and_le_left (LM x))
theorem agY (x y:Int):Nz .u32 x y=((RA x ||| RA y:Nat):Int):=by
 show IntKind.u32.wrap (((BitVec.ofInt 32 x ||| BitVec.ofInt 32 y).toNat:Nat):Int)=_;rw[BitVec.toNat_or];exact Pd _ (Nat.or_lt_two_pow (n:=32) (LM x) (LM y))
theorem aab (x y:Int):xH .u32 x y=0↔∀i,(RA x).testBit i=true->(RA y).testBit i=true:=by
 have e:xH .u32 x y=(((BitVec.ofInt 32 x &&& ~~~ BitVec.ofInt 32 y).toNat:Nat):Int):=Pd _ (BitVec.ofInt 32 x &&& ~~~ BitVec.ofInt 32 y).isLt;have b:∀i,(BitVec.ofInt 32 x &&& ~~~ BitVec.ofInt 32 y).toNat.testBit i=((RA x).testBit i&&(decide (i<32) && !(RA y).testBit i)):=by
  intro i;have:=BitVec.getLsbD_and (x:=BitVec.ofInt 32 x) (y:= ~~~ BitVec.ofInt 32 y) (i:=i);rw[BitVec.getLsbD_not]at this;exact this
 have d:∀i,(RA x).testBit i=true->i<32:=by
  intro i a;apply Classical.byContradiction;intro f;rw[Nat.testBit_lt_two_pow (zAv (LM x) (Nat.pow_le_pow_right (n:=2) V7 (show 32<=i by omega)))]at a;cases a
 rw[e];constructor
 .intro h i a;have c:(BitVec.ofInt 32 x &&& ~~~ BitVec.ofInt 32 y).toNat=0:=V7
  have:=b i;rw[c,Nat.zero_testBit,a,zAd (d i a)]at this;simpa using this
 .intro h;have:(BitVec.ofInt 32 x &&& ~~~ BitVec.ofInt 32 y).toNat=0:=by
   apply zBj;intro i;rw[b i,Nat.zero_testBit];cases a:(RA x).testBit i with
   |false=>rfl
   |true=>rw[h i a];simp
  omega
theorem ID {k:Nat} (a:k<32):2^k<4294967296:=Nat.pow_lt_pow_right (n:=32) V7 a
theorem agc {k:Nat} (a:k<32):Dq .u32 1 (k:Int)=((2^k:Nat):Int):=by
 show IntKind.u32.wrap (1*2^(min ((k:Int).toNat) 32))=_;rw[zAf,Nat.min_eq_left V7,Int.one_mul,show(2:Int)^k=((2^k:Nat):Int) by simp];exact Pd _ (ID a)
theorem Lb {a k:Nat} (b:k<32):rW .u32 (a:Int) (k:Int)=((a / 2^k:Nat):Int):=by
 show Int.fdiv (a:Int) (2^(min ((k:Int).toNat) 32))=_;rw[zAf,Nat.min_eq_left V7,show(2:Int)^k=((2^k:Nat):Int) by simp,Int.fdiv_eq_ediv_of_nonneg _ (Int.natCast_nonneg _)];simp
theorem abb {a k:Nat} (d:k<32) (c:a<4294967296):fF .u32 (rW .u32 (a:Int) (k:Int)) 1=1↔a.testBit k=true:=by
 have b:RA 1=1:=AI (a:=1) V7;rw[Lb d,PD,AI (Nat.lt_of_le_of_lt (Nat.div_le_self _ _) c),b,Nat.and_one_is_mod,Nat.testBit_eq_decide_div_mod_eq,zA1];omega
def LC (g:GR) (s:Nat):Prop:=(∀v,s.testBit v=true->v<g.2.length)/\∀v u,s.testBit v=true->s.testBit u=true->¬KE g v u
theorem agT {g:GR} (a:VG g):Bg 1000 g=some ((2^g.2.length - 1:Nat):Int):=by
 have c:=a.n24;have d:=a.len;have e:=ID (show g.2.length<32 by omega);have b:1<=2^g.2.length:=Nat.one_le_two_pow;unfold Bg;rw[Q7,d,agc V7,show((2^g.2.length:Nat):Int) - 1=((2^g.2.length - 1:Nat):Int) by omega];congr 1;exact if_pos ⟨V7,V7⟩
theorem BH.lt {g:GR} {s:Nat} {d:aW} (h:BH g s d) {v:Nat} (p:v<g.2.length):D d v<(g.2.length:Int):=by
 apply Classical.byContradiction;intro t;have all:∀m:Nat,(m:Int)<=D d v->∃w,w<g.2.length/\D d w=D d v - m:=by
  intro m
  induction m with
  |zero=>intro _;exact⟨v,p,V7⟩
  |succ m q=>
   intro x;obtain⟨w,e,c⟩:=q V7;obtain⟨u,n,_,o⟩:=h.near w e V7;exact⟨u,n,V7⟩
 have b:∀i:Nat,i<g.2.length+1->∃w,w<g.2.length/\D d w=(i:Int):=by
  intro i a;obtain⟨w,e,c⟩:=all (D d v - i).toNat V7;exact⟨w,e,V7⟩
 have:=MV g.2.length (λi=>if a:i<g.2.length+1 then Classical.choose (b i a)else 0) (g.2.length+1) (λi a=>by
  rw[dif_pos a];exact(Classical.choose_spec (b i a)).1) (λi j l f c=>by
  rw[dif_pos V7,dif_pos f]at c;have k:=(Classical.choose_spec (b i V7)).2;have r:=(Classical.choose_spec (b j f)).2;rw[c]at k;omega)
 omega
def T (e:aW) (k v w:Nat):Int:=if 0<=D e w/\(D e w<k\/(D e w=k/\w<v))then D e w else -1
theorem Sm {g:GR} (b:VG g) {s:Nat} (i:s<g.2.length) {d:aW} (a:BH g s d):(∀v,v<d.length->0<=D d v)↔LA g:=by
 have c:=a.len;constructor
 .intro h u v j e;exact⟨_,wL.trans (Ih b (BH.pos b a j (h u V7))) (BH.pos b a e (h v V7))⟩
 .intro h v e;obtain⟨k,f⟩:=h s v i V7;exact(BH.le b a f).1
theorem ND (l:aW) (h:l.length<=30):vC 1000 l l=some true:=by
 unfold vC;rw[if_neg V8];refine Da (λz:Int=>∃k:Nat,z=k/\k<=l.length) (λz=>31 - z.toNat) ?_ 1000 _ ⟨0,rfl,V7⟩ V8;rintro z c ⟨k,rfl,d⟩ a;unfold zN tJ;by_cases b:k<l.length
 .rw[Q3,Q7,Q7,if_neg V8,Q9];exact a _ ⟨k+1,V8,V7⟩ V7
 .rw[Q0]
theorem abi {X R:Type} {step:X->(X->V1 R)->V1 R} {K:X->V1 R} {bad:R} (N:Nat) (p:Nat->Prop) (I:Nat->X->Prop) (B:Nat)
  (t:∀(k:Nat) x q,k<N->k<B->I k x->p k->∃c,I (k+1) c/\step x q=q c) (l:∀(k:Nat) x q,k<N->k<B->I k x->¬p k->step x q=some bad) (s:∀x q,I N x->N<B->step x q=K x):
  ∀(b:Nat) (x:X),I 0 x->B<=b->(N<B\/∃k,k<N/\k<B/\¬p k)->((∀k,k<N->p k)->∃c,I N c/\bN step b x=K c)/\(¬(∀k,k<N->p k)->bN step b x=some bad):=by
 intro b x e v hB;have r:∀(d a b:Nat) (x:X),I a x->a+d<N->a+d<B->¬p (a+d)->d<b->bN step b x=some bad:=by
  intro d
  induction d with
  |zero=>
   intro a b x e j g i v;obtain⟨f,rfl⟩:∃f,b=f+1:=⟨b - 1,V7⟩
   exact l a x _ j g e i
  | succ d y =>
   intro a b x e j g i v;obtain⟨f,rfl⟩:∃f,b=f+1:=⟨b - 1,V7⟩
   by_cases u:p a
   .obtain⟨c,n,o⟩:=t a x (bN step f) V7 V7 e u;have o:bN step (f+1) x=bN step f c:=o;rw[o];exact y (a+1) f c n V7 V7 (by rw[show a+1+d=a+(d+1) by omega];exact i) V7
   .exact l a x _ V7 V7 e u
 have m:∀(d a b:Nat) (x:X),I a x->a+d=N->N<B->(∀k,a<=k->k<N->p k)->d<b->∃c,I N c/\bN step b x=K c:=by
  intro d
  induction d with
  |zero=>
   intro a b x e j g i v;obtain⟨f,rfl⟩:∃f,b=f+1:=⟨b - 1,V7⟩
   obtain rfl:a=N:=V7
   exact⟨x,e,s x _ e g⟩
  |succ d y=>
   intro a b x e j g i v;obtain⟨f,rfl⟩:∃f,b=f+1:=⟨b - 1,V7⟩
   obtain⟨c,n,o⟩:=t a x (bN step f) V7 V7 e (i a (zAg _) V7);have o:bN step (f+1) x=bN step f c:=o;rw[o];exact y (a+1) f c n V7 g (λk j g=>i k V7 g) V7
 constructor
 .intro h;rcases hB with hB|⟨k,j,_,g⟩
  .exact m N 0 b x e V7 hB (λk _ w=>h k w) V7
  .exact absurd (h k j) g
 .intro h;have:∃k,k<N/\k<B/\¬p k:=by
   rcases hB with hB|hB
   .apply Classical.byContradiction;intro A;exact h λk w=>Classical.byContradiction λi=>A ⟨k,w,V7,i⟩
   .exact hB
  obtain⟨k,j,g,z⟩:=this;exact r k 0 b x e V7 V7 (by rw[Nat.zero_add];exact z) V7
theorem YL {a:fY} (q:a.length<=30) {v:Nat} (r:v<a.length):(at' a (v:Int)).length<1000\/∃k,k<(at' a (v:Int)).length/\k<1000/\¬LG (at' a (v:Int)) v a.length k:=by
 by_cases h:(at' a (v:Int)).length<1000
 .exact .inl h
 .right;apply Classical.byContradiction;intro f;have b:∀k,k<40->LG (at' a (v:Int)) v a.length k:=λk p=>Classical.byContradiction λl=>f ⟨k,V7,V7,l⟩;have:=MV a.length (λi=>(iU (at' a (v:Int)) i).1.toNat) 40 (λi g=>by have:=(b i g).1;omega) (λi j c d o=>by
   have m:=(b i V7).1;have n:=(b j d).1;have e:=(b j d).2.2.2 i c;exact e V7)
  omega
theorem Hk (c:fY) (hn:c.length<=30):(NY c->iK 1000 c=some true)/\(¬NY c->iK 1000 c=some false):=by
 unfold iK;have s:∀(v:Nat) (m:V6 ((Int×Int)×Int)) p,v<c.length->(∀z,z∈m↔RH c v 0 z)->
   (xE (at' c (v:Int)) v c.length->∃Y,(∀z,z∈Y↔RH c (v+1) 0 z)/\bN (dG c ((v:Int),m) p) 1000 ((0:Int),m)=p ((v:Int)+1,Y))/\
   (¬xE (at' c (v:Int)) v c.length->bN (dG c ((v:Int),m) p) 1000 ((0:Int),m)=some false):=by
  intro v m p F hm;have L:=YL hn F;have S:=abi (step:=dG c ((v:Int),m) p) (K:=λx=>p ((v:Int)+1,x.2)) (bad:=false) (at' c (v:Int)).length (LG (at' c (v:Int)) v c.length) (λi x=>x.1=(i:Int)/\∀z,z∈x.2↔RH c v i z) 1000 ?_ ?_ ?_ 1000 ((0:Int),m) ⟨rfl,hm⟩ V7 L
  .refine⟨λh=> ?_,λh=>S.2 h⟩
   obtain⟨x,⟨ah,ae⟩,f⟩:=S.1 h;refine⟨x.2,λz=>(ae z).trans ⟨?_,?_⟩,f⟩
   .rintro⟨a,b,y,e,l⟩;exact⟨a,b,V7,e,l⟩
   .rintro⟨a,b,y,e,l⟩;refine⟨a,b,?_,e,l⟩
    by_cases X:a=v
    .subst X;exact .inr ⟨rfl,e⟩
    .omega
  .rintro i ⟨H,g⟩ I N ac ⟨f,d⟩ ⟨p1,p2,p3,p4⟩;dsimp only at f d;subst f;have q:nW (((v:Int),(iU (at' c (v:Int)) i).1)) g=none:=by
    apply JG;intro w hw;obtain⟨a,b,y,e,l⟩:=(d _).1 hw;simp only[Prod.mk.injEq]at l;obtain⟨⟨C,A⟩,_⟩:=l;have:a=v:=V7
    subst this;have hb:b<i:=V7
    exact p4 b hb A.symm
   refine⟨((i:Int)+1,EA (((v:Int),(iU (at' c (v:Int)) i).1)) (iU (at' c (v:Int)) i).2 g),⟨V8,λz=> ?_⟩,?_⟩
   .dsimp only;rw[SO q,d];constructor
    .rintro(rfl|⟨a,b,y,e,l⟩)
     .exact⟨v,i,.inr ⟨rfl,V7⟩,N,rfl⟩
     .exact⟨a,b,V7,e,l⟩
    .rintro⟨a,b,y,e,l⟩;by_cases J:a=v/\b=i
     .left;rw[l,J.1,J.2]
     .right;exact⟨a,b,V7,e,l⟩
   .replace p1:0<=(at' (at' c (v:Int)) (i:Int)).1/\(at' (at' c (v:Int)) (i:Int)).1<=(c.length:Int) - 1:=p1;replace p3:1<=(at' (at' c (v:Int)) (i:Int)).2/\(at' (at' c (v:Int)) (i:Int)).2<=15:=p3;unfold dG iY kI;dsimp only;rw[Q3,Q7,Q0,Q0,if_neg (by rw[zA8 p2];simp),Q0,if_neg (by rw[zA8 V7];simp),q,if_neg V8,Q9]
  .rintro i ⟨H,g⟩ I N ac ⟨f,d⟩ Q;dsimp only at f d;subst f;unfold dG iY kI;dsimp only;rw[Q3,Q7];by_cases y:(iU (at' c (v:Int)) i).1<0
   .rw[if_pos y,if_pos Z]
   rw[if_neg y];by_cases e:(c.length:Int)<=(iU (at' c (v:Int)) i).1
   .rw[if_pos e,if_pos Z]
   rw[if_neg e];by_cases l:(iU (at' c (v:Int)) i).1=v
   .rw[if_pos (zAd l)]
   rw[if_neg (by rw[zA8 l];simp)];by_cases C:(iU (at' c (v:Int)) i).2<1
   .rw[if_pos C,if_pos Z]
   rw[if_neg C];by_cases A:15<(iU (at' c (v:Int)) i).2
   .rw[if_pos (zAd A)]
   rw[if_neg (by rw[zA8 A];simp)];have:∃k,k<i/\(iU (at' c (v:Int)) k).1=(iU (at' c (v:Int)) i).1:=by
    apply Classical.byContradiction;intro hc;exact Q ⟨V7,l,V7,λk O M=>hc ⟨k,O,M⟩⟩
   obtain⟨k,O,M⟩:=this;have n:=(d _).2 ⟨v,k,.inr ⟨rfl,O⟩,V7,rfl⟩;rw[if_pos];rw[<-M];cases q:nW (((v:Int),(iU (at' c (v:Int)) k).1)) g with
   |some w=>rfl
   | none => exact absurd n (by
     intro n;exact wS q n)
  .rintro⟨H,g⟩ I ⟨f,d⟩ _;dsimp only at f d;subst f;unfold dG oE;dsimp only;rw[Q0,Q9]
 have t:=Iw (step:=dY 1000 c) (K:=λx=>kH x.2) (bad:=false) c.length (λv=>xE (at' c (v:Int)) v c.length) (λv x=>x.1=(v:Int)/\∀z,z∈x.2↔RH c v 0 z) ?_ ?_ ?_ 1000 ((0:Int),[]) ⟨rfl,λz=>⟨λh=>(by cases h),fun⟨a,b,y,_⟩=>V7⟩⟩ V7
 rotate_left
 .rintro v ⟨H,g⟩ p F ⟨f,d⟩ Q;dsimp only at f d;subst f;obtain⟨Y,y,e⟩:=(s v g p F d).1 Q;refine⟨((v:Int)+1,Y),⟨V8,y⟩,?_⟩
  .unfold dY;dsimp only;rw[Q3,Q7];exact e
 .rintro v ⟨H,g⟩ p F ⟨f,d⟩ Q;dsimp only at f d;subst f;unfold dY;dsimp only;rw[Q3,Q7];exact(s v g p F d).2 Q
 .rintro⟨H,g⟩ p ⟨f,d⟩;dsimp only at f d;subst f;unfold dY;dsimp only;rw[Q0]
 by_cases D:∀v,v<c.length->xE (at' c (v:Int)) v c.length
 rotate_left
 .exact⟨λh=>absurd h.1 D,λ_=>t.2 D⟩
 obtain⟨⟨H,g⟩,⟨f,d⟩,M⟩:=t.1 D;rw[M];dsimp only at d ⊢;have O:kH g=some (decide (∀z∈g,¬(Option.getD (nW (z.1.2,z.1.1) g) (0:Int))≠z.2)):=MN (λz:(Int×Int)×Int=>(Option.getD (nW (z.1.2,z.1.1) g) (0:Int))≠z.2) g;rw[O];have E:(∀z∈g,¬(Option.getD (nW (z.1.2,z.1.1) g) (0:Int))≠z.2)↔∀v,v<c.length->∀i,i<(at' c (v:Int)).length->NX ([],c) v i:=by
  constructor
  .intro h v F i N;have hw:=(D v F i N).2.2.1;have n:=(d (((v:Int),(iU (at' c (v:Int)) i).1),(iU (at' c (v:Int)) i).2)).2 ⟨v,i,.inl F,N,rfl⟩;have e:=zAw.1 (h _ n);dsimp only at e;cases q:nW ((iU (at' c (v:Int)) i).1,(v:Int)) g with
   |none=>rw[q]at e;simp only[Option.getD]at e;omega
   | some w =>
    rw[q]at e;simp only[Option.getD]at e;obtain⟨a,b,l,C,A⟩:=(d _).1 (DX q);simp only[Prod.mk.injEq]at A;obtain⟨⟨U,V⟩,h8⟩:=A;refine⟨b,?_,?_,?_⟩
    .show b<(at' c (iU (at' c (v:Int)) i).1).length;rw[U];exact C
    .show(iU (at' c (iU (at' c (v:Int)) i).1) b).1=v;rw[U];exact V.symm
    .show(iU (at' c (iU (at' c (v:Int)) i).1) b).2=(iU (at' c (v:Int)) i).2;rw[U,<-h8];exact e
  .intro h z hz ad;obtain⟨a,b,l,C,rfl⟩:=(d z).1 hz;have X:a<c.length:=V7
   apply ad;obtain⟨j,r,o,B⟩:=h a X b C;have hu:=(D a X b C).1;obtain⟨u,R⟩:∃u:Nat,(iU (at' c (a:Int)) b).1=u:=⟨(iU (at' c (a:Int)) b).1.toNat,V7⟩
   replace r:j<(at' c (iU (at' c (a:Int)) b).1).length:=r;replace o:(iU (at' c (iU (at' c (a:Int)) b).1) j).1=a:=o;replace B:(iU (at' c (iU (at' c (a:Int)) b).1) j).2=(iU (at' c (a:Int)) b).2:=B;rw[R]at r o B;have G:u<c.length:=V7
   dsimp only;rw[R,<-B];have n:=(d (((u:Int),(iU (at' c (u:Int)) j).1),(iU (at' c (u:Int)) j).2)).2 ⟨u,j,.inl G,r,rfl⟩;rw[o]at n;cases q:nW ((u:Int),(a:Int)) g with
   |none=>exact absurd n (wS q)
   | some w =>
    obtain⟨a',T,af,aa,A⟩:=(d _).1 (DX q);simp only[Prod.mk.injEq]at A;obtain⟨⟨U,V⟩,h8⟩:=A;have:a'=u:=V7
    subst this;have ab:T=j:=by
     rcases zB7 T j with P|P|P
     .exact absurd (V.symm.trans o.symm) ((D a' G j r).2.2.2 T P)
     .exact P
     .exact absurd (o.trans V) ((D a' G T aa).2.2.2 j P)
    subst ab;exact h8
 by_cases W:∀v,v<c.length->∀i,i<(at' c (v:Int)).length->NX ([],c) v i
 .rw[zAd (E.2 W)];exact⟨λ_=>rfl,λh=>absurd ⟨D,W⟩ h⟩
 .rw[zA8 (λh=>W (E.1 h))];exact⟨λh=>absurd h.2 W,λ_=>rfl⟩
theorem OY (g:GR):(VG g->h_ 1000 g=some true)/\(¬VG g->h_ 1000 g=some false):=by
 unfold h_ qX qY;by_cases e:g.1.length<1
 .rw[Q3];exact⟨λh=>by have:=h.n1;have:=h.len;omega,λ_=>rfl⟩
 rw[Q0];by_cases f:24<g.1.length
 .rw[Q3];exact⟨λh=>by have:=h.n24;have:=h.len;omega,λ_=>rfl⟩
 rw[Q0];by_cases d:g.1.length=g.2.length
 rotate_left
 .rw[zAd V7];exact⟨λh=>absurd h.len d,λ_=>rfl⟩
 rw[zA8 V7,if_neg V8];by_cases b:∀k,k<g.1.length->Zo g.1 k
 rotate_left
 .rw[(xI g.1 V7).2 b,bF Z];exact⟨λh=>absurd (λk i=>⟨(h.node k V7).id,(h.node k V7).ids⟩) b,λ_=>rfl⟩
 rw[(xI g.1 V7).1 b,bF Z,if_pos Z];by_cases a:NY g.2
 .rw[(Hk g.2 V7).1 a];exact⟨λ_=>rfl,λh=>absurd ⟨V7,V7,d,λv c=>⟨(b v V7).1,UK c (a.1 v c),a.1 v c,(b v V7).2⟩,a.2⟩ h⟩
 .rw[(Hk g.2 V7).2 a];exact⟨λh=>absurd ⟨λv c=>(h.node v c).links,h.sym⟩ a,λ_=>rfl⟩
abbrev XO:=An
theorem pJ (v m:Int) (g:1<=m) (h:m<=4611686018427387904):gM 1000 v m=some (v%m):=by
 unfold gM sV;rw[Q0,Q7];have c:=Int.tmod_eq_emod (a:=v) (b:=m);have f:=Int.emod_nonneg v (show m≠0 by omega);have i:=zBb v (show 0<m by omega);by_cases e:0<=v\/m∣v
 .rw[if_pos e]at c;have d:v.tmod m=v%m:=by simpa using c
  rw[d,Q0]
 .rw[if_neg e]at c;have:(m.natAbs:Int)=m:=V7
  rw[c,Q3,Q9];congr 1;omega
theorem Oa (l:aW) (i:Int) (h:0<=i):uK 1000 l i=some (at' l i):=by
 unfold uK;by_cases a:i<(l.length:Int)
 .rw[if_pos a,cR ⟨h,a⟩]
 .rw[if_neg a];unfold at';rw[zAa,zAp V7];rfl
theorem SY {i:Type} [DecidableEq i]:∀(e c:V6 i),e.Nodup->(∀x∈e,x∈c)->e.length<=c.length
 | [],_,_,_=>Nat.zero_le _
 | a :: t, c, hn, hs => by
  have b:=zBh.1 hn;have f:=hs a (zAe ..);have:=SY t (c.erase a) b.2 λx h=>by
   have d:x≠a:=λj=>b.1 (j▸h);exact(List.mem_erase_of_ne d).2 (hs x (zAk _ h))
  rw[List.length_erase_of_mem f]at this;have g:0<c.length:=List.length_pos_of_mem f;simp only[zA9];omega
theorem acF (d:Int) (c:aW) (t:Nat) (k:t<=200) (h:∀s,s<t->(d+(s:Int))%256∈c):t<=c.length:=by
 have:=SY ((List.range t).map λs:Nat=>(d+(s:Int))%256) c (by
  rw[List.nodup_iff_pairwise_ne,List.pairwise_map];refine List.Pairwise.imp_of_mem ?_ List.pairwise_lt_range;intro a b e g f;rw[zAi]at e g;omega) (λx j=>by
  obtain⟨s,i,rfl⟩:=zAs.1 j;exact h s (zAi.1 i))
 simpa using this
structure LB (ids:aW):Prop where
 rng:∀y∈ids,0<=y/\y<=255
 nd:ids.Nodup
theorem LB.snoc {c:aW} {y:Int} (h:LB c) (j:0<=y/\y<=255) (i:y∉c):LB (c++[y]):=by
 refine⟨λz d=> ?_,?_⟩
 .rcases zBa.1 d with d|d
  .exact h.rng z d
  .rw[zBe.1 d];exact j
 .rw[List.nodup_append];refine⟨h.nd,V8,?_⟩
  intro a e b f;rw[zBe.1 f];exact λg=>i (g▸e)
theorem DW {a:Type} [Inhabited a] {l:V6 a} {i:Nat} (h:i<l.length):at' l (i:Int)∈l:=by
 rw[mE,zAa,zA0 h];exact List.getElem_mem h
theorem Gr {a:Type} [Inhabited a] {l:V6 a} {x:a} (h:x∈l):∃i,i<l.length/\at' l ((i:Nat):Int)=x:=by
 obtain⟨i,b,c⟩:=List.getElem_of_mem h;refine⟨i,b,?_⟩
 rw[mE,zAa,zA0 b];exact c
theorem aaV {Q:V6 Int×fY->Prop} {a:aW} (H:a.length<=24) (b:Int) (r:Di->V1 (V6 Int×fY))
  (m:∀y,0<=y->y<=255->y∉a->OK Q (r ((a.length:Int)+1,a++[y]))):OK Q (bN (mK ((a.length:Int),a) r) 1000 (b%256,0)):=by
 refine AM (λs:gO=>∃(t u:Nat),s.1=(b+(t:Int))%256/\s.2=u/\u<=a.length/\t<=a.length/\(∀k,k<t->(b+(k:Int))%256∈a)/\∀j,j<u->at' a (j:Int)≠s.1)
  (λs=>(a.length - ((s.1 - b)%256).toNat)*30+(a.length - s.2.toNat)) ?_ 1000 _ ⟨0,0,V8,rfl,V7,V7,λk p=>V7,λj o=>V7⟩ ?_
 .rintro⟨i,j⟩ z ⟨t,u,g,v,F,C,w,l⟩ d;dsimp only at g v l;subst v;unfold mK uD mJ;dsimp only;by_cases x:(u:Int)<(a.length:Int)
  .rw[if_pos x,Q7];by_cases f:at' a (u:Int)=i
   .rw[if_pos f,cR Q2];have n:(b+(t:Int))%256∈a:=by rw[<-g,<-f];exact DW V7
    have c:∀k,k<t+1->(b+(k:Int))%256∈a:=λk p=>by
     rcases Nat.lt_succ_iff_lt_or_eq.1 p with h|h
     .exact w k h
     .subst h;exact n
    have E:=acF b a (t+1) V7 c;have G:0<=i/\i<=255:=V7
    rw[Q9,Int.tmod_eq_emod_of_nonneg V7,Q9];refine d _ ⟨t+1,0,?_,V8,V7,E,c,λj o=>V7⟩ ?_
    .dsimp only;omega
    .dsimp only;have A:((i+1)%256 - b)%256=(t:Int)+1:=V7
     have B:(i - b)%256=(t:Int):=V7
     rw[A,B];omega
   .rw[if_neg f,Q9];refine d _ ⟨t,u+1,g,by dsimp only;omega,V7,C,w,λj o=> ?_⟩ ?_
    .rcases Nat.lt_succ_iff_lt_or_eq.1 o with h|h
     .exact l j h
     .subst h;exact f
    .dsimp only;omega
  .rw[if_neg x];rw[cR Q1,Q9];refine m i V7 V7 λD=> ?_;obtain⟨k,p,q⟩:=Gr D;exact l k V7 q
 .dsimp only;have e:(b%256 - b)%256=0:=V7
  rw[e];omega
theorem abL (x:XO) (a:Nat) (u:1<=a) (k:a<=24):OK (λg:GR=>LB g.1/\g.2=List.replicate g.1.length []/\1<=g.1.length/\g.1.length<=a) (qN 1000 x (a:Int)):=by
 unfold qN;rw[bF (pJ _ _ V7 V7)];generalize f:(wI .i64 (x.1 - 1))%(a:Int)=r;have m:0<=r:=by rw[<-f];exact Int.emod_nonneg _ V7
 have n:r<a:=by rw[<-f];exact zBb _ V7
 have i:wI .i64 (1+r)=1+r:=Q9;rw[i,Q7];refine AM (λs:Di=>s.1=(s.2.length:Int)/\(s.2.length:Int)<=1+r/\LB s.2) (λs=>(1+r - s.1).toNat) ?_ 1000 _ ⟨rfl,Q1,⟨λy o=>by simp at o,List.nodup_nil⟩⟩ (by dsimp only;omega);rintro⟨v,d⟩ j ⟨e,l,c⟩ b;dsimp only at e l c;subst e;unfold kN pR;dsimp only;rw[i];by_cases h:(d.length:Int)<1+r
 .rw[if_pos h,bF (Oa _ _ V7),bF (pJ _ _ Q2 Q2)];exact aaV V7 _ j λy p q t=>b _ ⟨V8,Q1,c.snoc ⟨p,q⟩ t⟩ (by dsimp only;omega)
 .rw[if_neg h];refine⟨_,rfl,c,?_,by dsimp only;omega,by dsimp only;omega⟩
  dsimp only;congr 1;omega
structure VM (ids:aW) (P:fY):Prop where
 n1:1<=P.length
 n24:P.length<=24
 len:ids.length=P.length
 ok:LB ids
 nd:∀v:Nat,v<P.length->((at' P (v:Int)).map Prod.fst).Nodup
 lk:∀v:Nat,v<P.length->∀x∈at' P (v:Int),(0<=x.1/\x.1<=(P.length:Int) - 1)/\x.1≠(v:Int)/\(1<=x.2/\x.2<=15)/\((v:Int),x.2)∈at' P x.1
theorem abM {d:Type} [Inhabited d] {l:V6 d} (h:l.Nodup) {i j:Nat} (b:i<l.length) (c:j<l.length) (a:i<j):at' l (i:Int)≠at' l (j:Int):=by
 rw[mE,mE,zAa,zAa,zA0 b,zA0 c];exact List.pairwise_iff_getElem.1 (List.nodup_iff_pairwise_ne.1 h) i j b c a
theorem VM.vg {ids:aW} {P:fY} (h:VM ids P):VG (ids,P):=by
 have hlen:=h.len;have links:∀v,v<P.length->xE (row (ids,P) v) v P.length:=by
  intro v hv i hi;have hm:iU (row (ids,P) v) i∈at' P (v:Int):=DW hi;obtain⟨a1,a2,a3,_⟩:=h.lk v hv _ hm;refine⟨a1,a2,a3,λk hk=> ?_⟩
  have hk2:k<(row (ids,P) v).length:=by omega
  have:=List.pairwise_iff_getElem.1 (List.nodup_iff_pairwise_ne.1 (h.nd v hv)) k i (by simpa using hk2) (by simpa using hi) hk;rw[List.getElem_map,List.getElem_map]at this;have e:∀j (hj:j<(row (ids,P) v).length),iU (row (ids,P) v) j=(at' P (v:Int))[j]'hj:=λj hj=>by
   unfold iU;rw[mE,zAa,zA0 hj];rfl
  rw[e k hk2,e i hi];exact this
 refine⟨h.n1,h.n24,h.len,λv hv=>⟨?_,UK hv (links v hv),links v hv,λk hk=> ?_⟩,λv hv i hi=> ?_⟩
 .exact h.ok.rng _ (DW (by dsimp only at hv ⊢;omega))
 .exact abM h.ok.nd (by dsimp only at hv ⊢;omega) (by dsimp only at hv ⊢;omega) hk
 .have hm:iU (row (ids,P) v) i∈at' P (v:Int):=DW hi;obtain⟨_,_,_,a4⟩:=h.lk v hv _ hm;obtain⟨j,hj,he⟩:=Gr a4;exact⟨j,hj,by unfold iU;rw[he],by unfold iU;rw[he]⟩
theorem VM.start {a:aW} (h:LB a) (d:1<=a.length) (b:a.length<=24):VM a (List.replicate a.length []):=by
 have e:∀v:Nat,at' (List.replicate a.length ([]:gV)) (v:Int)=[]:=λv=>by
  rw[mE,zAa,List.getElem?_replicate];split<;>rfl
 refine⟨by simpa using d,by simpa using b,V8,h,λv _=>by rw[e];exact List.nodup_nil,λv _ x c=> ?_⟩
 rw[e]at c;cases c
def nZ (P:fY) (v u:Nat):Prop:=∃x∈at' P (v:Int),x.1=(u:Int)
theorem OA (d:aW) (P:fY) (a b:Nat) (u:a<P.length) (w:(at' P (a:Int)).length<=900):(nZ P a b->oK 1000 (d,P) a b=some true)/\(¬nZ P a b->oK 1000 (d,P) a b=some false):=by
 have c:∀(r:V4),(r=true->nZ P a b)->(r=false->¬nZ P a b)->oK 1000 (d,P) a b=some r:=by
  intro r q p;unfold oK;refine Da (λi:Int=>∃k:Nat,i=k/\k<=(at' P (a:Int)).length/\∀j,j<k->(at' (at' P (a:Int)) ((j:Nat):Int)).1≠(b:Int)) (λi=>(at' P (a:Int)).length - i.toNat) ?_ 1000 0 ⟨0,rfl,V7,λj m=>V7⟩ V7;rintro i t ⟨k,rfl,v,f⟩ g;unfold BC xZ;dsimp only;rw[Q7];by_cases o:(k:Int)<((at' P (a:Int)).length:Int)
  .rw[if_pos o,Q7,Q7];by_cases e:(at' (at' P (a:Int)) (k:Int)).1=(b:Int)
   .rw[if_pos e];cases r with
    |true=>rfl
    |false=>exact absurd ⟨_,DW V7,e⟩ (p Z)
   .rw[if_neg e,Q9];refine g _ ⟨k+1,V7,V7,λj m=> ?_⟩ V7;rcases Nat.lt_succ_iff_lt_or_eq.1 m with h|h
    .exact f j h
    .subst h;exact e
  .rw[if_neg o];cases r with
   |false=>rfl
   |true=>
    obtain⟨x,s,e⟩:=q Z;obtain⟨j,m,n⟩:=Gr s;exact absurd (by rw[n];exact e) (f j V7)
 exact⟨λh=>c true (λ_=>h) (λl=>by cases l),λh=>c false (λl=>by cases l) (λ_=>h)⟩
theorem adL (P:fY) (a b:Nat) (x y:gV) (e:a<P.length) (f:b<P.length) (v:Nat):at' ((P.set a x).set b y) (v:Int)=if v=b then y else if v=a then x else at' P (v:Int):=by
 rw[mE,mE,zAa,zAa,List.getElem?_set,List.getElem?_set];by_cases h:v=b
 .subst h;rw[if_pos Z,if_pos Z,if_pos (by simpa using f)];rfl
 .rw[if_neg (λd=>h d.symm),if_neg h];by_cases c:v=a
  .subst c;rw[if_pos Z,if_pos Z,if_pos e];rfl
  .rw[if_neg (λd=>c d.symm),if_neg c]
theorem VM.add {m:aW} {P:fY} (h:VM m P) {a b:Nat} {w:Int} (J:a<P.length) (A:b<P.length) (p:a≠b) (B:¬nZ P a b) (D:1<=w/\w<=15)
  {x y:gV} (E:x.Perm (((b:Int),w)::at' P (a:Int))) (F:y.Perm (((a:Int),w)::at' P (b:Int))):
  VM m ((P.set a x).set b y)/\(∀v u,nZ P v u->nZ ((P.set a x).set b y) v u)/\nZ ((P.set a x).set b y) a b:=by
 have r:¬nZ P b a:=by
  rintro⟨z,g,i⟩;obtain⟨_,_,_,l⟩:=h.lk b A z g;rw[i]at l;exact B ⟨_,l,rfl⟩
 have C:=adL P a b x y J A;have k:((P.set a x).set b y).length=P.length:=V8
 have d:∀(v:Nat) (z:gO),z∈at' ((P.set a x).set b y) (v:Int)↔z∈at' P (v:Int)\/(v=b/\z=((a:Int),w))\/(v=a/\z=((b:Int),w)):=by
  intro v z;rw[C v];by_cases f:v=b
  .subst f;rw[if_pos Z,F.mem_iff,zAo];constructor
   .rintro(c|c)
    .exact .inr (.inl ⟨rfl,c⟩)
    .exact .inl c
   .rintro(c|⟨_,c⟩|⟨e,_⟩)
    .exact .inr c
    .exact .inl c
    .exact absurd e.symm p
  .rw[if_neg f];by_cases c:v=a
   .subst c;rw[if_pos Z,E.mem_iff,zAo];constructor
    .rintro(e|e)
     .exact .inr (.inr ⟨rfl,e⟩)
     .exact .inl e
    .rintro(e|⟨n,_⟩|⟨_,e⟩)
     .exact .inr e
     .exact absurd n f
     .exact .inl e
   .rw[if_neg c];exact⟨.inl,λe=>e.elim id λn=>n.elim (λo=>absurd o.1 f) λo=>absurd o.1 c⟩
 refine⟨⟨by rw[k];exact h.n1,by rw[k];exact h.n24,by rw[k];exact h.len,h.ok,λv j=> ?_,λv j z g=> ?_⟩,λv u s=> ?_,?_⟩
 .rw[k]at j;rw[C v];by_cases f:v=b
  .subst f;rw[if_pos Z,(F.map Prod.fst).nodup_iff,zBd,zBh];exact⟨λq=>by obtain⟨z,g,i⟩:=zAs.1 q;exact r ⟨z,g,i⟩,h.nd v j⟩
  .rw[if_neg f];by_cases c:v=a
   .subst c;rw[if_pos Z,(E.map Prod.fst).nodup_iff,zBd,zBh];exact⟨λq=>by obtain⟨z,g,i⟩:=zAs.1 q;exact B ⟨z,g,i⟩,h.nd v j⟩
   .rw[if_neg c];exact h.nd v j
 .rw[k]at j ⊢;rcases(d v z).1 g with f|⟨rfl,rfl⟩|⟨rfl,rfl⟩
  .obtain⟨G,H,I,t⟩:=h.lk v j z f;refine⟨G,H,I,?_⟩
   obtain⟨u,K⟩:∃u:Nat,z.1=u:=⟨z.1.toNat,V7⟩
   rw[K]at t ⊢;exact(d u _).2 (.inl t)
  .exact⟨by dsimp only;omega,by dsimp only;omega,D,(d a _).2 (.inr (.inr ⟨rfl,rfl⟩))⟩
  .exact⟨by dsimp only;omega,by dsimp only;omega,D,(d b _).2 (.inr (.inl ⟨rfl,rfl⟩))⟩
 .obtain⟨z,g,i⟩:=s;exact⟨z,(d v z).2 (.inl g),i⟩
 .exact⟨_,(d a _).2 (.inr (.inr ⟨rfl,rfl⟩)),rfl⟩
theorem WZ (x:XO) {c:aW} {P:fY} (h:VM c P) {a b:Nat} {w:Int} (g:a<P.length) (m:b<P.length) (o:1<=w/\w<=15):
  ∃f,oG 1000 x (c,P) a b w=some f/\VM c f/\f.length=P.length/\(∀v u,nZ P v u->nZ f v u)/\(a≠b->nZ f a b):=by
 have p:=h.n24;have n:∀v:Nat,v<P.length->(at' P (v:Int)).length<24:=λv s=>by
  have:=(h.vg.node v s).deg;have e:(at' P (v:Int)).length=(row (c,P) v).length:=rfl;dsimp only at this;omega
 have t:=n a g;have z:=n b m;unfold oG;by_cases d:a=b
 .subst d;rw[if_pos Z];exact⟨P,rfl,h,rfl,λ_ _ h=>h,λr=>absurd Z r⟩
 rw[Q0];by_cases i:nZ P a b
 .rw[bF ((OA c P a b g V7).1 i)];exact⟨P,rfl,h,rfl,λ_ _ h=>h,λ_=>i⟩
 rw[bF ((OA c P a b g V7).2 i)];unfold qK;rw[if_neg V8];dsimp only;cases q:x.2.2.2.2.2 with
 | true =>
  rw[if_pos Z];have e:at' (P.set (Int.toNat (a:Int)) ([((b:Int),w)]++at' P (a:Int))) (b:Int)=at' P (b:Int):=by
   rw[mE,zAa,List.getElem?_set,if_neg (by simpa using d),mE,zAa]
  rw[e];rw[Q7,cR Q1,Q7,cR Q1,cR Q1,cR Q1];obtain⟨j,k,l⟩:=h.add g m d i o (List.Perm.refl _) (List.Perm.refl _);exact⟨_,rfl,j,V8,k,λ_=>l⟩
 |false=>
  rw[if_neg V8];rw[Q7,Q7,cR Q1,cR Q1,cR (by simpa using d),cR Q1,cR Q1];obtain⟨j,k,l⟩:=h.add g m d i o (x:=at' P (a:Int)++[((b:Int),w)]) (y:=at' P (b:Int)++[((a:Int),w)]) List.perm_append_comm List.perm_append_comm;exact⟨_,rfl,j,V8,k,λ_=>l⟩
theorem O_ (v:Int):wI .i64 (1+v%15)=1+v%15/\1<=1+v%15/\1+v%15<=15:=by
 have:=Int.emod_nonneg v (show(15:Int)≠0 by decide);have:=zBb v (show(0:Int)<15 by decide);exact⟨Q9,V7,V7⟩
theorem afK (x:XO) (c:Nat) (F:1<=c) (m:c<=24):
  OK (λg:GR=>VM g.1 g.2/\g.2.length<=c/\∀v:Nat,1<=v->v<g.2.length->∃u:Nat,u<v/\nZ g.2 u v) (oF 1000 x (c:Int)):=by
 unfold oF;obtain⟨⟨d,S⟩,D,h,z,e,q⟩:=abL x c F m;dsimp only at z h e q;rw[bF D];dsimp only;subst z;have r:=VM.start h e V7;refine AM (λs:Int×fY=>∃k:Nat,s.1=k/\1<=k/\k<=d.length/\VM d s.2/\s.2.length=d.length/\∀v:Nat,1<=v->v<k->∃u:Nat,u<v/\nZ s.2 u v) (λs=>d.length - s.1.toNat) ?_ 1000 _ ⟨1,rfl,V7,e,r,V8,λv l f=>V7⟩ (by dsimp only;omega);rintro⟨i,P⟩ T ⟨k,B,H,I,p,G,o⟩ j;dsimp only at B p G o;subst B;unfold v_ qJ;dsimp only;by_cases A:(k:Int)<(P.length:Int)
 .rw[if_pos A,Q9,bF (Oa _ _ V7),bF (pJ _ _ V7 V7),bF (Oa _ _ V7),bF (pJ _ _ Q2 Q2)];obtain⟨N,O,Q⟩:=O_ (at' x.2.2.1 ((k:Int) - 1));rw[N];generalize C:at' x.2.1 ((k:Int) - 1)%(k:Int)=u;have U:0<=u:=by rw[<-C];exact Int.emod_nonneg _ V7
  have V:u<k:=by rw[<-C];exact zBb _ V7
  obtain⟨u,rfl⟩:∃n:Nat,u=n:=⟨u.toNat,V7⟩
  obtain⟨R,E,K,W,L,M⟩:=WZ x p (a:=u) (b:=k) V7 V7 ⟨O,Q⟩;rw[bF E,Q9];refine j _ ⟨k+1,by dsimp only;omega,V7,V7,K,by dsimp only;omega,λv l f=> ?_⟩ (by dsimp only;omega);by_cases y:v=k
  .subst y;exact⟨u,V7,M V7⟩
  .obtain⟨J,t,w⟩:=o v l V7;exact⟨J,t,L _ _ w⟩
 .rw[if_neg A];exact⟨_,rfl,p,by dsimp only;omega,λv l f=>o v l (by dsimp only at f;omega)⟩
theorem afl (x:XO) {c:aW} {P:fY} (h:VM c P):OK (λg:GR=>VM g.1 g.2/\g.1=c/\g.2.length=P.length/\∀v u,nZ P v u->nZ g.2 v u) (oH 1000 x (c,P)):=by
 unfold oH;have z:=h.n24;have B:=h.n1;refine AM (λs:Int×fY=>∃k:Nat,s.1=k/\k<=100/\VM c s.2/\s.2.length=P.length/\∀v u,nZ P v u->nZ s.2 v u) (λs=>200 - s.1.toNat) ?_ 1000 _ ⟨P.length,rfl,V7,h,rfl,λ_ _ h=>h⟩ (by dsimp only;omega);rintro⟨i,Q⟩ w ⟨k,p,A,f,o,e⟩ d;dsimp only at p f o e;subst p;have done:∀b:V4,b=false->OK (λg:GR=>VM g.1 g.2/\g.1=c/\g.2.length=P.length/\∀v u,nZ P v u->nZ g.2 v u) (nE 1000 x (c,P) ((k:Int),Q) w b):=by
  rintro b rfl;exact⟨_,rfl,f,rfl,o,e⟩
 unfold qL;dsimp only;rw[Q9];by_cases l:(k:Int)+1<(x.2.1.length:Int)
 rotate_left
 .rw[if_neg l];exact done _ Z
 rw[if_pos l];by_cases m:(k:Int)<60
 rotate_left
 .exact done _ (zA8 m)
 rw[zAd m];unfold nE;dsimp only;rw[if_pos Z,Q7,bF (pJ _ _ V7 V7),Q9,Q7,bF (pJ _ _ V7 V7),bF (Oa _ _ V7),bF (pJ _ _ Q2 Q2)];obtain⟨E,F,G⟩:=O_ (at' x.2.2.1 (k:Int));rw[E];generalize r:at' x.2.1 (k:Int)%(P.length:Int)=u;have K:0<=u:=by rw[<-r];exact Int.emod_nonneg _ V7
 have L:u<P.length:=by rw[<-r];exact zBb _ V7
 obtain⟨u,rfl⟩:∃n:Nat,u=n:=⟨u.toNat,V7⟩
 generalize q:at' x.2.1 ((k:Int)+1)%(P.length:Int)=t;have I:0<=t:=by rw[<-q];exact Int.emod_nonneg _ V7
 have J:t<P.length:=by rw[<-q];exact zBb _ V7
 obtain⟨t,rfl⟩:∃n:Nat,t=n:=⟨t.toNat,V7⟩
 obtain⟨H,y,C,M,D,N⟩:=WZ x f (a:=u) (b:=t) V7 V7 ⟨F,G⟩;rw[bF y,Q9];exact d _ ⟨k+2,by dsimp only;omega,V7,C,by dsimp only;omega,λv u j=>D _ _ (e v u j)⟩ (by dsimp only;omega)
theorem PR (x:XO) (a:Nat) (m:1<=a) (c:a<=24):
  OK (λg:GR=>VM g.1 g.2/\g.2.length<=a/\∀v:Nat,1<=v->v<g.2.length->∃u:Nat,u<v/\nZ g.2 u v) (kQ 1000 x (a:Int)):=by
 unfold kQ;obtain⟨⟨s,P⟩,k,o,n,i⟩:=afK x a m c;obtain⟨⟨j,t⟩,l,b,p,d,h⟩:=afl x o;rw[bF k,bF l];dsimp only at n i b p d h;refine⟨_,rfl,b,by dsimp only;omega,λv r f=> ?_⟩
 obtain⟨u,q,e⟩:=i v r (by dsimp only at f;omega);exact⟨u,q,h _ _ e⟩
end Go.Proofs.YtgciopekomcbfaaGreatDoor
namespace Go.Proofs.YtgciopekomcbfaaGreatDoor
open Go Go.Sx
abbrev val (c:bE) (v x:Nat):Int:=at' (at' c (v:Int)) (x:Int)
def afV (g:GR) (b:Int) (v:Nat) (a:Int):Prop:=if b = -1 then -1<=a/\a<=((row g v).length:Int) - 1 else 0<=a/\a<=b
instance (g:GR) (top:Int) (v:Nat) (a:Int):Decidable (afV g top v a):=by unfold afV;infer_instance
def eO (g:GR):Nat->Int
 |0=>0
 |k+1=>max (eO g k) (at' g.1 (k:Int))
theorem sP {g:GR} (a:VG g):∀k,k<=g.2.length->0<=eO g k/\eO g k<=255
 |0,_=>by simp[eO]
 |k+1,h=>by
  have b:=sP a k V7;have c:0<=at' g.1 (k:Int)/\at' g.1 (k:Int)<=255:=(a.node k V7).id;simp only[eO];omega
abbrev xF:=Ge
def DK (x:xF):Prop:=(-100000<=x.2.2.2.1/\x.2.2.2.1<=100000)/\(0<=x.2.2.2.2.1/\x.2.2.2.2.1<=100000)/\(0<=x.2.2.2.2.2/\x.2.2.2.2.2<=100000)
def lo (g:GR) (x:xF) (v:Nat):Int:=if x.2.1=2 then 0 else if x.2.1=3 then -1 else x.2.2.1
def hi (g:GR) (x:xF) (v:Nat):Int:=if x.2.1=2 then 1 else if x.2.1=3 then((row g v).length:Int) - 1 else x.2.2.2.1+x.2.2.2.2.1*(g.2.length:Int)+x.2.2.2.2.2*eO g g.1.length
structure CM (g:GR) (c:bE) (vars:List xF):Prop where
 len:c.length=g.2.length
 row:∀v,v<g.2.length->(at' c (v:Int)).length=vars.length
 ok:∀v,v<g.2.length->∀x,x<vars.length->lo g (at' vars (x:Int)) v<=val c v x/\val c v x<=hi g (at' vars (x:Int)) v
def Ch (a b:Nat):Nat:=(BitVec.ofInt 32 (a:Int) &&& ~~~ BitVec.ofInt 32 (b:Int)).toNat
theorem Mk (a b:Nat):Ch a b<4294967296:=(BitVec.ofInt 32 (a:Int) &&& ~~~ BitVec.ofInt 32 (b:Int)).isLt
theorem Hy {a i:Nat} (b:a<4294967296) (h:a.testBit i=true):i<32:=by
 apply Classical.byContradiction;intro c;rw[Nat.testBit_lt_two_pow (zAv b (Nat.pow_le_pow_right (n:=2) V7 (show 32<=i by omega)))]at h;cases h
theorem Og {a b:Nat} (d:a<4294967296) (e:b<4294967296) (i:Nat):(Ch a b).testBit i=(a.testBit i && !b.testBit i):=by
 have:=BitVec.getLsbD_and (x:=BitVec.ofInt 32 (a:Int)) (y:= ~~~ BitVec.ofInt 32 (b:Int)) (i:=i);rw[BitVec.getLsbD_not]at this;have h:(Ch a b).testBit i=((RA (a:Int)).testBit i&&(decide (i<32) && !(RA (b:Int)).testBit i)):=this;rw[AI d,AI e]at h;rw[h];cases c:a.testBit i with
 |false=>simp
 |true=>simp[Hy d c]
theorem LZ (a b:Nat):xH .u32 (a:Int) (b:Int)=(Ch a b:Int):=Pd _ (Mk a b)
theorem CW {a b:Nat} (c:a<4294967296) (d:b<4294967296):fF .u32 (a:Int) (b:Int)=((a &&& b:Nat):Int):=by rw[PD,AI c,AI d]
theorem alY {a b:Nat} (c:a<4294967296) (d:b<4294967296):Nz .u32 (a:Int) (b:Int)=((a ||| b:Nat):Int):=by rw[agY,AI c,AI d]
theorem ags {a b:Nat} (c:a<4294967296) (d:b<4294967296):a ||| b<4294967296:=Nat.or_lt_two_pow (n:=32) c d
theorem Py {a b:Nat} (c:a<4294967296):a &&& b<4294967296:=Nat.lt_of_le_of_lt Nat.and_le_left c
theorem L_ {a k:Nat} (c:a<4294967296) (b:k<32):Nz .u32 (a:Int) (Dq .u32 1 (k:Int))=((a ||| 2^k:Nat):Int):=by rw[agc b,alY c (ID b)]
theorem Qq (p:Nat->V4) {k:Nat} (a:k<=32):tI p k<4294967296:=zAv (SL p k) (Nat.pow_le_pow_right (n:=2) V7 a)
theorem VG.to {g:GR} (c:VG g) {v i:Nat} (e:v<g.2.length) (d:i<(row g v).length):∃u:Nat,u<g.2.length/\(iU (row g v) i).1=(u:Int):=by
 obtain⟨u,a,b,_⟩:=c.port e d;exact⟨u,a,b⟩
def KU:V6 xF:=[(ByteArray.mk #[109],2,0,0,0,0)]
def d0 (g:GR) (c:bE) (d v:Nat):Int:=if d.testBit v=true then at' (at' c (v:Int)) 0 else if v=0 then 0 else(g.2.length:Int)
def start (g:GR) (c:bE) (d:Nat):aW:=(List.range g.2.length).map (d0 g c d)
theorem BY {a:Type} [Inhabited a] (l:V6 a) (x:a) {i:Nat} (b:i<l.length+1):at' (l++[x]) (i:Int)=if i<l.length then at' l (i:Int)else x:=by
 rw[mE,mE];by_cases h:i<l.length
 .rw[if_pos h,zAa,zAa,zAc h]
 .have:i=l.length:=V7
  subst this;rw[if_neg h];simp
def NW (g:GR) (a:V6 xF) (v:Nat) (l:aW):Prop:=∀x,x<l.length->lo g (at' a (x:Int)) v<=at' l (x:Int)/\at' l (x:Int)<=hi g (at' a (x:Int)) v
theorem Oe {g:GR} (G:VG g) (d:V6 xF) (f:aW) (ht:d.length<=900) (U:∀x,x<d.length->DK (at' d (x:Int)) /\ -100000<=(at' d (x:Int)).2.2.1/\(at' d (x:Int)).2.2.1<=(at' d (x:Int)).2.2.2.1):
  OK (λc=>CM g c d) (fC 1000 g d f):=by
 have Q:=G.n24;have C:=G.len;have P:fC 1000 g d f=nC 1000 g d f (eO g g.2.length):=by
  unfold fC;refine dZ (F:=λk:Nat=>((eO g k,(k:Int)):gO)) g.2.length (λk B hk=> ?_) (λB=> ?_) 1000 V7
  .unfold pK;simp only;rw[Q3,Q7,Q9];rfl
  .unfold pK;simp only;rw[Q0]
 rw[P];obtain⟨M,X⟩:=sP G g.2.length V7;unfold nC;have J:=Be (step:=hZ 1000 g d f (eO g g.2.length)) (K:=λx=>some x.1) g.2.length (λv x=>x.2=(v:Int)/\x.1.length=v/\∀w,w<v->(at' x.1 (w:Int)).length=d.length/\NW g d w (at' x.1 (w:Int))) (λv x B t q=> ?_) (λx B q=> ?_) 1000 (([]:bE),(0:Int)) ⟨rfl,rfl,λw V=>V7⟩ V7
 .obtain⟨⟨c,i⟩,⟨_,s,p⟩,I⟩:=J;exact⟨c,I,s,λv t=>(p v t).1,λv t x D=>(p v t).2 x (by rw[(p v t).1];exact D)⟩
 .obtain⟨c,i⟩:=x;obtain⟨rfl,s,p⟩:=q;simp only at s p;have L:(at' g.2 (v:Int)).length<g.2.length:=(G.node v t).deg;unfold hZ;simp only;rw[Q3];have E:=Be (step:=kE 1000 g d f (eO g g.2.length) (c,(v:Int)) B) (K:=λy=>B (c++[y.1],(v:Int)+1)) d.length (λx y=>y.2=(x:Int)/\y.1.length=x/\NW g d v y.1) (λx y n D q=> ?_) (λy n q=> ?_) 1000 (([]:aW),(0:Int)) ⟨rfl,rfl,λx D=>by simp at D⟩ V7
  .obtain⟨⟨l,j⟩,⟨_,h,u⟩,I⟩:=E;refine⟨(c++[l],(v:Int)+1),⟨V8,by simp[s],λw V=> ?_⟩,I⟩
   simp only;rw[BY c l V7,s];by_cases e:w<v
   .rw[if_pos e];exact p w e
   .rw[if_neg e];have:w=v:=V7
    subst this;exact⟨h,u⟩
  .obtain⟨l,j⟩:=y;obtain⟨rfl,h,u⟩:=q;simp only at h u;obtain⟨⟨s1,N,O⟩,s4,s5⟩:=U x D;have o:∀a b:Int,a=lo g (at' d (x:Int)) v->b=hi g (at' d (x:Int)) v -> -100000<=a->a<=b+1->b<=100000000->(a<=b\/(a = -1/\b = -1))->∃H,(H.2=((x+1:Nat):Int)/\H.1.length=x+1/\NW g d v H.1)/\lJ 1000 d f (c,(v:Int)) (l,(x:Int)) n (a,b)=n H:=by
    intro a b R T q1 q2 q3 q4;have S:a<=b:=V7
    unfold lJ;simp only;have w1:wI .i64 ((v:Int)*(d.length:Int))=(v:Int)*(d.length:Int):=by
     have Y:0<=(v:Int)*(d.length:Int):=Int.mul_nonneg V7 V7;have p2:(v:Int)*(d.length:Int)<=24*900:=Int.mul_le_mul V7 V7 V7 V7;exact Q9
    have Y:0<=(v:Int)*(d.length:Int):=Int.mul_nonneg V7 V7;have p2:(v:Int)*(d.length:Int)<=24*900:=Int.mul_le_mul V7 V7 V7 V7;rw[w1,Q9 (x:=(v:Int)*(d.length:Int)+(x:Int)),Oa _ _ V7,bF Z,Q9 (x:=b - a),Q9 (x:=b - a+1),pJ _ _ V7 V7,bF Z];have r1:=Int.emod_nonneg (at' f ((v:Int)*(d.length:Int)+(x:Int))) (b:=b - a+1) V7;have r2:=zBb (at' f ((v:Int)*(d.length:Int)+(x:Int))) (b:=b - a+1) V7;generalize at' f ((v:Int)*(d.length:Int)+(x:Int))%(b - a+1)=r at r1 r2;rw[Q9 (x:=a+r),cR Q1,Q9];refine⟨_,⟨V8,by simp[h],λz W=> ?_⟩,rfl⟩
    simp only[zA5,zA9,zAm,h]at W;simp only;rw[BY l _ V7,h];by_cases e:z<x
    .rw[if_pos e];exact u z V7
    .rw[if_neg e];have:z=x:=V7
     subst this;rw[<-R,<-T];omega
   unfold kE;simp only;rw[Q3,Q7,Q7,Q7,Q7,Q7];by_cases m:(at' d (x:Int)).2.1=2
   .rw[if_pos m];exact o 0 1 (by unfold lo;rw[if_pos m]) (by unfold hi;rw[if_pos m]) V7 V7 V7 V7
   .rw[if_neg m];by_cases A:(at' d (x:Int)).2.1=3
    .rw[if_pos A,Q7,Q9];exact o (-1) _ (by unfold lo;rw[if_neg m,if_pos A]) (by unfold hi;rw[if_neg m,if_pos A]) V7 V7 V7 V7
    .rw[if_neg A];have q1:0<=(at' d (x:Int)).2.2.2.2.1*(g.2.length:Int):=Int.mul_nonneg N.1 V7;have q2:(at' d (x:Int)).2.2.2.2.1*(g.2.length:Int)<=100000*24:=Int.mul_le_mul N.2 V7 V7 V7;have q3:0<=(at' d (x:Int)).2.2.2.2.2*eO g g.2.length:=Int.mul_nonneg O.1 M;have q4:(at' d (x:Int)).2.2.2.2.2*eO g g.2.length<=100000*255:=Int.mul_le_mul O.2 X M V7;rw[Q9 (x:=(at' d (x:Int)).2.2.2.2.1*(g.2.length:Int)),Q9 (x:=(at' d (x:Int)).2.2.2.2.2*eO g g.2.length),Q9 (x:=(at' d (x:Int)).2.2.2.1+(at' d (x:Int)).2.2.2.2.1*(g.2.length:Int)),Q9];exact o _ _ (by unfold lo;rw[if_neg m,if_neg A]) (by unfold hi;rw[if_neg m,if_neg A,C]) V7 V7 V7 V7
  .obtain⟨l,j⟩:=y;obtain⟨rfl,h,u⟩:=q;simp only at h u;unfold kE xX;simp only;rw[Q0,cR Q1,Q9]
 .obtain⟨c,i⟩:=x;obtain⟨rfl,s,p⟩:=q;unfold hZ sT;simp only;rw[Q0]
def low (a b:Int):Int:=if 0<=b/\(a<0\/b<a)then b else a
end Go.Proofs.YtgciopekomcbfaaGreatDoor
namespace Go.Proofs.YtgciopekomcbfaaGreatDoor
open Go.Sx
def uX (a:aW):V1 aW:=
 some (a)
def uY (a:Di) (c:(Int×aW)->V1 aW) (b:aW):V1 aW:=
 c ((wI .i64 (a.1+(1:Int))),b)
def qS (d:dM) (a:Di) (e:(Int×aW)->V1 aW) (b:Di) (c:(Int×aW)->V1 aW):V1 aW:=
 if b.1<((at' d.2 a.1).length:Int)then(ck (0<=b.1/\b.1<((at' d.2 a.1).length:Int)) (ck (0<=a.1/\a.1<(b.2.length:Int)) (ck (0<=((at' (at' d.2 a.1) b.1).1)) (ck (0<=a.1/\a.1<(b.2.length:Int)) (c ((wI .i64 (b.1+(1:Int))),(List.set b.2 (Int.toNat a.1) (Nz .u32 (at' b.2 a.1) (Dq .u32 (1:Int) ((at' (at' d.2 a.1) b.1).1))))))))))else(uY a e (b.2))
def lX (U:Nat) (c:dM) (a:Di) (b:(Int×aW)->V1 aW):V1 aW:=
 if a.1<(c.2.length:Int)then(ck (0<=a.1/\a.1<(c.2.length:Int)) (bN (qS c a b) U ((0:Int),a.2)))else(uX (a.2))
def pF (U:Nat) (a:dM):V1 aW:=
 ck (0<=(a.2.length:Int)/\(a.2.length:Int)<=1099511627) (bN (lX U a) U ((0:Int),(List.replicate (Int.toNat (a.2.length:Int)) (0:Int))))
theorem adU:aU prog 126:=call126
theorem KO (U:Nat) {g:dM} (A m:V0) (C:mS) (r:aW) (h:pF U g=some r):
  a_ prog 126 #[Value.agg #[A,m]] [Sl aL A g.1,S2 aY m C g.2] (λx:V0=>x) (λx l=>Ar qG x r::l) (λ_ l=>l):=by
 let i:=(g.2.length:Int)
 refine a_.of func126 Z ntmps126 Z λc=>?_;refine aP<|aI (aN.box (cs:=[A,m]) Z Z) Z λG=>aC Z<|aM<|aP<|bT Z<|dO 0 Z<|aB (fN Z (yQ Z) Z) Z<|dV h λE h=>aI (tZ (e:=qG) (0:Int) Z Z Z Z E Z Z Z) Z λj=>aC Z<|aM<|aK<|iA (λn=>uX n=some r) (λn B=>[(3,j)]) (λn B=>[Ar qG j n]) ?_ ?_
 .refine aP<|bT Z<|dO 1 Z<|aB (fN Z (yQ Z) Z) Z<|aA Z<|aM<|aS<|gC (lX U g) (λa o=>[(3,j),(13,m),(14,vI i),(15,vI (a.1))]) (λa o=>[Ar qG j a.2]) ((0:Int),(List.replicate (Int.toNat i) (0:Int))) () h SF (aX.ix [0] Z Z) ?_;intro v a o h;refine aP<|dD Z<|aM<|aK ?_;refine eI h Z (λh=>?_) λh=>?_
  .refine cQ<|aK<|iA (λf=>uY a (bN (lX U g) v) f=some r) (λf p=>[(3,j),(13,m),(14,vI i),(15,vI (a.1))]) (λf p=>[Ar qG j f]) ?_ ?_
   .refine aS<|aP<|aA Z<|dV h λd h=>aB (cA Z Z (yQ Z) Z Z d) Z<|aB (cW Z (yQ Z) Z Z d) Z<|aC Z<|aC Z<|aM<|aP<|aA Z<|aB (iN Z (zBm (yQ Z) d.1 d.2) Z) Z<|aA Z<|aM<|aS<|gC (qS g a (bN (lX U g) v)) (λb q=>[(3,j),(4,vI (a.1)),(13,m),(14,vI i),(15,vI (a.1)),(20,(at' C a.1).1),(21,vI ((at' g.2 a.1).length:Int)),(22,vI (b.1))]) (λb q=>[Ar qG j b.2]) ((0:Int),a.2) () h SF (aX.refl _) ?_;intro F b q h;let k:=(at' (at' g.2 a.1) b.1)
    let w:=(Nz .u32 (at' b.2 a.1) (Dq .u32 (1:Int) (k.1)))
    refine aP<|dD Z<|aM<|aK ?_;refine eI h Z (λh=>?_) λh=>?_
    .refine cQ<|aK<|aS<|aP<|dV h λs h=>aB (bR Z Z (zBm (yQ Z) d.1 d.2) Z Z s) Z<|aB (gT (cs:=[vI (k.1),vI (k.2)]) Z (zBm (yQ Z) d.1 d.2) bX Z Z Z Z s) Z<|aI (aN.alloc (cs:=Uj) Z Z) Z λD=>bQ 0 (vs:=[vI ((at' (at' g.2 a.1) b.1).1),vI ((at' (at' g.2 a.1) b.1).2)]) Z Z Z Z Z Z<|aM ?_;refine yP [0,0,3,7,0,16,48,127,255,511] 7 mixedOrders ?_;refine bD Z<|bD Z<|dV h λt h=>bK Z (aX.cons 1 Z .nil) .nil (bR Z Z (bP (aG.res 0 Z) tK) Z Z t) aO.z<|bK Z (aX.cons 1 Z .nil) .nil (cK Z (bP (aG.res 0 Z) tK) Z Z Z Jo t) aO.z<|cN Z<|gW 0 Z<|dV h λy h=>jL Z (NZ Z Z y)<|bU 7 Z Z<|aB (ZP Z Z) Z<|dV h λu h=>aB (bR Z Z (bP (aG.res 1 Z) tK) Z Z u) Z<|Fg 1 w u Z Z Z Z Z Z Z<|eW<|m_<|aR<|cU Z<|aA Z<|aM ?_;exact iH ((wI .i64 (b.1+(1:Int))),(List.set b.2 (Int.toNat a.1) w)) () h SF (aX.ix [1] Z Z) (aF.refl _ _)
    refine tB<|fT<|fT<|Aj<|m_ ?_;exact j_ (b.2) () h SF Z
   intro f p h;unfold uY at h;refine aR<|cU Z<|aA Z<|aM ?_;exact BD ((wI .i64 (a.1+(1:Int))),f) () h SF Z
  refine fO ?_;exact j_ (a.2) () h SF Z
 intro n B h;unfold uX at h;refine aP<|aA Z<|aC Z<|aM<|aT ?_;cases h;exact fD (j) Z Z (RV.tmp Z) (aX.refl _) aF.nil
end Go.Proofs.YtgciopekomcbfaaGreatDoor
namespace Go.Proofs.YtgciopekomcbfaaGreatDoor
open Go Go.Sx
structure KG (m k:Nat):Prop where
 bit:m.testBit k=true
 low:∀j,j<k->m.testBit j=false
theorem FD {m:Nat} (h:m≠0):∃k,KG m k:=by
 obtain⟨i,c⟩:=Nat.exists_testBit_of_ne_zero h;obtain⟨k,_,a,b⟩:=least (p:=λi=>m.testBit i=true) i c;exact⟨k,a,λj d=>by simpa using b j d⟩
theorem Tg {m k:Nat} (h:KG m k) (i:Nat):(m - 1).testBit i=if i<k then true else if i=k then false else m.testBit i:=by
 have b:m=2^(k+1)*(m / 2^(k+1))+2^k:=by
  refine zBj λi=> ?_;have a:2^k<2^(k+1):=Nat.pow_lt_pow_right V7 V7;rw[Nat.testBit_two_pow_mul_add _ a,zAz,Nat.testBit_div_two_pow];rcases zB7 i k with q|q|q
  .rw[Q3,h.low i q,zA8 V7]
  .subst q;rw[Q3,h.bit,zAd Z]
  .rw[Q0,show i - (k+1)+(k+1)=i by omega]
 have c:0<2^k:=Nat.pow_pos V7;have a:2^k - 1<2^(k+1):=by rw[Nat.pow_succ];omega
 have e:m - 1=2^(k+1)*(m / 2^(k+1))+(2^k - 1):=V7
 rw[e,Nat.testBit_two_pow_mul_add _ a,Nat.testBit_two_pow_sub_one,Nat.testBit_div_two_pow];rcases zB7 i k with q|q|q
 .rw[Q3,if_pos q,zAd q]
 .subst q;rw[Q3,Q0,if_pos Z,zA8 V7]
 .rw[Q0,Q0,Q0,show i - (k+1)+(k+1)=i by omega]
theorem amr {m:Nat} (b:m<4294967296) (a:m≠0):wI .u32 (0 - (m:Int))=((4294967296 - m:Nat):Int):=by
 rw[EX];have:IntKind.u32.wrap (0 - (m:Int))=(0 - (m:Int))%4294967296:=rfl;rw[this];omega
theorem ajZ {m:Nat} (b:m<4294967296) (a:m≠0):wI .u32 ((m:Int) - 1)=((m - 1:Nat):Int):=by
 rw[show(m:Int) - 1=((m - 1:Nat):Int) by omega,EX,Pd _ V7]
theorem afh {m k:Nat} (a:m<4294967296) (h:KG m k):fF .u32 (m:Int) (wI .u32 (0 - (m:Int)))=((2^k:Nat):Int):=by
 have b:m≠0:=λe=>by have:=h.bit;rw[e]at this;simp at this
 have c:k<32:=Hy a h.bit;rw[amr a b,CW a V7];congr 1;refine zBj λi=> ?_;rw[Nat.testBit_and,show 4294967296 - m=2^32 - ((m - 1)+1) by omega,Nat.testBit_two_pow_sub_succ V7,zAz,Tg h];rcases zB7 i k with q|q|q
 .rw[h.low i q,zA8 (show¬k=i by omega)];rfl
 .subst q;rw[h.bit,Q0,if_pos Z,zAd c,zAd Z];rfl
 .rw[Q0,Q0,zA8 (show¬k=i by omega)];cases m.testBit i<;>simp
theorem PQ {m k:Nat} (a:m<4294967296) (h:KG m k):∃b:Nat,fF .u32 (m:Int) (wI .u32 ((m:Int) - 1))=(b:Int)/\b<4294967296/\∀i,b.testBit i=(m.testBit i&&decide (i≠k)):=by
 have c:m≠0:=λe=>by have:=h.bit;rw[e]at this;simp at this
 refine⟨m &&& (m - 1),by rw[ajZ a c,CW a V7],Py a,λi=> ?_⟩
 rw[Nat.testBit_and,Tg h];rcases zB7 i k with q|q|q
 .rw[h.low i q];rfl
 .subst q;simp
 .rw[Q0,Q0];have:decide (i≠k)=true:=zAd V7;rw[this];cases m.testBit i<;>rfl
theorem aiH:∀k:Fin 32,((0:Int)<=rW .u32 (wI .u32 ((((2^k.val:Nat):Int))*125613361)) 27/\rW .u32 (wI .u32 ((((2^k.val:Nat):Int))*125613361)) 27<((32:Nat):Int))/\wI .i64 (at' sS (rW .u32 (wI .u32 ((((2^k.val:Nat):Int))*125613361)) 27))=(k.val:Int):=by decide +kernel
theorem acK (f:Nat) {m k:Nat} (a:m<4294967296) (h:KG m k):kX f (m:Int)=some (k:Int):=by
 have d:m≠0:=λe=>by have:=h.bit;rw[e]at this;simp at this
 obtain⟨b,c⟩:=aiH ⟨k,Hy a h.bit⟩;unfold kX;rw[Q0,cR Q2,afh a h,cR ⟨b,rfl⟩,c]
structure LN (g:GR) (r:aW):Prop where
 len:r.length=g.2.length
 at':∀v:Nat,v<g.2.length->∃m:Nat,Go.Sx.at' r (v:Int)=(m:Int)/\m<4294967296/\∀u,m.testBit u=true↔KE g v u
theorem abH {g:GR} (I:VG g):∃r,pF 1000 g=some r/\LN g r:=by
 have R:=I.n24;unfold pF;rw[Q7];obtain⟨⟨a,r⟩,⟨y,B,C⟩,J⟩:=Be (step:=lX 1000 g) (K:=λz=>some z.2) g.2.length
  (λk z=>z.1=(k:Int)/\z.2.length=g.2.length/\∀v:Nat,v<g.2.length->∃m:Nat,Go.Sx.at' z.2 (v:Int)=(m:Int)/\m<4294967296/\∀u,m.testBit u=true↔v<k/\KE g v u) (λk z E M G=>by
  obtain⟨a,r⟩:=z;obtain⟨y,B,C⟩:=G;dsimp only at y B C;subst y;have O:=(I.node k M).deg;obtain⟨⟨b,U⟩,⟨s,d,c⟩,J⟩:=Be (step:=qS g ((k:Int),r) E) (K:=λz=>E (((k+1:Nat):Int),z.2)) (row g k).length
   (λj z=>z.1=(j:Int)/\z.2.length=g.2.length/\∀v:Nat,v<g.2.length->∃m:Nat,Go.Sx.at' z.2 (v:Int)=(m:Int)/\m<4294967296/\∀u,m.testBit u=true↔(v<k/\KE g v u)\/(v=k/\∃i,i<j/\(iU (row g k) i).1=(u:Int))) (λj z F S H=>by
   obtain⟨b,q⟩:=z;obtain⟨s,d,c⟩:=H;dsimp only at s d c;subst s;obtain⟨w,V,x,N⟩:=I.port M S;obtain⟨m,T,l,t⟩:=c k M;refine⟨(((j+1:Nat):Int),q.set k (((m ||| 2^w:Nat)):Int)),⟨rfl,by simpa using d,λv f=> ?_⟩,?_⟩
   .show∃P,Go.Sx.at' (q.set k _) (v:Int)=_/\_;rw[tE q k v _ V7];by_cases e:v=k
    .subst e;refine⟨_,if_pos Z,ags l (ID V7),λu=> ?_⟩
     rw[Nat.testBit_or,zAz,zAx,t u,zA1];constructor
     .rintro((h|⟨_,i,A,h⟩)|h)
      .exact .inl h
      .exact .inr ⟨rfl,i,V7,h⟩
      .exact .inr ⟨rfl,j,V7,by rw[x,h]⟩
     .rintro(h|⟨_,i,A,h⟩)
      .exact .inl (.inl h)
      .by_cases L:i=j
       .subst L;right;rw[x]at h;omega
       .exact .inl (.inr ⟨rfl,i,V7,h⟩)
    .obtain⟨P,n,o,p⟩:=c v f;refine⟨P,by rw[if_neg e];exact n,o,λu=> ?_⟩
     rw[p u];constructor
     .rintro(h|⟨h,_⟩)
      .exact .inl h
      .exact absurd h e
     .rintro(h|⟨h,_⟩)
      .exact .inl h
      .exact absurd h e
   .unfold qS;dsimp only;rw[if_pos (show(j:Int)<((row g k).length:Int) by omega),cR (show 0<=(j:Int)/\(j:Int)<((row g k).length:Int) by omega),Q7,show Go.Sx.at' (Go.Sx.at' g.2 (k:Int)) (j:Int)=iU (row g k) j from rfl,x,Q7,Q7,T,L_ l V7,Q8,zAf]) (λz F H=>by
   obtain⟨b,q⟩:=z;obtain⟨s,d,c⟩:=H;dsimp only at s d c;subst s;unfold qS uY;dsimp only;rw[if_neg (show¬((row g k).length:Int)<((row g k).length:Int) by omega),Q8]) 1000 ((0:Int),r) ⟨rfl,B,λv f=>by
    obtain⟨m,n,o,p⟩:=C v f;refine⟨m,n,o,λu=> ?_⟩
    rw[p u];constructor
    .exact λh=> .inl h
    .rintro(h|⟨_,i,A,_⟩)
     .exact h
     .omega⟩ V7
  dsimp only at s d c;refine⟨(((k+1:Nat):Int),U),⟨rfl,d,λv f=> ?_⟩,?_⟩
  .obtain⟨m,n,o,p⟩:=c v f;refine⟨m,n,o,λu=> ?_⟩
   rw[p u];constructor
   .rintro(⟨Q,D⟩|⟨rfl,i,A,h⟩)
    .exact⟨V7,D⟩
    .exact⟨V7,i,A,h⟩
   .rintro⟨Q,D⟩;by_cases e:v=k
    .subst e;obtain⟨i,A,h⟩:=D;exact .inr ⟨rfl,i,A,h⟩
    .exact .inl ⟨V7,D⟩
  .unfold lX;dsimp only;rw[Q3,Q7];exact J) (λz E G=>by
  obtain⟨a,r⟩:=z;obtain⟨y,B,C⟩:=G;dsimp only at y;subst y;unfold lX uX;dsimp only;rw[Q0]) 1000 ((0:Int),List.replicate (Int.toNat (g.2.length:Int)) (0:Int)) ⟨rfl,V8,λv f=>⟨0,by
   rw[zAf,gK (by simpa using f)];simp,V7,λu=>V8⟩⟩ V7
 refine⟨r,J,B,λv f=> ?_⟩
 obtain⟨m,n,o,p⟩:=C v f;exact⟨m,n,o,λu=>by rw[p u];exact⟨λh=>h.2,λh=>⟨f,h⟩⟩⟩
def Rk (g:GR) (m:Nat):Prop:=∀i,m.testBit i=true->i<g.2.length
theorem Rk.lt {g:GR} (b:VG g) {m:Nat} (h:Rk g m):m<16777216:=by
 have a:=b.n24;refine zAv (Nat.lt_pow_two_of_testBit (n:=24) m λi d=> ?_) (zAg _);cases c:m.testBit i with
 |false=>rfl
 |true=>have:=h i c;omega
theorem ajg {m:Nat} (h:∀i,i<32->m.testBit i=false) (b:m<4294967296):m=0:=by
 refine zBj λi=> ?_;rw[Nat.zero_testBit];rcases zAr i 32 with q|q
 .exact h i q
 .cases a:m.testBit i with
  |false=>rfl
  |true=>have:=Hy b a;omega
theorem Vb {g:GR} (z:VG g) {r:aW} (y:LN g r) {t:Nat} (C:Rk g t) (n:∀v u,t.testBit v=true->t.testBit u=true->¬KE g v u) (F:Nat):∀(d s a b:Nat),s+d=32->b<4294967296->(∀i,i<s->b.testBit i=false)->(∀i,b.testBit i=true->t.testBit i=true)->d<a->
  bN (iJ F r (t:Int)) a (b:Int)=some true:=by
 have J:=z.n24;have p:t<4294967296:=by have:=C.lt z;omega
 intro d
 induction d using Nat.strongRecOn with
 | _ d ih =>
  intro s a b P B o c O;obtain⟨a,rfl⟩:∃f,a=f+1:=⟨a - 1,V7⟩
  show iJ F r (t:Int) (b:Int) (bN _ a)=_;unfold iJ kV;by_cases G:b=0
  .rw[Q0]
  obtain⟨k,l⟩:=FD G;have w:=C k (c k l.bit);have K:s<=k:=by
   rcases zAr k s with q|q
   .have:=l.bit;rw[o k q]at this;cases this
   .exact q
  obtain⟨m,L,h,j⟩:=y.at' k w;rw[Q3,bF (acK F B l),cR (by have:=y.len;omega),L,CW h p];have M:m &&& t=0:=by
   refine ajg (λi _=> ?_) (Py h);rw[Nat.testBit_and];cases H:m.testBit i with
   |false=>rfl
   |true=>
    cases I:t.testBit i with
    |false=>rfl
    |true=>exact absurd ((j i).1 H) (n k i (c k l.bit) I)
  rw[M,if_neg V8];obtain⟨N,D,E,x⟩:=PQ B l;rw[D];have A:k<32:=V7
  refine ih (32 - (k+1)) V7 (k+1) a N V7 E (λi n=> ?_) (λi n=> ?_) V7
  .rw[x];by_cases e:i=k
   .simp[e]
   .rw[l.low i V7];rfl
  .rw[x,zA4]at n;exact c i n.1
theorem KJ {g:GR} (a:VG g) {r:aW} (d:LN g r) {t:Nat} (c:Rk g t) (b:∀v u,t.testBit v=true->t.testBit u=true->¬KE g v u):i_ 1000 r (t:Int)=some true:=
 Vb a d c b 1000 32 0 1000 t V7 (by have:=c.lt a;omega) (λi b=>V7) (λi h=>h) V7
theorem SB {g:GR} (M:VG g) {r:aW} (T:LN g r) {W:Nat} (U:Rk g W) (F:Nat):∀(d s a b t:Nat),s+d=32->b<4294967296->t<4294967296->(∀i,i<s->b.testBit i=false)->(∀i,b.testBit i=true->W.testBit i=true)->(∀i,t.testBit i=true->W.testBit i=true)->(∀v u,t.testBit v=true->t.testBit u=true->¬KE g v u)->(W≠0->t≠0\/b=W)->d<a->
  ∃C:Nat,bN (cP F r) a ((b:Int),(t:Int))=some (C:Int)/\C<4294967296/\(∀i,C.testBit i=true->W.testBit i=true)/\(∀v u,C.testBit v=true->C.testBit u=true->¬KE g v u)/\(W≠0->C≠0):=by
 have aa:=M.n24;intro d
 induction d using Nat.strongRecOn with
 | _ d ih =>
  intro s a b t hs V c I w n j O hf;obtain⟨a,rfl⟩:∃f,a=f+1:=⟨a - 1,V7⟩
  have P:bN (cP F r) (a+1) ((b:Int),(t:Int))=cP F r ((b:Int),(t:Int)) (bN (cP F r) a):=rfl;rw[P];unfold cP kM iQ;dsimp only;by_cases S:b=0
  .rw[Q0];refine⟨t,rfl,c,n,j,λX=> ?_⟩
   rcases O X with h|h
   .exact h
   .exact absurd (h.symm.trans S) X
  obtain⟨k,D⟩:=FD S;have E:=w k D.bit;have G:=U k E;have ab:s<=k:=by
   rcases zAr k s with q|q
   .have:=D.bit;rw[I k q]at this;cases this
   .exact q
  obtain⟨m,hm,J,A⟩:=T.at' k G;obtain⟨L,Y,Q,R⟩:=PQ V D;have p:k<32:=V7
  have x:∀i,i<k+1->L.testBit i=false:=λi l=>by
   rw[R];by_cases e:i=k
   .simp[e]
   .rw[D.low i V7];rfl
  have z:∀i,L.testBit i=true->W.testBit i=true:=λi l=>by
   rw[R,zA4]at l;exact w i l.1
  rw[Q3,bF (acK F V D),cR (by have:=T.len;omega),hm,CW J c,Y];by_cases K:m &&& t=0
  .rw[K,if_pos (by rfl),Q7,L_ c p];have H:(t ||| 2^k).testBit k=true:=by rw[Nat.testBit_or,zAz];simp
   have y:∀u,t.testBit u=true->¬KE g k u:=λu o N=>by
    have:=congrArg (λq=>q.testBit u) K;simp only[Nat.testBit_and,Nat.zero_testBit,(A u).2 N,o]at this;cases this
   refine ih (32 - (k+1)) V7 (k+1) a L (t ||| 2^k) V7 Q (ags c (ID p)) x z (λi l=> ?_) (λv u B o=> ?_) (λ_=> .inl λe=>by rw[e]at H;simp at H) V7
   .rw[Nat.testBit_or,zAz,zAx,zA1]at l;rcases l with l|rfl
    .exact n i l
    .exact E
   .rw[Nat.testBit_or,zAz,zAx,zA1]at B o;rcases B with B|rfl
    .rcases o with o|rfl
     .exact j v u B o
     .exact λN=>y v B (M.back (U v (n v B)) N)
    .rcases o with o|rfl
     .exact y u o
     .rintro⟨i,l,he⟩;exact((M.node k G).links i l).2.1 he
  .rw[Q0];refine ih (32 - (k+1)) V7 (k+1) a L t V7 Q c x z n j (λ_=> .inl λe=> ?_) V7;rw[e]at K;exact K (Nat.and_zero m)
theorem Vt {g:GR} (hV:VG g) {r:aW} (hN:LN g r) {kind:Int} (hk1:1<=kind) (hk4:kind<=4) {e w:Nat} (he:Rk g e) (hw:w<4294967296):
  ∃t:Nat,d_ 1000 r kind (e:Int) (w:Int)=some (t:Int)/\(∀i,t.testBit i=true->e.testBit i=true)/\(e≠0->t≠0/\gU 1000 r kind (e:Int) (t:Int)=some true/\(kind<=2->∀v u,t.testBit v=true->t.testBit u=true->¬KE g v u)/\(kind=4->t=e)):=by
 have he24:=he.lt hV;have he32:e<4294967296:=by omega
 -- the wish
 obtain⟨W,hW,hW32,hWe,hW0,hWm⟩:∃W:Nat,d_ 1000 r kind (e:Int) (w:Int)=gJ 1000 r kind (e:Int) (W:Int)/\W<4294967296/\(∀i,W.testBit i=true->e.testBit i=true)/\(e≠0->W≠0)/\(e=0->W=0):=by
  unfold d_;rw[CW hw he32];by_cases h0:w &&& e=0
  .rw[h0,if_pos (show((0:Nat):Int)=0 from rfl)];by_cases hee:e=0
   .refine⟨0,by rw[hee];rfl,by omega,λi h=>by simp at h,λh=>absurd hee h,λ_=>rfl⟩
   .obtain⟨k,hk⟩:=FD hee;have hk32:=Hy he32 hk.bit;refine⟨2^k,by rw[afh he32 hk],ID hk32,λi h=> ?_,λ_=>Nat.ne_of_gt (Nat.pow_pos (by omega)),λh=>absurd h hee⟩
    rw[zAz,zA1]at h;rw[<-h];exact hk.bit
  .rw[if_neg (by omega)];refine⟨w &&& e,rfl,Py hw,λi h=> ?_,λ_=>h0,λh=>by rw[h];exact Nat.and_zero w⟩
   rw[Nat.testBit_and,zA4]at h;exact h.2
 have hWG:Rk g W:=λi hi=>he i (hWe i hi);have permits:∀(t:Nat),t≠0->t<4294967296->(∀i,t.testBit i=true->e.testBit i=true)->∀b,(if kind=1 then some (decide ((fF .u32 (t:Int) (wI .u32 ((t:Int) - 1)))=0))else if kind=2 then(Option.bind (i_ 1000 r (t:Int)) λr7=>some r7)else if kind=4 then some (decide ((t:Int)=(e:Int)))else some true)=some b->gU 1000 r kind (e:Int) (t:Int)=some b:=by
  intro t h0 h32 hsub b hb;unfold gU mT;have hd:Ch t e=0:=by
   refine zBj λi=> ?_;rw[Og h32 he32,Nat.zero_testBit];cases h1:t.testBit i with
   |false=>rfl
   |true=>rw[hsub i h1];rfl
  rw[if_neg (by omega),LZ,hd,if_neg (by simp)];exact hb
 rw[hW];unfold gJ;by_cases k1:kind=1
 .rw[if_pos k1];by_cases hw0:W=0
  .refine⟨0,by rw[hw0];rfl,λi h=>by simp at h,λh=>absurd hw0 (hW0 h)⟩
  .obtain⟨k,hk⟩:=FD hw0;have hk32:=Hy hW32 hk.bit;have hL:KG (2^k) k:=⟨by rw[zAz];simp,λj hj=>by rw[zAz];exact zA8 (by omega)⟩
   refine⟨2^k,by rw[afh hW32 hk],λi h=> ?_,λhee=>⟨Nat.ne_of_gt (Nat.pow_pos (by omega)),?_,λ_ v u hv hu hadj=> ?_,λh=>by omega⟩⟩
   .rw[zAz,zA1]at h;rw[<-h];exact hWe k hk.bit
   .refine permits _ (Nat.ne_of_gt (Nat.pow_pos (by omega))) (ID hk32) (λi h=> ?_) true ?_
    .rw[zAz,zA1]at h;rw[<-h];exact hWe k hk.bit
    .obtain⟨m',e1,e2,e3⟩:=PQ (ID hk32) hL;rw[if_pos k1,e1];have:m'=0:=zBj λi=>by
      rw[e3,zAz,Nat.zero_testBit];by_cases q:k=i
      .simp[q]
      .simp[q]
     rw[this];rfl
   .rw[zAz,zA1]at hv hu;subst hv;subst hu;obtain⟨i,hi,he⟩:=hadj;exact((hV.node k (hWG k hk.bit)).links i hi).2.1 he
 rw[if_neg k1];by_cases k2:kind=2
 .rw[if_pos k2];obtain⟨t,h1,h2,h3,h4,h5⟩:=SB hV hN hWG 1000 32 0 1000 W 0 (by omega) hW32 (by omega) (λi hi=>by omega) (λi h=>h) (λi h=>by simp at h) (λv u h=>by simp at h) (λ_=> .inr Z) (by omega);refine⟨t,h1,λi h=>hWe i (h3 i h),λhee=>⟨h5 (hW0 hee),?_,λ_=>h4,λh=>by omega⟩⟩
  refine permits t (h5 (hW0 hee)) h2 (λi h=>hWe i (h3 i h)) true ?_;rw[if_neg k1,if_pos k2,bF (KJ hV hN (λi h=>hWG i (h3 i h)) h4)]
 rw[if_neg k2];by_cases k4:kind=4
 .rw[if_pos k4];refine⟨e,rfl,λi h=>h,λhee=>⟨hee,permits e hee he32 (λi h=>h) true ?_,λh=>by omega,λ_=>rfl⟩⟩
  rw[if_neg k1,if_neg k2,if_pos k4];simp
 .rw[if_neg k4];refine⟨W,rfl,hWe,λhee=>⟨hW0 hee,permits W (hW0 hee) hW32 hWe true ?_,λh=>by omega,λh=>absurd h k4⟩⟩
  rw[if_neg k1,if_neg k2,if_neg k4]
end Go.Proofs.YtgciopekomcbfaaGreatDoor