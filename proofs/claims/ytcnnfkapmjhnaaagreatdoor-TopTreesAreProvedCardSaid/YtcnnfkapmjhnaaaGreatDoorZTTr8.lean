/- Models and proofs. Conditions: none. -/
import Derived.Test.YtcnnfkapmjhnaaaGreatDoorZTTr7
import Derived.Test.YtcnnfkapmjhnaaaGreatDoorZTTr2
import Derived.Test.YtcnnfkapmjhnaaaGreatDoorZTTr5
set_option linter.unusedVariables false
set_option linter.unusedSimpArgs false
set_option maxHeartbeats 4000000
set_option maxRecDepth 20000
namespace Go.Proofs.YtcnnfkapmjhnaaaGreatDoor
open Go Go.Sx Go.Gx
set_option maxRecDepth 100000
abbrev wN:=ByteArray×(Value×cC)×(Value×List (Int×(Value×cC)))
def uF (z:wN):cC×List (Int×cC):=(z.2.1.2,z.2.2.2.map λs=>(s.1,s.2.2))
def Hy:ByteArray:=(ByteArray.mk #[112,114,111,103,114,97,109,32,98,102,115,59,10,118,97,114,32,100,32,58,32,48,32,46,46,32,110,59,10,118,97,114,32,112,32,58,32,112,111,114,116,59,10,114,117,108,101,32,116,111,112,58,32,114,111,111,116,32,38,38,32,40,100,32,33,61,32,48,32,124,124,32,112,32,33,61,32,110,111,110,101,41,32,45,62,32,100,32,58,61,32,48,44,32,112,32,58,61,32,110,111,110,101,59,10,114,117,108,101,32,108,111,119,58,32,33,114,111,111,116,32,38,38,32,40,100,32,33,61,32,40,109,105,110,40,113,46,100,41,32,60,32,110,32,63,32,109,105,110,40,113,46,100,41,32,43,32,49,32,58,32,110,41,32,124,124,32,112,32,33,61,32,102,105,114,115,116,40,113,46,100,32,61,61,32,109,105,110,40,113,46,100,41,41,41,10,32,32,45,62,32,100,32,58,61,32,40,109,105,110,40,113,46,100,41,32,60,32,110,32,63,32,109,105,110,40,113,46,100,41,32,43,32,49,32,58,32,110,41,44,32,112,32,58,61,32,102,105,114,115,116,40,113,46,100,32,61,61,32,109,105,110,40,113,46,100,41,41,59,10])
def JD:Hc:=[((ByteArray.mk #[100]),(1:Int),(0:Int),(0:Int),(1:Int),(0:Int)),((ByteArray.mk #[112]),(3:Int),(0:Int),(0:Int),(0:Int),(0:Int))]
def Gi:Nb:=[([(41,0),(10,0),(42,0),(36,0),(5,0),(1,0),(36,0),(5,1),(4,0)],[(0,[(1,0)]),(1,[(4,0)])]),([(41,0),(19,0),(10,0),(42,0),(36,0),(5,0),(43,0),(37,0),(24,0),(12,0),(6,0),(33,0),(24,0),(12,0),(1,1),(6,0),(36,0),(5,1),(23,0),(35,0),(12,0),(24,0),(12,0)],[(0,[(43,0),(37,0),(24,0),(12,0),(6,0),(33,0),(24,0),(12,0),(1,1),(6,0)]),(1,[(23,0),(35,0),(12,0),(24,0),(12,0)])])]
def aef:List ((Nat×Nat)×cC×List (Int×cC)):=[((7368564,3),[(41,0),(10,0),(42,0),(36,0),(5,0),(1,0),(36,0),(5,1),(4,0)],[(0,[(1,0)]),(1,[(4,0)])]),((7827308,3),[(41,0),(19,0),(10,0),(42,0),(36,0),(5,0),(43,0),(37,0),(24,0),(12,0),(6,0),(33,0),(24,0),(12,0),(1,1),(6,0),(36,0),(5,1),(23,0),(35,0),(12,0),(24,0),(12,0)],[(0,[(43,0),(37,0),(24,0),(12,0),(6,0),(33,0),(24,0),(12,0),(1,1),(6,0)]),(1,[(23,0),(35,0),(12,0),(24,0),(12,0)])])]
def Hz:ByteArray:=(ByteArray.mk #[112,114,111,103,114,97,109,32,112,97,116,104,115,59,10,118,97,114,32,100,32,58,32,48,32,46,46,32,49,53,32,42,32,110,59,10,118,97,114,32,112,32,58,32,112,111,114,116,59,10,114,117,108,101,32,116,111,112,58,32,114,111,111,116,32,38,38,32,40,100,32,33,61,32,48,32,124,124,32,112,32,33,61,32,110,111,110,101,41,32,45,62,32,100,32,58,61,32,48,44,32,112,32,58,61,32,110,111,110,101,59,10,114,117,108,101,32,108,111,119,58,32,33,114,111,111,116,32,38,38,32,40,100,32,33,61,32,40,109,105,110,40,113,46,100,32,43,32,113,46,119,101,105,103,104,116,41,32,60,32,49,53,32,42,32,110,32,63,32,109,105,110,40,113,46,100,32,43,32,113,46,119,101,105,103,104,116,41,32,58,32,49,53,32,42,32,110,41,32,124,124,32,112,32,33,61,32,102,105,114,115,116,40,113,46,100,32,43,32,113,46,119,101,105,103,104,116,32,61,61,32,109,105,110,40,113,46,100,32,43,32,113,46,119,101,105,103,104,116,41,41,41,10,32,32,45,62,32,100,32,58,61,32,40,109,105,110,40,113,46,100,32,43,32,113,46,119,101,105,103,104,116,41,32,60,32,49,53,32,42,32,110,32,63,32,109,105,110,40,113,46,100,32,43,32,113,46,119,101,105,103,104,116,41,32,58,32,49,53,32,42,32,110,41,44,32,112,32,58,61,32,102,105,114,115,116,40,113,46,100,32,43,32,113,46,119,101,105,103,104,116,32,61,61,32,109,105,110,40,113,46,100,32,43,32,113,46,119,101,105,103,104,116,41,41,59,10])
def JE:Hc:=[((ByteArray.mk #[100]),(1:Int),(0:Int),(0:Int),(15:Int),(0:Int)),((ByteArray.mk #[112]),(3:Int),(0:Int),(0:Int),(0:Int),(0:Int))]
def Gj:Nb:=[([(41,0),(10,0),(42,0),(36,0),(5,0),(1,0),(36,0),(5,1),(4,0)],[(0,[(1,0)]),(1,[(4,0)])]),([(41,0),(19,0),(10,0),(42,0),(36,0),(5,0),(43,0),(37,0),(24,0),(33,0),(12,0),(16,0),(30,0),(1,15),(6,0),(24,0),(33,0),(12,0),(16,0),(30,0),(1,15),(6,0),(36,0),(5,1),(23,0),(35,0),(33,0),(12,0),(16,0),(24,0),(33,0),(12,0),(16,0)],[(0,[(43,0),(37,0),(24,0),(33,0),(12,0),(16,0),(30,0),(1,15),(6,0),(24,0),(33,0),(12,0),(16,0),(30,0),(1,15),(6,0)]),(1,[(23,0),(35,0),(33,0),(12,0),(16,0),(24,0),(33,0),(12,0),(16,0)])])]
def aeg:List ((Nat×Nat)×cC×List (Int×cC)):=[((7368564,3),[(41,0),(10,0),(42,0),(36,0),(5,0),(1,0),(36,0),(5,1),(4,0)],[(0,[(1,0)]),(1,[(4,0)])]),((7827308,3),[(41,0),(19,0),(10,0),(42,0),(36,0),(5,0),(43,0),(37,0),(24,0),(33,0),(12,0),(16,0),(30,0),(1,15),(6,0),(24,0),(33,0),(12,0),(16,0),(30,0),(1,15),(6,0),(36,0),(5,1),(23,0),(35,0),(33,0),(12,0),(16,0),(24,0),(33,0),(12,0),(16,0)],[(0,[(43,0),(37,0),(24,0),(33,0),(12,0),(16,0),(30,0),(1,15),(6,0),(24,0),(33,0),(12,0),(16,0),(30,0),(1,15),(6,0)]),(1,[(23,0),(35,0),(33,0),(12,0),(16,0),(24,0),(33,0),(12,0),(16,0)])])]
def HA:ByteArray:=(ByteArray.mk #[112,114,111,103,114,97,109,32,119,105,100,101,115,116,59,10,118,97,114,32,120,32,58,32,48,32,46,46,32,49,54,32,42,32,110,59,10,118,97,114,32,112,32,58,32,112,111,114,116,59,10,114,117,108,101,32,116,111,112,58,32,114,111,111,116,32,38,38,32,40,120,32,33,61,32,48,32,124,124,32,112,32,33,61,32,110,111,110,101,41,32,45,62,32,120,32,58,61,32,48,44,32,112,32,58,61,32,110,111,110,101,59,10,114,117,108,101,32,108,111,119,58,32,33,114,111,111,116,32,38,38,32,40,120,32,33,61,32,40,109,105,110,40,113,46,120,32,43,32,49,32,62,32,113,46,119,101,105,103,104,116,32,42,32,110,32,63,32,113,46,120,32,43,32,49,32,58,32,113,46,119,101,105,103,104,116,32,42,32,110,41,32,60,32,49,54,32,42,32,110,32,63,32,109,105,110,40,113,46,120,32,43,32,49,32,62,32,113,46,119,101,105,103,104,116,32,42,32,110,32,63,32,113,46,120,32,43,32,49,32,58,32,113,46,119,101,105,103,104,116,32,42,32,110,41,32,58,32,49,54,32,42,32,110,41,32,124,124,32,112,32,33,61,32,102,105,114,115,116,40,40,113,46,120,32,43,32,49,32,62,32,113,46,119,101,105,103,104,116,32,42,32,110,32,63,32,113,46,120,32,43,32,49,32,58,32,113,46,119,101,105,103,104,116,32,42,32,110,41,32,61,61,32,109,105,110,40,113,46,120,32,43,32,49,32,62,32,113,46,119,101,105,103,104,116,32,42,32,110,32,63,32,113,46,120,32,43,32,49,32,58,32,113,46,119,101,105,103,104,116,32,42,32,110,41,41,41,10,32,32,45,62,32,120,32,58,61,32,40,109,105,110,40,113,46,120,32,43,32,49,32,62,32,113,46,119,101,105,103,104,116,32,42,32,110,32,63,32,113,46,120,32,43,32,49,32,58,32,113,46,119,101,105,103,104,116,32,42,32,110,41,32,60,32,49,54,32,42,32,110,32,63,32,109,105,110,40,113,46,120,32,43,32,49,32,62,32,113,46,119,101,105,103,104,116,32,42,32,110,32,63,32,113,46,120,32,43,32,49,32,58,32,113,46,119,101,105,103,104,116,32,42,32,110,41,32,58,32,49,54,32,42,32,110,41,44,32,112,32,58,61,32,102,105,114,115,116,40,40,113,46,120,32,43,32,49,32,62,32,113,46,119,101,105,103,104,116,32,42,32,110,32,63,32,113,46,120,32,43,32,49,32,58,32,113,46,119,101,105,103,104,116,32,42,32,110,41,32,61,61,32,109,105,110,40,113,46,120,32,43,32,49,32,62,32,113,46,119,101,105,103,104,116,32,42,32,110,32,63,32,113,46,120,32,43,32,49,32,58,32,113,46,119,101,105,103,104,116,32,42,32,110,41,41,59,10])
def JF:Hc:=[((ByteArray.mk #[120]),(1:Int),(0:Int),(0:Int),(16:Int),(0:Int)),((ByteArray.mk #[112]),(3:Int),(0:Int),(0:Int),(0:Int),(0:Int))]
def Gk:Nb:=[([(41,0),(10,0),(42,0),(36,0),(5,0),(1,0),(36,0),(5,1),(4,0)],[(0,[(1,0)]),(1,[(4,0)])]),([(41,0),(19,0),(10,0),(42,0),(36,0),(5,0),(43,0),(37,0),(24,0),(43,0),(39,0),(33,0),(12,0),(1,1),(30,0),(16,0),(6,0),(33,0),(12,0),(1,1),(30,0),(16,0),(6,0),(30,0),(1,16),(6,0),(24,0),(43,0),(39,0),(33,0),(12,0),(1,1),(30,0),(16,0),(6,0),(33,0),(12,0),(1,1),(30,0),(16,0),(6,0),(30,0),(1,16),(6,0),(36,0),(5,1),(23,0),(35,0),(43,0),(39,0),(33,0),(12,0),(1,1),(30,0),(16,0),(6,0),(33,0),(12,0),(1,1),(30,0),(16,0),(6,0),(24,0),(43,0),(39,0),(33,0),(12,0),(1,1),(30,0),(16,0),(6,0),(33,0),(12,0),(1,1),(30,0),(16,0),(6,0)],[(0,[(43,0),(37,0),(24,0),(43,0),(39,0),(33,0),(12,0),(1,1),(30,0),(16,0),(6,0),(33,0),(12,0),(1,1),(30,0),(16,0),(6,0),(30,0),(1,16),(6,0),(24,0),(43,0),(39,0),(33,0),(12,0),(1,1),(30,0),(16,0),(6,0),(33,0),(12,0),(1,1),(30,0),(16,0),(6,0),(30,0),(1,16),(6,0)]),(1,[(23,0),(35,0),(43,0),(39,0),(33,0),(12,0),(1,1),(30,0),(16,0),(6,0),(33,0),(12,0),(1,1),(30,0),(16,0),(6,0),(24,0),(43,0),(39,0),(33,0),(12,0),(1,1),(30,0),(16,0),(6,0),(33,0),(12,0),(1,1),(30,0),(16,0),(6,0)])])]
def aeh:List ((Nat×Nat)×cC×List (Int×cC)):=[((7368564,3),[(41,0),(10,0),(42,0),(36,0),(5,0),(1,0),(36,0),(5,1),(4,0)],[(0,[(1,0)]),(1,[(4,0)])]),((7827308,3),[(41,0),(19,0),(10,0),(42,0),(36,0),(5,0),(43,0),(37,0),(24,0),(43,0),(39,0),(33,0),(12,0),(1,1),(30,0),(16,0),(6,0),(33,0),(12,0),(1,1),(30,0),(16,0),(6,0),(30,0),(1,16),(6,0),(24,0),(43,0),(39,0),(33,0),(12,0),(1,1),(30,0),(16,0),(6,0),(33,0),(12,0),(1,1),(30,0),(16,0),(6,0),(30,0),(1,16),(6,0),(36,0),(5,1),(23,0),(35,0),(43,0),(39,0),(33,0),(12,0),(1,1),(30,0),(16,0),(6,0),(33,0),(12,0),(1,1),(30,0),(16,0),(6,0),(24,0),(43,0),(39,0),(33,0),(12,0),(1,1),(30,0),(16,0),(6,0),(33,0),(12,0),(1,1),(30,0),(16,0),(6,0)],[(0,[(43,0),(37,0),(24,0),(43,0),(39,0),(33,0),(12,0),(1,1),(30,0),(16,0),(6,0),(33,0),(12,0),(1,1),(30,0),(16,0),(6,0),(30,0),(1,16),(6,0),(24,0),(43,0),(39,0),(33,0),(12,0),(1,1),(30,0),(16,0),(6,0),(33,0),(12,0),(1,1),(30,0),(16,0),(6,0),(30,0),(1,16),(6,0)]),(1,[(23,0),(35,0),(43,0),(39,0),(33,0),(12,0),(1,1),(30,0),(16,0),(6,0),(33,0),(12,0),(1,1),(30,0),(16,0),(6,0),(24,0),(43,0),(39,0),(33,0),(12,0),(1,1),(30,0),(16,0),(6,0),(33,0),(12,0),(1,1),(30,0),(16,0),(6,0)])])]
def PF (V:Value):bF:=⟨λw S=>(Ln 3136 ZA mg1 V).p w S∨(Ln 4123 ZB mg2 V).p w S∨(Ln 8053 ZC mg3 V).p w S,λ{w w' S S'} h k=>by
 rcases h with h|h|h
 ·exact .inl ((Ln 3136 ZA mg1 V).mono h k)
 ·exact .inr (.inl ((Ln 4123 ZB mg2 V).mono h k))
 exact .inr (.inr (((Ln 8053 ZC mg3 V).mono h k)))⟩
noncomputable def Yi {R:Type} (D:Nb) (k:List wN->Option R):Option R:=open Classical in if h:∃r,∀z:List wN,z.map uF=D->k z=some r then some (Classical.choose h)else none
theorem yN {R:Type} {D:Nb} {k:List wN->Option R} {r:R} (h:Yi D k=some r) (z:List wN) (a:z.map uF=D):k z=some r:=by
 unfold Yi at h;split at h
 ·rename_i e;rw[<-Option.some.inj h];exact Classical.choose_spec e z a
 cases h
theorem OO {R:Type} {D:Nb} {k:List wN->Option R} {r:R} (h:∀z:List wN,z.map uF=D->k z=some r):Yi D k=some r:=by
 have e:∃r,∀z:List wN,z.map uF=D->k z=some r:=⟨r,h⟩
 unfold Yi;rw[dif_pos e];let z:List wN:=D.map λx=>(ByteArray.empty,(undef,x.1),(undef,x.2.map λs=>(s.1,(undef,s.2))))
 have c:z.map uF=D:=by
  show(D.map _).map uF=D;rw[List.map_map]
  conv=>rhs;rw[<-List.map_id D]
  refine List.map_congr_left λx _=>?_;obtain⟨a,b⟩:=x;simp[uF,Function.comp_def]
 rw[<-Classical.choose_spec e z c,h z c]
def jS (b:Nat) (a:ByteArray):Option Sw:=if a=Hy then some ((ByteArray.mk #[98,102,115]),JD,Gi)else if a=Hz then some ((ByteArray.mk #[112,97,116,104,115]),JE,Gj)else if a=HA then some ((ByteArray.mk #[119,105,100,101,115,116]),JF,Gk)else none
theorem Fj:aS Tryz.prog 7:=Tryz.call7
theorem KV:aS Tryz.prog 225:=Tryz.call225
theorem RO:EP Hy=(6706143830449764899556809608818904919804074884937111603718476495539622089622860971527792587791047894922729163212717263328395231852300855536488424978955807703755604513825873373095632290149847090083112304426652546340939400726262280257803792487332445892473582856512649637013408585975292850644760247287299230258062944610265801223788397479914840704983105145953743025358843726328641031619437354017789814719882883570583131354112070717477863523377784965938515931160728579383844655360852857429048595849656685311997067516701048769715945338084683118784715135226216982869351630641616464718832441949492048937096570154901286325463543707328254906190863546417377904,270):=by kernel_rfl
theorem ZR:EP (ByteArray.mk #[98,102,115])=(7562850,3):=by kernel_rfl
theorem aac:Kv (EV 3136 ZA) 6 (dP 1 Tz (dP 1 (dI .i64) (dP 1 (dI .i64) (dP 1 (dI .i64) (dP 1 (dI .i64) (dI .i64)))))) (.sl 1176 0 2 6)=some (JD.map λz=>(EP z.1,z.2.1,z.2.2.1,z.2.2.2.1,z.2.2.2.2.1,z.2.2.2.2.2)):=by kernel_rfl
theorem Xf:Kv (EV 3136 ZA) 3 (dP 1 Tz (dP 1 (dS (EV 3136 ZA) 2 (dP 1 (dI .i64) (dI .i64))) (dS (EV 3136 ZA) 2 (dP 1 (dI .i64) (dS (EV 3136 ZA) 2 (dP 1 (dI .i64) (dI .i64))))))) (.sl 2078 0 2 3)=some aef:=by kernel_rfl
theorem adm:aef.map (λy=>(y.2.1,y.2.2))=Gi:=by kernel_rfl
theorem ZV (r:Sw) (h:some ((ByteArray.mk #[98,102,115]),JD,Gi)=some r):aY Tryz.prog 7 #[vS Hy] [Gb 0 (cellsOf KJ AA)] (λx:Value×Value×{z:List wN // z.map uF=r.2.2}=>Value.agg #[vS r.1,x.1,x.2.1]) (λx l=>l) (λx l=>Sl aX x.1 r.2.1::Sl aM x.2.1 x.2.2.1::PF (Value.agg #[vS r.1,x.1,x.2.1])::l):=by
 cases h;refine Hw (gs:=gl) (LO:=λx:Value×Value×{z:List wN // z.map uF=Gi}=>[Sl aX x.1 JD,Sl aM x.2.1 x.2.2.1,PF (Value.agg #[vS (ByteArray.mk #[98,102,115]),x.1,x.2.1])]) Pu (λT b=>Jy Ad adX me1 Fj (.cons (HC (x:=Hy) (congrArg Prod.fst RO).symm (congrArg Prod.snd RO).symm) .nil) Z b) ?_;intro T b B w V a R g;have y:=g;obtain⟨f,rfl,c,_⟩:=g.agg_inv;obtain⟨C,f,rfl,m,c⟩:=c.of_cons;obtain⟨j,f,rfl,n,c⟩:=c.of_cons;obtain⟨k,rfl,o⟩:=c.one;obtain rfl:=Qa m ZR;obtain⟨A,v,s⟩:=AD R a (cN.pair cN.str (cN.pair (cN.int .i64) (cN.pair (cN.int .i64) (cN.pair (cN.int .i64) (cN.pair (cN.int .i64) (cN.int .i64)))))) n aac;have e:A=JD:=Ek (oP (λ_ _=>Ij) (oP yG (oP yG (oP yG (oP yG yG))))) v;subst e;obtain⟨i,u,t⟩:=AD (r:=aM) R a (cN.pair cN.str (cN.pair (cN.sl R a (cN.pair (cN.int .i64) (cN.int .i64))) (cN.sl R a (cN.pair (cN.int .i64) (cN.sl R a (cN.pair (cN.int .i64) (cN.int .i64))))))) o Xf;have d:i.map uF=Gi:=by
  rw[<-adm,<-u,List.map_map];refine List.map_congr_left λx _=>?_;simp[uF,Function.comp_def]
 exact⟨(j,k,⟨i,d⟩),rfl,zAl.2 ⟨s,zAl.2 ⟨t,zAl.2 ⟨.inl (⟨B,gF.hd R a,y⟩),λq p=>absurd p zB3⟩⟩⟩⟩
theorem aaJ:okV ZA (If Eo gp0 4000 225 [mg1] (EV 3136 ZA))=true:=by kernel_rfl
theorem RP:EP Hz=(3222175211652974106048073731038071863543907586192246358457587902648796479605096221856893043268603494806257050836547785518937630277882697504538271436108348460148934900085894655220976184448539217500813917468108204697280143962891325045441063345058170505747897181070834602880390694345613586660425046274996618461764283045216205786000572063324762922376957402988722627786839349095165529215534209845914684961789581653592488056588793383685189901301128531839266419674936833419044761411913452517205622837356392461552419139068448072598953628791666980712953679469411702628580736734266436509078359656694354888201840272335149216909410543541478450421819783651438906242679847770925134543377442908626351228468555653178215315066083453068731212132312070346951898373644650510674941336248410522914356908278677336036833719827938857954920099830164850980222156261235651383915879622401302299940660169641954619056055210868324143428208,377):=by kernel_rfl
theorem ZS:EP (ByteArray.mk #[112,97,116,104,115])=(495673696624,5):=by kernel_rfl
theorem aad:Kv (EV 4123 ZB) 6 (dP 1 Tz (dP 1 (dI .i64) (dP 1 (dI .i64) (dP 1 (dI .i64) (dP 1 (dI .i64) (dI .i64)))))) (.sl 1509 0 2 6)=some (JE.map λz=>(EP z.1,z.2.1,z.2.2.1,z.2.2.2.1,z.2.2.2.2.1,z.2.2.2.2.2)):=by kernel_rfl
theorem Xg:Kv (EV 4123 ZB) 3 (dP 1 Tz (dP 1 (dS (EV 4123 ZB) 2 (dP 1 (dI .i64) (dI .i64))) (dS (EV 4123 ZB) 2 (dP 1 (dI .i64) (dS (EV 4123 ZB) 2 (dP 1 (dI .i64) (dI .i64))))))) (.sl 2665 0 2 3)=some aeg:=by kernel_rfl
theorem adn:aeg.map (λy=>(y.2.1,y.2.2))=Gj:=by kernel_rfl
theorem ZW (r:Sw) (h:some ((ByteArray.mk #[112,97,116,104,115]),JE,Gj)=some r):aY Tryz.prog 7 #[vS Hz] [Gb 0 (cellsOf KJ AA)] (λx:Value×Value×{z:List wN // z.map uF=r.2.2}=>Value.agg #[vS r.1,x.1,x.2.1]) (λx l=>l) (λx l=>Sl aX x.1 r.2.1::Sl aM x.2.1 x.2.2.1::PF (Value.agg #[vS r.1,x.1,x.2.1])::l):=by
 cases h;refine Hw (gs:=gl) (LO:=λx:Value×Value×{z:List wN // z.map uF=Gj}=>[Sl aX x.1 JE,Sl aM x.2.1 x.2.2.1,PF (Value.agg #[vS (ByteArray.mk #[112,97,116,104,115]),x.1,x.2.1])]) Pu (λT b=>Jy Ad adY me2 Fj (.cons (HC (x:=Hz) (congrArg Prod.fst RP).symm (congrArg Prod.snd RP).symm) .nil) Z b) ?_;intro T b B w V a R g;have y:=g;obtain⟨f,rfl,c,_⟩:=g.agg_inv;obtain⟨C,f,rfl,m,c⟩:=c.of_cons;obtain⟨j,f,rfl,n,c⟩:=c.of_cons;obtain⟨k,rfl,o⟩:=c.one;obtain rfl:=Qa m ZS;obtain⟨A,v,s⟩:=AD R a (cN.pair cN.str (cN.pair (cN.int .i64) (cN.pair (cN.int .i64) (cN.pair (cN.int .i64) (cN.pair (cN.int .i64) (cN.int .i64)))))) n aad;have e:A=JE:=Ek (oP (λ_ _=>Ij) (oP yG (oP yG (oP yG (oP yG yG))))) v;subst e;obtain⟨i,u,t⟩:=AD (r:=aM) R a (cN.pair cN.str (cN.pair (cN.sl R a (cN.pair (cN.int .i64) (cN.int .i64))) (cN.sl R a (cN.pair (cN.int .i64) (cN.sl R a (cN.pair (cN.int .i64) (cN.int .i64))))))) o Xg;have d:i.map uF=Gj:=by
  rw[<-adn,<-u,List.map_map];refine List.map_congr_left λx _=>?_;simp[uF,Function.comp_def]
 exact⟨(j,k,⟨i,d⟩),rfl,zAl.2 ⟨s,zAl.2 ⟨t,zAl.2 ⟨.inr (.inl (⟨B,gF.hd R a,y⟩)),λq p=>absurd p zB3⟩⟩⟩⟩
theorem aaK:okV ZB (If Eo gp0 4000 225 [mg2] (EV 4123 ZB))=true:=by kernel_rfl
theorem RQ:EP HA=(2112028727472678671875394588253261716637598376284166205084665149659546415506205110427976155199292915031854375983970186441127628472396085504860052462678833835041004277310738364420351843311222331639164905013073586006552867104006437211296562945032770362420017031925239251251764513194096069373018704461359855439716639312768657529568141771188416469545601943510261772884239757181674058403364159791618756340212599836502067696923968062014780960472289026185138884677002673404981476439085960868366958181102248952216628756272249948081979597156805921852865363224391524861833515953881014479812814684034755119479886800587762445723908253153744840001701717080903187835102757323120056719835696673107386094094700847148129470491191865410375865239766470788412391872250549348340176813969448111690452462152215568090503184178252689646919195527592395048329263428298823138516319578807045171076012266681187872681089261869590069578539355003736436573011785917093067041655944717612971425325854469328567357178393832492526793845634639492216993131921857778872429573410590871714346729340385274921455895636437057251507558636261207478934169176071598094169791372992697924002483577535009978787490801333001811833356955665237999923386164787467386031648279055967610069550664573682522609480576770921228056713127079072643381651436439817482657630012964573154116116617963256691910326800544291166051269103400336324234823057439693507463736260823484689142506508584557173199163677761701310393575769950478625150380585713276180987333856047054466913087267726229875701261001106214582300616028345720164545136,646):=by kernel_rfl
theorem ZT:EP (ByteArray.mk #[119,105,100,101,115,116])=(128038971140471,6):=by kernel_rfl
theorem aae:Kv (EV 8053 ZC) 6 (dP 1 Tz (dP 1 (dI .i64) (dP 1 (dI .i64) (dP 1 (dI .i64) (dP 1 (dI .i64) (dI .i64)))))) (.sl 2633 0 2 6)=some (JF.map λz=>(EP z.1,z.2.1,z.2.2.1,z.2.2.2.1,z.2.2.2.2.1,z.2.2.2.2.2)):=by kernel_rfl
theorem Xh:Kv (EV 8053 ZC) 3 (dP 1 Tz (dP 1 (dS (EV 8053 ZC) 2 (dP 1 (dI .i64) (dI .i64))) (dS (EV 8053 ZC) 2 (dP 1 (dI .i64) (dS (EV 8053 ZC) 2 (dP 1 (dI .i64) (dI .i64))))))) (.sl 4835 0 2 3)=some aeh:=by kernel_rfl
theorem ado:aeh.map (λy=>(y.2.1,y.2.2))=Gk:=by kernel_rfl
theorem ZX (r:Sw) (h:some ((ByteArray.mk #[119,105,100,101,115,116]),JF,Gk)=some r):aY Tryz.prog 7 #[vS HA] [Gb 0 (cellsOf KJ AA)] (λx:Value×Value×{z:List wN // z.map uF=r.2.2}=>Value.agg #[vS r.1,x.1,x.2.1]) (λx l=>l) (λx l=>Sl aX x.1 r.2.1::Sl aM x.2.1 x.2.2.1::PF (Value.agg #[vS r.1,x.1,x.2.1])::l):=by
 cases h;refine Hw (gs:=gl) (LO:=λx:Value×Value×{z:List wN // z.map uF=Gk}=>[Sl aX x.1 JF,Sl aM x.2.1 x.2.2.1,PF (Value.agg #[vS (ByteArray.mk #[119,105,100,101,115,116]),x.1,x.2.1])]) Pu (λT b=>Jy Ad adZ me3 Fj (.cons (HC (x:=HA) (congrArg Prod.fst RQ).symm (congrArg Prod.snd RQ).symm) .nil) Z b) ?_;intro T b B w V a R g;have y:=g;obtain⟨f,rfl,c,_⟩:=g.agg_inv;obtain⟨C,f,rfl,m,c⟩:=c.of_cons;obtain⟨j,f,rfl,n,c⟩:=c.of_cons;obtain⟨k,rfl,o⟩:=c.one;obtain rfl:=Qa m ZT;obtain⟨A,v,s⟩:=AD R a (cN.pair cN.str (cN.pair (cN.int .i64) (cN.pair (cN.int .i64) (cN.pair (cN.int .i64) (cN.pair (cN.int .i64) (cN.int .i64)))))) n aae;have e:A=JF:=Ek (oP (λ_ _=>Ij) (oP yG (oP yG (oP yG (oP yG yG))))) v;subst e;obtain⟨i,u,t⟩:=AD (r:=aM) R a (cN.pair cN.str (cN.pair (cN.sl R a (cN.pair (cN.int .i64) (cN.int .i64))) (cN.sl R a (cN.pair (cN.int .i64) (cN.sl R a (cN.pair (cN.int .i64) (cN.int .i64))))))) o Xh;have d:i.map uF=Gk:=by
  rw[<-ado,<-u,List.map_map];refine List.map_congr_left λx _=>?_;simp[uF,Function.comp_def]
 exact⟨(j,k,⟨i,d⟩),rfl,zAl.2 ⟨s,zAl.2 ⟨t,zAl.2 ⟨.inr (.inr ((⟨B,gF.hd R a,y⟩))),λq p=>absurd p zB3⟩⟩⟩⟩
theorem aaL:okV ZC (If Eo gp0 4000 225 [mg3] (EV 8053 ZC))=true:=by kernel_rfl
theorem lB (a:Nat) {b:ByteArray} (r:Sw) (h:jS a b=some r):aY Tryz.prog 7 #[vS b] [Gb 0 (cellsOf KJ AA)] (λx:Value×Value×{z:List wN // z.map uF=r.2.2}=>Value.agg #[vS r.1,x.1,x.2.1]) (λx l=>l) (λx l=>Sl aX x.1 r.2.1::Sl aM x.2.1 x.2.2.1::PF (Value.agg #[vS r.1,x.1,x.2.1])::l):=by
 unfold jS at h;by_cases c:b=Hy
 ·subst c;exact ZV r ((if_pos Z).symm.trans h)
 rw[if_neg c]at h;by_cases d:b=Hz
 ·subst d;exact ZW r ((if_pos Z).symm.trans h)
 rw[if_neg d]at h;by_cases e:b=HA
 ·subst e;exact ZX r ((if_pos Z).symm.trans h)
 rw[if_neg e]at h;cases h
theorem ZY (f:Nat):jS f Hy=some ((ByteArray.mk #[98,102,115]),JD,Gi):=by
 unfold jS;exact if_pos Z
theorem ZZ (f:Nat):jS f Hz=some ((ByteArray.mk #[112,97,116,104,115]),JE,Gj):=by
 unfold jS;rw[if_neg (by decide +kernel)];exact if_pos Z
theorem Z_ (f:Nat):jS f HA=some ((ByteArray.mk #[119,105,100,101,115,116]),JF,Gk):=by
 unfold jS;rw[if_neg (by decide +kernel)];rw[if_neg (by decide +kernel)];exact if_pos Z
def Da (fuel:Nat) (a:ByteArray×List (ByteArray×Int×Int×Int×Int×Int)×List (wN)):Option Bool:=some true
theorem NA (a:Nat) {c:ByteArray×List (ByteArray×Int×Int×Int×Int×Int)×List (wN)} (o p:Value) (r:Bool) (h:Da a c=some r):
  aY Tryz.prog 225 #[Value.agg #[vS c.1,o,p]] [Sl aX o c.2.1,Sl aM p c.2.2,PF (Value.agg #[vS c.1,o,p])] (λx:Unit=>vB (r)) (λx l=>l) (λ_ l=>l):=by
 cases h;intro w S z;have s:Calls Tryz.prog 225 #[Value.agg #[vS c.1,o,p]] w λe t=>e = .returned (.bool true)∧OE w t:=by
  rcases z _ (zAv (i:=2) rfl)with n|n|n
  ·refine Js (fuel:=4000) afC KV ?_ n;obtain⟨d,b,f⟩:=MB aaJ;rw[Do (G:=gp0) Ad]at b;exact⟨d,b,f⟩
  ·refine Js (fuel:=4000) afC KV ?_ n;obtain⟨d,b,f⟩:=MB aaK;rw[Do (G:=gp0) Ad]at b;exact⟨d,b,f⟩
  refine Js (fuel:=4000) afC KV ?_ n;obtain⟨d,b,f⟩:=MB aaL;rw[Do (G:=gp0) Ad]at b;exact⟨d,b,f⟩
 refine s.mono ?_;rintro e t ⟨rfl,g⟩;exact⟨(),rfl,⟨g.os,g.tape,g.output,g.size,λk u _=>g.block k u⟩,λ_ _=>False,⟨λi m v=>by simp at v,λi k h=>h.elim,λi j k h=>h.elim⟩,λq y=>by simp at y⟩
end Go.Proofs.YtcnnfkapmjhnaaaGreatDoor
namespace Go.Proofs.YtcnnfkapmjhnaaaGreatDoor
open Go Go.Sx
abbrev aiH:=FP
abbrev PRG:=ByteArray×(List aiH)×(List wN)
abbrev GRF:=List Int×g_
abbrev SCN:=PRG×GRF×Int×bX
abbrev WLK:=SCN×bX×Int×cC
inductive E where
 |lf (o a:Int)
 |un (o:Int) (x:E)
 |ag (o:Int) (x:E)
 |bi (o:Int) (x y:E)
 |ite (x y z:E)
def E.ts:E->cC
 |lf o a=>[(o,a)]
 |un o x=>(o,0)::x.ts
 |ag o x=>(o,0)::x.ts
 |bi o x y=>(o,0)::(x.ts++y.ts)
 |ite x y z=>(43,0)::(x.ts++(y.ts++z.ts))
def E.depth:E->Nat
 |lf _ _=>1
 |un _ x=>x.depth+1
 |ag _ x=>x.depth+1
 |bi _ x y=>max x.depth y.depth+1
 |ite x y z=>max x.depth (max y.depth z.depth)+1
def E.arOk:E->Bool
 |lf o _=>decide (1<=o)&&decide (o<=17)
 |un o x=>decide (18<=o)&&decide (o<=19)&&x.arOk
 |ag o x=>decide (20<=o)&&decide (o<=29)&&x.arOk
 |bi o x y=>decide (30<=o)&&decide (o<=42)&&x.arOk&&y.arOk
 |ite x y z=>x.arOk&&y.arOk&&z.arOk
theorem OS {a:Type} [Inhabited a] {T pre rest:List a} {x:a} {k:Nat} (b:T=pre++x::rest) (c:pre.length=k):at' T (k:Int)=x:=by
 subst b;exact Wt pre rest x k c
theorem dL {k:Nat} (h:k<1000000):wI .i64 ((k:Int)+1)=((k+1:Nat):Int):=by rw[wr (by omega) (by omega)];rfl
theorem Yl (f:Nat) {o:Int} (a:1<=o) (b:o<=43):zT f o=some (if o<=17 then 0 else if o<=29 then 1 else if o<=42 then 2 else 3):=by
 unfold zT AO;rw[if_neg (by omega)];simp only[zA1];rw[if_neg (by omega)];split
 ·rfl
 ·split
  ·rfl
  ·split<;>rfl
theorem YN {F:Nat} {T c rest:cC} {t:eC} {k m a:Nat} {b:Nat} (d:T=c++t::rest) (g:c.length=k) (i:k<1000) (n:m<3000) (e:zT F t.1=some ((a:Nat):Int)) (f:a<=3) (j:m+a≠0):
  bH (mT F T) (b+1) ((k:Int),(m:Int))=if m+a=1 then some (((k+1:Nat):Int))else bH (mT F T) b (((k+1:Nat):Int),((m+a - 1:Nat):Int)):=by
 have l:k<T.length:=by rw[d];simp;omega
 show mT F T ((k:Int),(m:Int)) (bH (mT F T) b)=_;unfold mT;dsimp only;rw[if_pos (by omega),cK (by omega),OS d g,bB e,if_neg (by omega),wr (x:=((a:Nat):Int) - 1) (by omega) (by omega),wr (by omega) (by omega),dL (by omega)];by_cases h:m+a=1
 ·rw[if_pos h,if_pos (by omega)]
 ·rw[if_neg h,if_neg (by omega)];have:(m:Int)+((a:Int) - 1)=((m+a - 1:Nat):Int):=by omega
  rw[this]
theorem acz (F:Nat) (T:cC) (H:T.length<=900):∀(e:E),e.arOk=true->∀(c k m:Nat) (d b:cC),T=d++(e.ts++b)->d.length=k->1<=m->m+2*(e.ts++b).length<=1900->e.ts.length<=c->
  bH (mT F T) c ((k:Int),(m:Int))=if m=1 then some (((k+e.ts.length:Nat):Int))else bH (mT F T) (c - e.ts.length) (((k+e.ts.length:Nat):Int),((m - 1:Nat):Int)):=by
 have r:∀{t:eC} {l b d:cC} {c k m:Nat},T=d++((t::l)++b)->d.length=k->(t::l).length<=c->1<=t.1->t.1<=43->1<=m->m+2*((t::l)++b).length<=1900->∀a:Nat,(if t.1<=17 then 0 else if t.1<=29 then 1 else if t.1<=42 then 2 else 3:Int)=a->a<=3->∃f,c=f+1∧
   bH (mT F T) c ((k:Int),(m:Int))=if m+a=1 then some (((k+1:Nat):Int))else bH (mT F T) f (((k+1:Nat):Int),((m+a - 1:Nat):Int)):=by
  intro t l b d c k m n p q v w i j a I B;have A:=congrArg List.length n;simp only[zAi,zAj]at A j q;obtain⟨f,rfl⟩:∃f,c=f+1:=⟨c - 1,by omega⟩
  exact⟨f,rfl,YN (rest:=l++b) (by simpa using n) p (by omega) (by omega) (by rw[Yl F v w,I]) B (by omega)⟩
 intro e
 induction e with
 |lf o a=>
  intro g c k m d b n p i j q;simp only[E.arOk,zA4,zA1]at g;obtain⟨f,rfl,h⟩:=r (t:=(o,a)) (l:=[]) n p q (by dsimp only;omega) (by dsimp only;omega) i j 0 (by rw[if_pos (by dsimp only;omega)];rfl) (by omega);rw[h];rfl
 |un o x C=>
  intro g c k m d b n p i j q;simp only[E.arOk,zA4,zA1]at g;obtain⟨f,rfl,h⟩:=r (t:=(o,0)) (l:=x.ts) n p q (by dsimp only;omega) (by dsimp only;omega) i j 1 (by rw[if_neg (by dsimp only;omega),if_pos (by dsimp only;omega)];rfl) (by omega);simp only[E.ts,zAj]at q j ⊢;rw[h,if_neg (by omega)];have:=C g.2 f (k+1) m (d++[(o,0)]) b (by rw[n];simp[E.ts]) (by simp[p]) i (by simp at j ⊢;omega) (by omega);rw[show m+1 - 1=m by omega,this,show k+1+x.ts.length=k+(x.ts.length+1) by omega,show f+1 - (x.ts.length+1)=f - x.ts.length by omega]
 |ag o x C=>
  intro g c k m d b n p i j q;simp only[E.arOk,zA4,zA1]at g;obtain⟨f,rfl,h⟩:=r (t:=(o,0)) (l:=x.ts) n p q (by dsimp only;omega) (by dsimp only;omega) i j 1 (by rw[if_neg (by dsimp only;omega),if_pos (by dsimp only;omega)];rfl) (by omega);simp only[E.ts,zAj]at q j ⊢;rw[h,if_neg (by omega)];have:=C g.2 f (k+1) m (d++[(o,0)]) b (by rw[n];simp[E.ts]) (by simp[p]) i (by simp at j ⊢;omega) (by omega);rw[show m+1 - 1=m by omega,this,show k+1+x.ts.length=k+(x.ts.length+1) by omega,show f+1 - (x.ts.length+1)=f - x.ts.length by omega]
 |bi o x y s u=>
  intro g c k m d b n p i j q;simp only[E.arOk,zA4,zA1]at g;obtain⟨f,rfl,h⟩:=r (t:=(o,0)) (l:=x.ts++y.ts) n p q (by dsimp only;omega) (by dsimp only;omega) i j 2 (by rw[if_neg (by dsimp only;omega),if_neg (by dsimp only;omega),if_pos (by dsimp only;omega)];rfl) (by omega);simp only[E.ts,zAj,zAi]at q j ⊢;rw[h,if_neg (by omega)];have v:=s g.1.2 f (k+1) (m+1) (d++[(o,0)]) (y.ts++b) (by rw[n];simp[E.ts]) (by simp[p]) (by omega) (by simp at j ⊢;omega) (by omega);have w:=u g.2 (f - x.ts.length) (k+1+x.ts.length) m (d++((o,0)::x.ts)) b (by rw[n];simp[E.ts]) (by simp[p];omega) (by omega) (by simp at j ⊢;omega) (by omega);rw[show m+2 - 1=m+1 by omega,v,if_neg (by omega),show m+1 - 1=m by omega,w,show k+1+x.ts.length+y.ts.length=k+(x.ts.length+y.ts.length+1) by omega,show f+1 - (x.ts.length+y.ts.length+1)=f - x.ts.length - y.ts.length by omega]
 |ite x y z s u D=>
  intro g c k m d b n p i j q;simp only[E.arOk,zA4,zA1]at g;obtain⟨f,rfl,h⟩:=r (t:=(43,0)) (l:=x.ts++(y.ts++z.ts)) n p q (by decide) (by decide) i j 3 Z (by omega);simp only[E.ts,zAj,zAi]at q j ⊢;rw[h,if_neg (by omega)];have v:=s g.1.1 f (k+1) (m+2) (d++[(43,0)]) (y.ts++z.ts++b) (by rw[n];simp[E.ts]) (by simp[p]) (by omega) (by simp at j ⊢;omega) (by omega);have w:=u g.1.2 (f - x.ts.length) (k+1+x.ts.length) (m+1) (d++((43,0)::x.ts)) (z.ts++b) (by rw[n];simp[E.ts]) (by simp[p];omega) (by omega) (by simp at j ⊢;omega) (by omega);have G:=D g.2 (f - x.ts.length - y.ts.length) (k+1+x.ts.length+y.ts.length) m (d++((43,0)::(x.ts++y.ts))) b (by rw[n];simp[E.ts]) (by simp[p];omega) (by omega) (by simp at j ⊢;omega) (by omega);rw[show m+3 - 1=m+2 by omega,v,if_neg (by omega),show m+2 - 1=m+1 by omega,w,if_neg (by omega),show m+1 - 1=m by omega,G,show k+1+x.ts.length+y.ts.length+z.ts.length=k+(x.ts.length+(y.ts.length+z.ts.length)+1) by omega,show f+1 - (x.ts.length+(y.ts.length+z.ts.length)+1)=f - x.ts.length - y.ts.length - z.ts.length by omega]
theorem afs (F:Nat) (e:E) (d:e.arOk=true) {T b a:cC} {k:Nat} (f:T=b++(e.ts++a)) (i:b.length=k) (j:T.length<=800) (h:e.ts.length<=F):Ej F T (k:Int)=some (((k+e.ts.length:Nat):Int)):=by
 have g:1<=e.ts.length:=by cases e<;>simp[E.ts]
 have c:=congrArg List.length f;simp only[zAi]at c;unfold Ej CR;rw[if_neg (by omega)];simp only[zA1];rw[if_neg (by omega)];have:=acz F T (by omega) e d F k 1 b a f i (by omega) (by simp;omega) h;rw[if_pos Z]at this;exact this
def sO (b:Bool):Int:=if b then 1 else 0
theorem xB (f:Nat) (b:Bool):jR f b=some (sO b):=by cases b<;>rfl
theorem Gp {a:Type} [Inhabited a] {l:List a} {k:Nat} (h:k<l.length):l.take (k+1)=l.take k++[at' l (k:Int)]:=by
 rw[List.take_add_one,zA0 h,lF,zA6,zA0 h];rfl
theorem lD {a:Type} [Inhabited a] {l:List a} {k:Nat} (h:k<l.length):at' l (k:Int)=l[k]:=by
 rw[lF,zA6,zA0 h];rfl
theorem Ro {p:Nat->Prop}:∀(n:Nat),p n->∃m,m<=n∧p m∧∀j,j<m->¬p j:=by
 intro n
 induction n using Nat.strongRecOn with
 | _ n ih =>
  intro h;by_cases d:∃m,m<n∧p m
  ·obtain⟨m,e,f⟩:=d;obtain⟨k,a,b,c⟩:=ih m e f;exact⟨k,by omega,b,c⟩
  ·exact⟨n,zAe n,h,λj g i=>d ⟨j,g,i⟩⟩
theorem Vz {g:Type} [DecidableEq g]:∀(c b:List g),c.Nodup->(∀x∈c,x∈b)->c.length<=b.length
 | [],b,_,_=>Nat.zero_le _
 |a::c,b,h,hs=>by
  have d:=hs a zA7;have h:=zB6.1 h;have:=Vz c (b.erase a) h.2 (λx f=>(List.mem_erase_of_ne (fun(e:x=a)=>h.1 (by rw[<-e];exact f))).2 (hs x (zAh _ f)));rw[List.length_erase_of_mem d]at this;have i:0<b.length:=List.length_pos_of_mem d;simp only[zAj];omega
def nz (x:Int):Bool:=decide (x≠0)
theorem YD (f:Nat) (l:aO) (h:l.length<f) (e:l.length<=1000):sJ f l=some ((l.countP nz:Nat):Int):=by
 unfold sJ;have:=fM (step:=tD l) (K:=some ((l.countP nz:Nat):Int)) l.length (λk=>(((l.take k).countP nz:Nat),(k:Int))) (λk b c=>by
  have d:(l.take k).countP nz<=k:=zB4 List.countP_le_length (by simp;omega);unfold tD wP;dsimp only;rw[if_pos (by omega),cK (by omega),Gp c,List.countP_append,dL (by omega),dL (by omega)];by_cases a:at' l (k:Int)=0
  ·rw[if_neg (by simpa using a)];simp[nz,a]
  ·rw[if_pos a];simp[nz,a]) (λb=>by
  unfold tD AE;dsimp only;rw[if_neg (by omega),List.take_length]) f h
 exact this
theorem Kg (f:Nat) (l:aO) (x:Int) (h:l.length<f) (t:l.length<=1000):tV f l x=some (decide (x∈l)):=by
 have q:∃i:Int,rT f l x=some i∧(0<=i↔x∈l):=by
  by_cases b:x∈l
  ·obtain⟨i,r,o⟩:=List.mem_iff_getElem.1 b;have a:∃i,i<l.length∧at' l (i:Int)=x∧∀j,j<i->at' l (j:Int)≠x:=by
    obtain⟨m,d,c,s⟩:=Ro (p:=λi=>at' l (i:Int)=x) i (by rw[lD r,o]);exact⟨m,by omega,c,s⟩
   obtain⟨i,r,d,c⟩:=a;refine⟨i,?_,iff_of_true (by omega) b⟩
   unfold rT;exact fM (step:=lA l x) (K:=some (i:Int)) i (λk=>(k:Int)) (λk n g=>by
    unfold lA;rw[if_pos (by omega),cK (by omega),if_neg (λe=>c k g e.symm),dL (by omega)]) (λn=>by
    unfold lA;rw[if_pos (by omega),cK (by omega),if_pos d.symm]) f (by omega)
  ·refine⟨-1,?_,iff_of_false (by omega) b⟩
   unfold rT;exact fM (step:=lA l x) (K:=some (-1)) l.length (λk=>(k:Int)) (λk n g=>by
    unfold lA;rw[if_pos (by omega),cK (by omega),if_neg (λe=>b (by rw[e,lD g];exact List.getElem_mem g)),dL (by omega)]) (λn=>by
    unfold lA xV;rw[if_neg (by omega)]) f h
 obtain⟨i,d,c⟩:=q;unfold tV;rw[bB d];by_cases b:x∈l
 ·rw[zA9 b,zA9 (c.2 b)]
 ·rw[zA8 b,zA8 (λe=>b (c.1 e))]
def iL (l:aO):Int:=match l.findIdx? nz with
 |some i=>(i:Int)
 |none=> -1
theorem AV {l:aO} {i:Nat} (a:i<l.length) (b:at' l (i:Int)≠0) (c:∀j,j<i->at' l (j:Int)=0):iL l=i:=by
 have:l.findIdx? nz=some i:=by
  rw[List.findIdx?_eq_some_iff_getElem];refine⟨a,by rw[<-lD a];simpa [nz]using b,λj d=> ?_⟩
  have:=c j d;rw[lD (by omega)]at this;simp[nz,this]
 unfold iL;rw[this]
theorem Fu {l:aO} (h:∀j,j<l.length->at' l (j:Int)=0):iL l = -1:=by
 have:l.findIdx? nz=none:=by
  rw[List.findIdx?_eq_none_iff];intro x b;obtain⟨i,a,rfl⟩:=List.mem_iff_getElem.1 b;have:=h i a;rw[lD a]at this;simp[nz,this]
 unfold iL;rw[this]
theorem YX (f:Nat) (l:aO) (h:l.length<f) (t:l.length<=1000):o_ f l (λq=>qR f q)=some (iL l):=by
 unfold o_;by_cases a:∃i,i<l.length∧at' l (i:Int)≠0
 ·obtain⟨i,s,o⟩:=a;obtain⟨m,r,n,b⟩:=Ro (p:=λi=>at' l (i:Int)≠0) i o;have b:∀j,j<m->at' l (j:Int)=0:=λj d=>Decidable.not_not.1 (b j d);rw[AV (by omega) n b];exact fM (step:=gV l _) (K:=some (m:Int)) m (λk=>(k:Int)) (λk c g=>by
   unfold gV qR;rw[if_pos (by omega),cK (by omega),bB Z,if_neg (by simp[b k g]),dL (by omega)]) (λc=>by
   unfold gV qR;rw[if_pos (by omega),cK (by omega),bB Z,if_pos (by simpa using n)]) f (by omega)
 ·have a:∀j,j<l.length->at' l (j:Int)=0:=λj d=>Decidable.not_not.1 λe=>a ⟨j,d,e⟩;rw[Fu a];exact fM (step:=gV l _) (K:=some (-1)) l.length (λk=>(k:Int)) (λk c g=>by
   unfold gV qR;rw[if_pos (by omega),cK (by omega),bB Z,if_neg (by simp[a k g]),dL (by omega)]) (λc=>by
   unfold gV rA;rw[if_neg (by omega)]) f h
def vN (l:aO):Int:=l.foldl min 1073741824
theorem afT (f:Nat) (l:aO) (h:l.length<f) (c:l.length<=1000):bH (vF l) f ((1073741824:Int),(0:Int))=some (vN l):=by
 exact fM (step:=vF l) (K:=some (vN l)) l.length (λk=>((l.take k).foldl min 1073741824,(k:Int))) (λk a b=>by
  unfold vF;dsimp only;rw[if_pos (by omega),cK (by omega),Gp b,List.foldl_append,dL (by omega)];rfl) (λa=>by
  unfold vF BB;dsimp only;rw[if_neg (by omega),List.take_length];rfl) f h
theorem CN {l:aO} {x:Int} (h:x∈l):vN l<=x:=by
 have c:∀(l:aO) (a:Int),l.foldl min a<=a∧∀x∈l,l.foldl min a<=x:=by
  intro l
  induction l with
  |nil=>intro a;exact⟨Int.le_refl a,λx b=>by cases b⟩
  |cons y l e=>
   intro a;obtain⟨f,d⟩:=e (min a y);refine⟨by simp only[List.foldl_cons];omega,λx b=> ?_⟩
   rcases zAk.1 b with rfl|b
   ·simp only[List.foldl_cons];omega
   ·exact d x b
 exact(c l _).2 x h
theorem Dx (l:aO):vN l=1073741824∨vN l∈l:=by
 have b:∀(l:aO) (a:Int),l.foldl min a=a∨l.foldl min a∈l:=by
  intro l
  induction l with
  |nil=>intro a;exact .inl Z
  | cons y l ih =>
   intro a;rcases ih (min a y)with h|h
   ·simp only[List.foldl_cons,h];rcases Int.le_total a y with q|q
    ·left;omega
    ·right;rw[show min a y=y by omega];exact zA7
   ·right;exact zAh _ h
 exact b l _
def Ru (l:aO):Nat->Nat->Nat
 |0,k=>k
 |f+1,k=>if((k:Nat):Int)∈l then Ru l f (k+1)else k
def TX (l:aO):Nat:=Ru l (l.length+1) 0
theorem Zz (l:aO):((TX l:Nat):Int)∉l∧(∀j,j<TX l->((j:Nat):Int)∈l)∧TX l<=l.length:=by
 have key:∀(f k:Nat),(∀j,j<k->((j:Nat):Int)∈l)->(∀j,j<Ru l f k->((j:Nat):Int)∈l)∧(Ru l f k=k+f∨((Ru l f k:Nat):Int)∉l):=by
  intro f
  induction f with
  |zero=>intro k h;exact⟨h,.inl Z⟩
  | succ f ih =>
   intro k h;by_cases hk:((k:Nat):Int)∈l
   ·have:=ih (k+1) (λj hj=>by
     rcases zAp j k with q|q
     ·exact h j q
     ·rw[show j=k by omega];exact hk)
    simp only[Ru,if_pos hk];exact⟨this.1,this.2.imp (λe=>by omega) id⟩
   ·simp only[Ru,if_neg hk];exact⟨h,.inr hk⟩
 have hle:∀m,(∀j,j<m->((j:Nat):Int)∈l)->m<=l.length:=λm h=>by
  have:=Vz ((List.range m).map λj=>((j:Nat):Int)) l (by
   rw[List.nodup_iff_pairwise_ne,List.pairwise_map];exact(List.nodup_iff_pairwise_ne.1 List.nodup_range).imp (λh e=>h (by omega))) (λx hx=>by
   obtain⟨j,hj,rfl⟩:=zAn.1 hx;exact h j (zAf.1 hj))
  simpa using this
 obtain⟨h1,h2⟩:=key (l.length+1) 0 (λj hj=>by omega);have h3:=hle _ h1;refine⟨?_,h1,h3⟩
 rcases h2 with h2|h2
 ·have:Ru l (l.length+1) 0<=l.length:=h3;omega
 ·exact h2
theorem afS (f:Nat) (l:aO) (h:l.length+2<f) (hl:l.length<=900):Cc f l=some ((TX l:Nat):Int):=by
 obtain⟨h1,h2,h3⟩:=Zz l;unfold Cc;exact fM (step:=AT f l) (K:=some ((TX l:Nat):Int)) (TX l) (λk=>(k:Int)) (λk ag hk=>by
  unfold AT;rw[bB (Kg f l (k:Int) (by omega) (by omega)),if_pos (by simpa using h2 k hk),dL (by omega)]) (λag=>by
  unfold AT CL;rw[bB (Kg f l _ (by omega) (by omega)),if_neg (by simpa using h1)]) f (by omega)
def adE (l:aO):Int:=l.foldl (λa x=>wI .i64 (a+x)) 0
theorem agj (f:Nat) (l:aO) (h:l.length<f) (c:l.length<=1000):bH (vG f l) f ((0:Int),(0:Int))=Ea f (adE l):=by
 refine(fM (step:=vG f l) l.length (λk=>(adE (l.take k),(k:Int))) (λk a b=> ?_) (λa=> ?_) f h).trans Z
 ·unfold vG;dsimp only;rw[if_pos (by omega),cK (by omega),dL (by omega),Gp b];unfold adE;rw[List.foldl_append];rfl
 ·unfold vG;dsimp only;rw[if_neg (by omega),List.take_length]
def Vn (o:Int) (l:aO):Int:=
 if o=20 then sO (l.all nz)else if o=21 then sO (l.any nz)else if o=22 then((l.countP nz:Nat):Int)else if o=23 then iL l else if o=24 then vN l else if o=26 then max (-1073741824) (min (adE l) 1073741824)else((TX l:Nat):Int)
theorem acG (f:Nat) (o:Int) (l:aO) (hf:40<=f) (hl:l.length<=24) (ho:o=20∨o=21∨o=22∨o=23∨o=24∨o=26∨o=27):CM f o l=some (Vn o l):=by
 have hc:=YD f l (by omega) (by omega);unfold CM;rcases ho with rfl|rfl|rfl|rfl|rfl|rfl|rfl
 ·rw[if_pos Z,bB hc,bB (xB f _),Vn,if_pos Z];have:(decide (((l.countP nz:Nat):Int)=(l.length:Int)))=l.all nz:=by
   rw[Bool.eq_iff_iff];simp[List.countP_eq_length,Int.ofNat_inj]
  rw[this]
 ·rw[if_neg (by decide),if_pos Z,bB hc,bB (xB f _),Vn,if_neg (by decide),if_pos Z];have:(decide ((0:Int)<((l.countP nz:Nat):Int)))=l.any nz:=by
   rw[Bool.eq_iff_iff,zA1,List.any_eq_true,show((0:Int)<((l.countP nz:Nat):Int))↔0<l.countP nz by omega,List.countP_pos_iff]
  rw[this]
 ·rw[if_neg (by decide),if_neg (by decide),if_pos Z,bB hc];rfl
 ·rw[if_neg (by decide),if_neg (by decide),if_neg (by decide),if_pos Z,bB (YX f l (by omega) (by omega))];rfl
 ·rw[if_neg (by decide),if_neg (by decide),if_neg (by decide),if_neg (by decide),if_pos Z,afT f l (by omega) (by omega)];rfl
 ·rw[if_neg (by decide),if_neg (by decide),if_neg (by decide),if_neg (by decide),if_neg (by decide),if_neg (by decide),if_pos Z,agj f l (by omega) (by omega)];rfl
 ·rw[if_neg (by decide),if_neg (by decide),if_neg (by decide),if_neg (by decide),if_neg (by decide),if_neg (by decide),if_neg (by decide),if_pos Z,bB (afS f l (by omega) (by omega))];rfl
end Go.Proofs.YtcnnfkapmjhnaaaGreatDoor
namespace Go.Proofs.YtcnnfkapmjhnaaaGreatDoor
open Go.Sx
def A_ (U:Nat) (a:b_):Option (Int):=
 ck (0<=(a.1.length:Int)) (some (wI .u32 ((CZ .u32 (1:Int) (a.1.length:Int)) - (1:Int))))
theorem abw:aS Tryz.prog 102:=Tryz.call102
theorem Sr (U:Nat) {a:b_} (b:Value)  (d:Value)  (f:jO) (r:Int) (h:A_ U a=some r):
  aY Tryz.prog 102 #[Value.agg #[b,d]] [Sl bP b a.1,S2 aV d f a.2] (λx:Unit=>vU (r)) (λx l=>l) (λ_ l=>l):=by
 refine aY.of Tryz.func102 Z Tryz.ntmps102 Z λc=>?_;refine aP<|aG (aI.box (cs:=[b,d]) Z Z) Z λg=>aC Z<|aJ<|aP<|bY Z<|cR 0 Z<|gS (aE.fact 0 Z) Z<|dQ h λe h=>aD (NL Z Z e) Z<|aD (qP Z Z) Z<|aC Z<|aJ<|aU ?_;cases h;exact sB Z
def xL  (a:aO):Option aO:=
 some (a)
def sR (c:Int×aO×aO) (b:(Int×aO×aO)->Option aO) (a:aO×aO):Option aO:=
 b ((wI .i64 (c.1+(1:Int))),a.1,a.2)
def sS (c:b_) (b:aO×aO) (e:(aO×aO)->Option aO) (a:Int×aO×aO) (d:(Int×aO×aO)->Option aO):Option aO:=
 if a.1<((at' c.2 (at' b.1 (0:Int))).length:Int)then(ck (0<=a.1∧a.1<((at' c.2 (at' b.1 (0:Int))).length:Int)) (ck (0<=((at' (at' c.2 (at' b.1 (0:Int))) a.1).1)∧((at' (at' c.2 (at' b.1 (0:Int))) a.1).1)<(a.2.2.length:Int)) (if(at' a.2.2 ((at' (at' c.2 (at' b.1 (0:Int))) a.1).1))<(0:Int)then(ck (0<=(at' b.1 (0:Int))∧(at' b.1 (0:Int))<(a.2.2.length:Int)) (ck (0<=((at' (at' c.2 (at' b.1 (0:Int))) a.1).1)∧((at' (at' c.2 (at' b.1 (0:Int))) a.1).1)<(a.2.2.length:Int)) (ck ((a.2.1.length:Int)+(List.length ([((at' (at' c.2 (at' b.1 (0:Int))) a.1).1)]):Int)<=1099511627) (sR a d ((a.2.1++([((at' (at' c.2 (at' b.1 (0:Int))) a.1).1)])),(List.set a.2.2 (Int.toNat ((at' (at' c.2 (at' b.1 (0:Int))) a.1).1)) (wI .i64 ((at' a.2.2 (at' b.1 (0:Int)))+(1:Int)))))))))else(sR a d (a.2.1,a.2.2)))))else(e (a.2.1,a.2.2))
def pP (U:Nat) (c:b_) (a:aO×aO) (b:(aO×aO)->Option aO):Option aO:=
 if(0:Int)<(a.1.length:Int)then(ck (0<=(0:Int)∧(0:Int)<(a.1.length:Int)) (ck (0<=(1:Int)∧(1:Int)<=(a.1.length:Int)) (ck (0<=(at' a.1 (0:Int))∧(at' a.1 (0:Int))<(c.2.length:Int)) (bH (sS c a b) U ((0:Int),(List.drop (Int.toNat (1:Int)) a.1),a.2)))))else(xL  (a.2))
def Bg (U:Nat) (c:b_) (a:Int) (b:aO):Option aO:=
 ck (0<=a∧a<(b.length:Int)) (bH (pP U c) U (([a]),(List.set b (Int.toNat a) (0:Int))))
def Bh (U:Nat) (c:b_) (d:Int) (a:lZ) (b:rZ->Option aO):Option aO:=
 if a.1<((List.replicate (Int.toNat (List.length c.2:Int)) (0:Int)).length:Int)then(ck (0<=a.1∧a.1<(a.2.length:Int)) (b ((wI .i64 (a.1+(1:Int))),(List.set a.2 (Int.toNat a.1) (-1:Int)))))else(Bg U c d (a.2))
def kR (U:Nat) (a:b_) (b:Int):Option aO:=
 ck (0<=(a.2.length:Int)∧(a.2.length:Int)<=1099511627) (bH (Bh U a b) U ((0:Int),(List.replicate (Int.toNat (a.2.length:Int)) (0:Int))))
theorem OY:aS Tryz.prog 172:=Tryz.call172
theorem Cm (U:Nat) {d:b_} {o:Int} (s:Value)  (t:Value)  (M:jO) (r:aO) (h:kR U d o=some r):
  aY Tryz.prog 172 #[Value.agg #[s,t],vI (o)] [Sl bP s d.1,S2 aV t M d.2] (λx:Value=>x) (λx l=>Ar cB x r::l) (λ_ l=>l):=by
 refine aY.of Tryz.func172 Z Tryz.ntmps172 Z λc=>?_;refine aP<|aG (aI.box (cs:=[s,t]) Z Z) Z λp=>aC Z<|aJ<|aP<|bY Z<|cR 0 Z<|aD (jW Z (aE.fact 1 Z) Z) Z<|dQ h λQ h=>aG (qO (e:=cB) (0:Int) Z Z Z Z Q Z Z Z) Z λk=>aC Z<|aJ<|aK<|eJ (λu=>Bg U d o u=some r) (λu N=>[(1,vI (o)),(2,vP p),(5,k)]) (λu N=>[Ar cB k u,bM p [s,t] 29]) ?_ ?_
 ·refine aP<|aA Z<|aD (fF Z (aT (aE.res 0 Z) cD) Z) Z<|aA Z<|aJ<|aR<|eO (Bh U d o) (λg w=>[(1,vI (o)),(2,vP p),(5,k),(16,vI ((List.replicate (Int.toNat (List.length d.2:Int)) (0:Int)).length:Int)),(17,vI (g.1))]) (λg w=>[Ar cB k g.2,bM p [s,t] 29]) ((0:Int),(List.replicate (Int.toNat (d.2.length:Int)) (0:Int))) () h SF (a_.refl _) ?_;intro R g w h;refine aP<|cO Z<|aJ<|aK ?_;refine dK h Z (λh=>?_) λh=>?_
  ·refine cG<|aK<|aR<|aP<|aA Z<|aC Z<|aJ<|aQ<|aA Z<|aA Z<|dQ h λF h=>aD (aZ Z Z (aT (aE.res 0 Z) cD) Z Z F) Z<|t_ 0 (-1:Int) F Z Z Z Z Z Z Z<|eV<|lU<|aQ<|cH Z<|aA Z<|aJ ?_;exact AS ((wI .i64 (g.1+(1:Int))),(List.set g.2 (Int.toNat g.1) (-1:Int))) () h SF Z
  refine fL ?_;exact iH (g.2) () h SF Z
 intro u N h;refine aP<|aA Z<|aA Z<|dQ h λO h=>aD (aZ Z Z (aT (aE.res 0 Z) cD) Z Z O) Z<|t_ 0 (0:Int) O Z Z Z Z Z Z Z<|aJ<|aP<|aA Z<|aG (cQ (e:=cB) ([o]) [(0,vI (o))] Z Z Z Z (rK (vI (o)) Z) Z Z Z) Z λT=>aC Z<|aJ<|aK<|eJ (λm=>xL  m=some r) (λm v=>[(5,k)]) (λm v=>[Ar cB k m]) ?_ ?_
 ·refine aR<|eO (B:=Value) (pP U d) (λa q=>[(2,vP p),(5,k),(7,q)]) (λa q=>[Ar cB q a.1,Ar cB k a.2,bM p [s,t] 29]) (([o]),(List.set u (Int.toNat o) (0:Int))) (T) h SF (a_.refl _) ?_;intro G a q h;refine aK<|aP<|aA Z<|aD (fF Z (aT (aE.res 0 Z) cD) Z) Z<|aD (Bp Z Z) Z<|aJ ?_;refine dK h Z (λh=>?_) λh=>?_
  ·refine cG<|aR<|aP<|aA Z<|dQ h λy h=>aD (aZ Z Z (aT (aE.res 0 Z) cD) Z Z y) Z<|aD (bV Z (aT (aE.res 0 Z) cD) Z Z Z cT y) Z<|aC Z<|aJ<|aP<|aA Z<|dQ h λH h=>aG (Qt 0 H Z Z Z Z Z Z) Z λK=>aC Z<|aJ<|aP<|bY Z<|cR 2 Z<|aA Z<|dQ h λi h=>aD (cV Z Z (aE.fact 1 Z) Z Z i) Z<|aD (cP Z (aE.fact 1 Z) Z Z i) Z<|aD (fF Z (zBd (aE.fact 1 Z) i.1 i.2) Z) Z<|aA Z<|aJ<|aR<|eO (B:=Value) (sS d a (bH (pP U d) G)) (λb j=>[(2,vP p),(5,k),(7,j),(8,vI (at' a.1 (0:Int))),(41,(at' M (at' a.1 (0:Int))).1),(42,vI ((at' d.2 (at' a.1 (0:Int))).length:Int)),(43,vI (b.1))]) (λb j=>[Ar cB j b.2.1,Ar cB k b.2.2,bM p [s,t] 29]) ((0:Int),(List.drop (Int.toNat (1:Int)) a.1),a.2) (K) h SF (a_.refl _) ?_;intro J b j h;refine aP<|cO Z<|aJ<|aK ?_;refine dK h Z (λh=>?_) λh=>?_
   ·refine cG<|aK<|El (B:=Value) (λf=>sR b (bH (sS d a (bH (pP U d) G)) J) f=some r) (λf n=>[(2,vP p),(5,k),(7,n),(8,vI (at' a.1 (0:Int))),(41,(at' M (at' a.1 (0:Int))).1),(42,vI ((at' d.2 (at' a.1 (0:Int))).length:Int)),(43,vI (b.1))]) (λf n=>[Ar cB n f.1,Ar cB k f.2,bM p [s,t] 29]) ?_ ?_
    ·refine aR<|aP<|dQ h λA h=>aD (aZ Z Z (zBd (aE.fact 1 Z) i.1 i.2) Z Z A) Z<|aD (eM (cs:=[vI ((at' (at' d.2 (at' a.1 (0:Int))) b.1).1),vI ((at' (at' d.2 (at' a.1 (0:Int))) b.1).2)]) Z (zBd (aE.fact 1 Z) i.1 i.2) bD Z Z Z Z A) Z<|aG (aI.alloc (cs:=Ni) Z Z) Z λP=>bK 0 (vs:=[vI ((at' (at' d.2 (at' a.1 (0:Int))) b.1).1),vI ((at' (at' d.2 (at' a.1 (0:Int))) b.1).2)]) Z Z Z Z Z Z<|aJ<|aP<|aA Z<|bY Z<|cR 0 Z<|dQ h λC h=>aD (aZ Z Z (aT (aE.res 2 Z) cD) Z Z C) Z<|aD (bV Z (aT (aE.res 2 Z) cD) Z Z Z cT C) Z<|cO Z<|aJ ?_;refine dK h Z (λh=>?_) λh=>?_
     ·refine aK ?_;refine JR.start [0,0,2,0,0,24,56,120,255,511] 8 mixedOrders (by decide +kernel) ?_;refine zBe (by exact rfl) ?_;refine bA Z<|dJ Z<|fG 0 Z<|bA Z<|bA Z<|dQ h λD h=>bG Z (a_.cons 2 Z .nil) .nil (aZ Z Z (aT (aE.res 0 Z) cD) Z Z D) aN.z<|bG Z (a_.cons 2 Z .nil) .nil (bV Z (aT (aE.res 0 Z) cD) Z Z Z cT D) aN.z<|gO Z (yE Z Z)<|bR 8 Z Z<|dQ h λE h=>aD (aZ Z Z (aT (aE.res 2 Z) cD) Z Z E) Z<|t_ 2 (wI .i64 ((at' b.2.2 (at' a.1 (0:Int)))+(1:Int))) E Z Z Z Z Z Z Z<|aJ<|aQ<|aA Z<|bY Z<|cR 0 Z<|aG (cQ (e:=cB) ([((at' (at' d.2 (at' a.1 (0:Int))) b.1).1)]) [(0,vI ((at' (at' d.2 (at' a.1 (0:Int))) b.1).1))] Z Z Z Z (rK (vI ((at' (at' d.2 (at' a.1 (0:Int))) b.1).1)) Z) Z Z Z) Z λS=>dQ h λI h=>aG (iV 2 cD Z Z Z (aT (aE.res 0 Z) cD) Z Z Z Z I Z) Z λL=>aC Z<|eV<|lU ?_;exact bW ((b.2.1++([((at' (at' d.2 (at' a.1 (0:Int))) b.1).1)])),(List.set b.2.2 (Int.toNat ((at' (at' d.2 (at' a.1 (0:Int))) b.1).1)) (wI .i64 ((at' b.2.2 (at' a.1 (0:Int)))+(1:Int))))) (L) h SF (a_.ix [2,3,4] Z Z) (aB.refl _ _)
     refine dD<|lU ?_;exact bW (b.2.1,b.2.2) (j) h SF (a_.ix [1,2,3] Z Z) (aB.refl _ _)
    intro f n h;unfold sR at h;refine aQ<|cH Z<|aA Z<|aJ ?_;exact AS ((wI .i64 (b.1+(1:Int))),f.1,f.2) (n) h SF Z
   refine sD<|fD<|fD<|yY<|lU ?_;exact AS (b.2.1,b.2.2) (j) h SF Z
  refine fL ?_;exact bW (a.2) () h SF (a_.ix [1] Z Z) (aB.refl _ _)
 intro m v h;unfold xL at h;refine aP<|aA Z<|aC Z<|aJ<|aU ?_;cases h;exact eR (k) Z Z (RV.tmp Z) (a_.refl _) aB.nil
def sH  (a:Unit):Option Bool:=
 some (true)
def lT (c:aO) (a:Int) (b:(Int)->Option Bool):Option Bool:=
 if a<(c.length:Int)then(ck (0<=a∧a<(c.length:Int)) (if(at' c a)<(0:Int)then(some (false))else(b (wI .i64 (a+(1:Int))))))else(sH  (()))
def cW (U:Nat) (a:b_):Option Bool:=
 Option.bind (fJ U ((a.1,a.2))) λb=>(if(!b)=true then(some (false))else(Option.bind (kR U ((a.1,a.2)) (0:Int)) λc=>(bH (lT c) U (0:Int))))
theorem LK:aS Tryz.prog 87:=Tryz.call87
theorem qH (U:Nat) {k:b_} (e:Value)  (f:Value)  (m:jO) (r:Bool) (h:cW U k=some r):
  aY Tryz.prog 87 #[Value.agg #[e,f]] [Sl bP e k.1,S2 aV f m k.2] (λx:Unit=>vB (r)) (λx l=>l) (λ_ l=>l):=by
 refine aY.of Tryz.func87 Z Tryz.ntmps87 Z λc=>?_;refine aP<|aG (aI.box (cs:=[e,f]) Z Z) Z λt=>aC Z<|aJ<|aK<|aP<|cA 0 Z<|dV h λp q h=>aG (zBb Jg (tI U e f m p q) Z (kA [0,1] Z)) Z λu=>aD (kB Z) Z<|aJ ?_;refine yW h Z (λ_ h=>?_) λ_ h=>?_
 ·refine aP<|aC Z<|aJ<|aU<|aH ?_;cases h;exact sB Z
 refine cG<|aK<|eJ (λi=>sH  i=some r) (λi n=>[]) (λi n=>[]) ?_ ?_
 ·refine aP<|cA 0 Z<|dV h λj s h=>aG (zBb OY (Cm U e f m j s) Z (kA [0,1] Z)) Z λg=>aD (fF Z (aT (aE.res 0 Z) cD) Z) Z<|aA Z<|aJ<|aR<|eO (lT j) (λa b=>[(9,g),(10,vI (j.length:Int)),(11,vI (a))]) (λa b=>[Ar cB g j]) (0:Int) () h SF (a_.ix [0] Z Z) ?_;intro o a b h;refine aP<|cO Z<|aJ<|aK ?_;refine dK h Z (λh=>?_) λh=>?_
  ·refine cG<|aK<|aR<|aP<|dQ h λd h=>aD (aZ Z Z (aT (aE.res 0 Z) cD) Z Z d) Z<|aD (bV Z (aT (aE.res 0 Z) cD) Z Z Z cT d) Z<|aC Z<|aJ<|aP<|aA Z<|cO Z<|aJ ?_;refine dK h Z (λh=>?_) λh=>?_
   ·refine aP<|aC Z<|aJ<|aU<|bN<|aH<|aH<|bN<|aH ?_;cases h;exact sB Z
   refine dD<|lU<|aQ<|cH Z<|aA Z<|aJ ?_;exact AS (wI .i64 (a+(1:Int))) () h SF Z
  refine fL ?_;exact bW () (()) h SF .nil (aB.refl _ _)
 intro i n h;unfold sH at h;refine aP<|aC Z<|aJ<|aU ?_;cases h;exact kY Z
def Du (U:Nat) (a:b_):Option Bool:=
 Option.bind (cW U ((a.1,a.2))) λb=>(some (b))
theorem UI:aS Tryz.prog 113:=Tryz.call113
theorem Oo (U:Nat) {d:b_} (a:Value)  (b:Value)  (e:jO) (r:Bool) (h:Du U d=some r):
  aY Tryz.prog 113 #[Value.agg #[a,b]] [Sl bP a d.1,S2 aV b e d.2] (λx:Unit=>vB (r)) (λx l=>l) (λ_ l=>l):=by
 refine aY.of Tryz.func113 Z Tryz.ntmps113 Z λc=>?_;refine aP<|aG (aI.box (cs:=[a,b]) Z Z) Z λi=>aC Z<|aJ<|aP<|cA 0 Z<|dV h λf g h=>aG (zBb LK (qH U a b e f g) Z (kA [0,1] Z)) Z λj=>aC Z<|aJ<|aU ?_;cases h;exact sB Z
def tR  (a:Int):Option (Int):=
 some (a)
def zI (c:aO) (a:eC) (b:gW->Option (Int)):Option (Int):=
 if a.2<(c.length:Int)then(ck (0<=a.2∧a.2<(c.length:Int)) (b ((max a.1 (at' c a.2)),(wI .i64 (a.2+(1:Int))))))else(tR  (a.1))
def oB (U:Nat) (a:aO):Option (Int):=
 bH (zI a) U ((-1:Int),(0:Int))
theorem abR:aS Tryz.prog 207:=Tryz.call207
theorem JK (U:Nat) {e:aO} (f:Value) (r:Int) (h:oB U e=some r):
  aY Tryz.prog 207 #[f] [Sl bP f e] (λx:Unit=>vI (r)) (λx l=>l) (λ_ l=>l):=by
 refine aY.of Tryz.func207 Z Tryz.ntmps207 Z λc=>?_;unfold oB at h;refine aP<|aC Z<|aJ<|aP<|aC Z<|aJ<|aK<|eJ (λb=>tR  b=some r) (λb g=>[(3,vI (b))]) (λb g=>[]) ?_ ?_
 ·refine aP<|aA Z<|gS (aE.fact 0 Z) Z<|aA Z<|aJ<|aR<|eO (zI e) (λa i=>[(3,vI (a.1)),(6,f),(7,vI (e.length:Int)),(8,vI (a.2))]) (λa i=>[]) ((-1:Int),(0:Int)) () h SF (a_.refl _) ?_;intro j a i h;refine aP<|cO Z<|aJ<|aK ?_;refine dK h Z (λh=>?_) λh=>?_
  ·refine cG<|aK<|aR<|aP<|dQ h λd h=>aD (aZ Z Z (aE.fact 0 Z) Z Z d) Z<|aD (bV Z (aE.fact 0 Z) Z Z Z cT d) Z<|aC Z<|aJ<|aQ<|aA Z<|aA Z<|aD (Ka Z Z) Z<|aC Z<|eV<|lU<|aQ<|cH Z<|aA Z<|aJ ?_;exact AS ((max a.1 (at' e a.2)),(wI .i64 (a.2+(1:Int)))) () h SF Z
  refine fL ?_;exact iH (a.1) () h SF Z
 intro b g h;unfold tR at h;refine aP<|aA Z<|aC Z<|aJ<|aU ?_;cases h;exact kY Z
def lN (U:Nat) (a:b_) (c:Int) (b:Bool):Option (Int):=
 if b=true then(some (-1:Int))else(Option.bind (kR U ((a.1,a.2)) c) λd=>(Option.bind (oB U d) λe=>(some (e))))
def mP (U:Nat) (a:b_) (b:Int):Option (Int):=
 Option.bind (cW U ((a.1,a.2))) λc=>(if(!c)=true then(lN U a b (true))else(if b<(0:Int)then(lN U a b (true))else(lN U a b (decide ((a.2.length:Int)<=b)))))
theorem abx:aS Tryz.prog 114:=Tryz.call114
theorem FJ (U:Nat) {f:b_} {g:Int} (b:Value)  (d:Value)  (m:jO) (r:Int) (h:mP U f g=some r):
  aY Tryz.prog 114 #[Value.agg #[b,d],vI (g)] [Sl bP b f.1,S2 aV d m f.2] (λx:Unit=>vI (r)) (λx l=>l) (λ_ l=>l):=by
 refine aY.of Tryz.func114 Z Tryz.ntmps114 Z λc=>?_;refine aP<|aG (aI.box (cs:=[b,d]) Z Z) Z λn=>aC Z<|aJ<|aK<|aK<|eJ (λe=>lN U f g e=some r) (λe o=>[(1,vI (g)),(2,vP n),(18,vB (e))]) (λe o=>[bM n [b,d] 29]) ?_ ?_
 ·refine aQ<|cA 0 Z<|dV h λi k h=>aG (zBb LK (qH U b d m i k) Z (kA [0,1] Z)) Z λu=>aD (kB Z) Z<|aA Z ?_;refine yX (by exact rfl) (by exact rfl) (λa=>?_) (λa=>?_)
  ·have h:=Kx a h;refine aL Z<|aL Z<|eK Z<|aA Z<|aL Z<|aL Z<|aL Z<|aL Z<|aL Z<|eK Z<|aJ ?_;exact iH (true) () h SF Z
  have h:=Ju a h;refine eG Z<|aW Z (GN Z Z) Z<|fY Z<|aA Z ?_;refine Eb h Z (λ_ h=>?_) λ_ h=>?_
  ·refine aL Z<|aL Z<|aL Z<|aL Z<|aL Z<|eK Z<|aJ ?_;exact iH (true) () h SF Z
  refine eG Z<|aW Z (eI Z Z Z Z Z) Z<|aW Z (d_ 0 Z Z Z Z Z) Z<|aW Z (jW Z (aE.fact 1 Z) Z) Z<|aW Z (Bo Z Z) Z<|fY Z<|aJ ?_;exact iH (decide ((f.2.length:Int)<=g)) () h SF Z
 intro e o h;refine yW h Z (λ_ h=>?_) λ_ h=>?_
 ·refine aP<|aC Z<|aJ<|aU<|aH ?_;cases h;exact sB Z
 refine cG<|aP<|cA 0 Z<|aA Z<|dV h λp s h=>aG (zBb OY (Cm U b d m p s) Z (kA [0,1] Z)) Z λv=>dV h λq j h=>aG (zBb abR (JK U v q j) Z (aB.cons (aT (aE.res 0 Z) cD) .nil)) Z λt=>aC Z<|aJ<|aU ?_;cases h;exact sB Z
def oM (U:Nat) (a:b_) (c:Int) (b:Bool):Option aO:=
 if b=true then(some ([]:aO))else(Option.bind (kR U ((a.1,a.2)) c) λd=>(some (d)))
def qE (U:Nat) (a:b_) (b:Int):Option aO:=
 Option.bind (fJ U ((a.1,a.2))) λc=>(if(!c)=true then(oM U a b (true))else(if b<(0:Int)then(oM U a b (true))else(oM U a b (decide ((a.2.length:Int)<=b)))))
theorem abz:aS Tryz.prog 137:=Tryz.call137
theorem IM (U:Nat) {f:b_} {g:Int} (b:Value)  (d:Value)  (j:jO) (r:aO) (h:qE U f g=some r):
  aY Tryz.prog 137 #[Value.agg #[b,d],vI (g)] [Sl bP b f.1,S2 aV d j f.2] (λx:Value=>x) (λx l=>Ar cB x r::l) (λ_ l=>l):=by
 refine aY.of Tryz.func137 Z Tryz.ntmps137 Z λc=>?_;refine aP<|aG (aI.box (cs:=[b,d]) Z Z) Z λk=>aC Z<|aJ<|aK<|aK<|eJ (λe=>oM U f g e=some r) (λe m=>[(1,vI (g)),(2,vP k),(18,vB (e))]) (λe m=>[bM k [b,d] 29]) ?_ ?_
 ·refine aQ<|cA 0 Z<|dV h λo i h=>aG (zBb Jg (tI U b d j o i) Z (kA [0,1] Z)) Z λq=>aD (kB Z) Z<|aA Z ?_;refine yX (by exact rfl) (by exact rfl) (λa=>?_) (λa=>?_)
  ·have h:=Kx a h;refine aL Z<|aL Z<|eK Z<|aA Z<|aL Z<|aL Z<|aL Z<|aL Z<|aL Z<|eK Z<|aJ ?_;exact iH (true) () h SF Z
  have h:=Ju a h;refine eG Z<|aW Z (GN Z Z) Z<|fY Z<|aA Z ?_;refine Eb h Z (λ_ h=>?_) λ_ h=>?_
  ·refine aL Z<|aL Z<|aL Z<|aL Z<|aL Z<|eK Z<|aJ ?_;exact iH (true) () h SF Z
  refine eG Z<|aW Z (eI Z Z Z Z Z) Z<|aW Z (d_ 0 Z Z Z Z Z) Z<|aW Z (jW Z (aE.fact 1 Z) Z) Z<|aW Z (Bo Z Z) Z<|fY Z<|aJ ?_;exact iH (decide ((f.2.length:Int)<=g)) () h SF Z
 intro e m h;refine yW h Z (λ_ h=>?_) λ_ h=>?_
 ·refine aP<|aC Z<|aJ<|aU<|aH<|jT (gK cB) ?_;cases h;exact eR (lE) Z Z (RV.tmp Z) (a_.ix [0] Z Z) aB.nil
 refine cG<|aP<|cA 0 Z<|aA Z<|dV h λn p h=>aG (zBb OY (Cm U b d j n p) Z (kA [0,1] Z)) Z λs=>aC Z<|aJ<|aU ?_;cases h;exact eR (s) Z Z (RV.tmp Z) (a_.ix [0] Z Z) aB.nil
def Bj  (a:Unit):Option Bool:=
 some (true)
def xU (c:aO) (d:aO) (a:Int) (b:(Int)->Option Bool):Option Bool:=
 if a<(c.length:Int)then(ck (0<=a∧a<(c.length:Int)) (ck (0<=a∧a<(d.length:Int)) (if(at' c a)≠(at' d a)then(some (false))else(b (wI .i64 (a+(1:Int)))))))else(Bj  (()))
def zS (U:Nat) (a:aO) (b:aO):Option Bool:=
 if(a.length:Int)≠(b.length:Int)then(some (false))else(bH (xU a b) U (0:Int))
theorem abF:aS Tryz.prog 147:=Tryz.call147
theorem MU (U:Nat) {f:aO} {g:aO} (i:Value)  (j:Value) (r:Bool) (h:zS U f g=some r):
  aY Tryz.prog 147 #[i,j] [Sl bP i f,Sl bP j g] (λx:Unit=>vB (r)) (λx l=>l) (λ_ l=>l):=by
 refine aY.of Tryz.func147 Z Tryz.ntmps147 Z λc=>?_;refine aP<|aC Z<|aJ<|aK<|aP<|aA Z<|gS (aE.fact 0 Z) Z<|aA Z<|gS (aE.fact 1 Z) Z<|pC Z<|aJ ?_;refine dK h Z (λh=>?_) λh=>?_
 ·refine aP<|aC Z<|aJ<|aU<|aH ?_;cases h;exact kY Z
 refine cG<|aK<|eJ (λd=>Bj  d=some r) (λd k=>[]) (λd k=>[]) ?_ ?_
 ·refine aP<|aA Z<|gS (aE.fact 0 Z) Z<|aA Z<|aJ<|aR<|eO (xU f g) (λe m=>[(0,i),(1,j),(12,vI (f.length:Int)),(13,vI (e))]) (λe m=>[]) (0:Int) () h SF (a_.refl _) ?_;intro n e m h;refine aP<|cO Z<|aJ<|aK ?_;refine dK h Z (λh=>?_) λh=>?_
  ·refine cG<|aK<|aR<|aP<|aA Z<|aC Z<|aJ<|aK ?_;refine JR.start [0,0,3,7,0,0,48,112,255] 8 mixedOrders (by decide +kernel) ?_;refine zBe (by exact rfl) ?_;refine bA Z<|bA Z<|dQ h λa h=>bG Z .nil (hZ 0 Z) (aZ Z Z (aE.fact 0 Z) Z Z a) aN.z<|bG Z .nil (hZ 0 Z) (bV Z (aE.fact 0 Z) Z Z Z cT a) aN.z<|bA Z<|bA Z<|dQ h λb h=>bG Z .nil (hZ 1 Z) (aZ Z Z (aE.fact 0 Z) Z Z b) aN.z<|bG Z .nil (hZ 1 Z) (bV Z (aE.fact 0 Z) Z Z Z cT b) aN.z<|bR 8 Z Z<|pC Z<|aJ ?_;refine dK h Z (λh=>?_) λh=>?_
   ·refine aP<|aC Z<|aJ<|aU<|bN<|aH<|aH<|bN<|aH ?_;cases h;exact kY Z
   refine dD<|lU<|aQ<|cH Z<|aA Z<|aJ ?_;exact AS (wI .i64 (e+(1:Int))) () h SF Z
  refine fL ?_;exact iH () (()) h SF Z
 intro d k h;unfold Bj at h;refine aP<|aC Z<|aJ<|aU ?_;cases h;exact kY Z
def AG (U:Nat) (b:eC) (a:aO) (c:Int):Option Bool:=
 ck (0<=b.1∧b.1<(a.length:Int)) (ck (0<=c∧c<(a.length:Int)) (some (decide ((at' a b.1)=(wI .i64 ((at' a c) - (1:Int)))))))
theorem abT:aS Tryz.prog 212:=Tryz.call212
theorem Nq (U:Nat) {d:eC} {g:aO} {i:Int} (a:Nat)  (j:Value)  (b:Nat) (r:Bool) (h:AG U d g i=some r):
  aY Tryz.prog 212 #[Value.agg #[vI (d.1),vI (d.2)],vP a,vP b] [bM a [j] 22,Sl bP j g,bM b [vI (i)] 3] (λx:Unit=>vB (r)) (λx l=>l) (λ_ l=>l):=by
 refine aY.of Tryz.func212 Z Tryz.ntmps212 Z λc=>?_;refine aP<|aG (aI.box (cs:=[vI (d.1),vI (d.2)]) Z Z) Z λk=>aC Z<|aJ<|aK ?_;refine JR.start [0,0,2,7,15,0,0,96,224,480,1023,2047] 10 mixedOrders (by decide +kernel) ?_;refine zBe (by exact rfl) ?_;refine bG Z .nil (hZ 0 Z) (cY Z (aE.fact 0 Z) Z Z Z) aN.z<|dJ Z<|fG 0 Z<|dQ h λe h=>bG Z .nil (hZ 1 Z) (aZ Z Z (aE.fact 0 Z) Z Z e) aN.z<|bG Z .nil (hZ 1 Z) (bV Z (aE.fact 0 Z) Z Z Z cT e) aN.z<|bG Z .nil (hZ 0 Z) (cY Z (aE.fact 0 Z) Z Z Z) aN.z<|bG Z .nil (hZ 2 Z) (cY Z (aE.fact 0 Z) Z Z Z) aN.z<|dQ h λf h=>bG Z .nil (hZ 1 Z) (aZ Z Z (aE.fact 0 Z) Z Z f) aN.z<|bG Z .nil (hZ 1 Z) (bV Z (aE.fact 0 Z) Z Z Z cT f) aN.z<|gO Z (qP Z Z)<|bR 10 Z Z<|bS Z<|aC Z<|aJ<|aU ?_;cases h;exact sB Z
def zD (U:Nat) (a:Int) (c:aO) (e:aO) (d:Int):Option Bool:=
 ck (0<=a∧a<(c.length:Int)) (Option.bind (zS U e ([(at' c a),d])) λb=>(some (b)))
def DW (U:Nat) (b:Int) (c:aO) (d:aO) (a:Unit):Option Bool:=
 zD U b c d (-1:Int)
def u_ (U:Nat) (d:b_) (b:Int) (e:aO) (g:aO) (a:Int) (c:(Int)->Option Bool):Option Bool:=
 if a<((at' d.2 b).length:Int)then(ck (0<=a∧a<((at' d.2 b).length:Int)) (Option.bind (AG U ((((at' (at' d.2 b) a).1),((at' (at' d.2 b) a).2))) e b) λf=>(if f=true then(zD U b e g (a))else(c (wI .i64 (a+(1:Int)))))))else(DW U b e g (()))
def AZ (U:Nat) (b:b_) (a:Int) (c:aO) (d:aO):Option Bool:=
 ck (0<=a∧a<(b.2.length:Int)) (bH (u_ U b a c d) U (0:Int))
theorem abA:aS Tryz.prog 138:=Tryz.call138
theorem Sp (U:Nat) {f:b_} {b:Int} {j:aO} {o:aO} (p:Value)  (q:Value)  (F:jO)  (n:Value)  (v:Value) (r:Bool) (h:AZ U f b j o=some r):
  aY Tryz.prog 138 #[Value.agg #[p,q],vI (b),n,v] [Sl bP p f.1,S2 aV q F f.2,Sl bP n j,Sl bP v o] (λx:Unit=>vB (r)) (λx l=>l) (λ_ l=>l):=by
 refine aY.of Tryz.func138 Z Tryz.ntmps138 Z λc=>?_;refine aP<|aG (aI.box (cs:=[p,q]) Z Z) Z λN=>aG (aI.box (cs:=[vI (b)]) Z Z) Z λk=>dH (Know.one ((aE.fact 2 Z))) λy=>?_;refine aG (aI.box (cs:=[n]) Z (by rw[kX y])) Z λm=>?_;refine aC Z<|aJ<|aP<|cA 2 Z<|cR 1 Z<|aD (gX (cs:=[.tmp 6,.tmp 5]) (vs:=[vP m,vP k]) Z) Z<|qN (A:=Int) (B:=Unit) (vs:=[Value.agg #[p,q],vI (b),Value.func (.func 212) #[] #[vP m,vP k]]) (λi=>zD U b j o i=some r) (λi w=>vI (i)) (λi w=>[bM m [n] 22,bM k [vI (b)] 3]) (λi w=>[Sl bP p f.1,S2 aV q F f.2,Sl bP n j,Sl bP v o]) (nT.fn (show aS Tryz.prog 140 from Tryz.call140) Z) Tryz.func140 Z Tryz.ntmps140 Z Z ?_ ?_
 ·refine aP<|aG (aI.box (cs:=[p,q]) Z Z) Z λH=>aC Z<|aJ<|aK<|eJ (λg=>DW U b j o g=some r) (λg s=>[]) (λg s=>[bM m [n] 22,bM k [vI (b)] 3]) ?_ ?_
  ·refine aP<|bY Z<|cR 0 Z<|aA Z<|dQ h λd h=>aD (cV Z Z (aE.fact 1 Z) Z Z d) Z<|aD (cP Z (aE.fact 1 Z) Z Z d) Z<|aD (fF Z (zBd (aE.fact 1 Z) d.1 d.2) Z) Z<|aA Z<|aJ<|aR<|eO (u_ U f b j o) (λa t=>[(2,Value.func (.func 212) #[] #[vP m,vP k]),(13,(at' F b).1),(14,vI ((at' f.2 b).length:Int)),(15,vI (a))]) (λa t=>[bM m [n] 22,bM k [vI (b)] 3]) (0:Int) () h SF (a_.ix [1,2] Z Z) ?_;intro J a t h;refine aP<|cO Z<|aJ<|aK ?_;refine dK h Z (λh=>?_) λh=>?_
   ·refine cG<|aK<|aR<|aP<|aA Z<|dQ h λu h=>aD (aZ Z Z (zBd (aE.fact 1 Z) d.1 d.2) Z Z u) Z<|aD (eM (cs:=[vI ((at' (at' f.2 b) a).1),vI ((at' (at' f.2 b) a).2)]) Z (zBd (aE.fact 1 Z) d.1 d.2) bD Z Z Z Z u) Z<|aG (aI.alloc (cs:=Ni) Z Z) Z λI=>aC Z<|bK 0 (vs:=[vI ((at' (at' f.2 b) a).1),vI ((at' (at' f.2 b) a).2)]) Z Z Z Z Z Z<|aJ<|aP<|aA Z<|cA 0 Z<|dV h λC E h=>aG (i_ (vs:=[Value.agg #[vI ((at' (at' f.2 b) a).1),vI ((at' (at' f.2 b) a).2)]]) (cs:=[vP m,vP k]) abT Z (Nq U m n k C E) Z (aB.cons (aE.res 1 Z) (aB.cons (aE.fact 2 Z) (aB.cons (aE.res 2 Z) .nil))) (λ_ _=>rfl)) Z λM=>aJ ?_;refine yW h Z (λ_ h=>?_) λ_ h=>?_
    ·refine aP<|aA Z<|aC Z<|aJ<|aU<|bN<|aH<|aH<|bN<|aH ?_;exact jV (a) () h (.inl Z) (Cu.r1 Z (RV.tmp Z)) Z (a_.ix [1,2] Z Z) (aB.refl _ _)
    refine dD<|lU<|aQ<|cH Z<|aA Z<|aJ ?_;exact kO (wI .i64 (a+(1:Int))) () h SF (a_.ix [1,2] Z Z) (aB.refl _ _)
   refine fL ?_;exact iH () (()) h SF Z
  intro g s h;unfold DW at h;refine aP<|aC Z<|aJ<|aU ?_;exact jV (-1:Int) () h (.inl Z) (Cu.r1 Z (RV.tmp Z)) Z (a_.refl _) (aB.refl _ _)
 intro i w h;refine aC Z<|aJ<|aP<|aA Z<|cR 0 Z<|cR 1 Z<|dQ h λG h=>aD (aZ Z Z (aE.fact 2 Z) Z Z G) Z<|aD (bV Z (aE.fact 2 Z) Z Z Z cT G) Z<|aA Z<|aG (cQ (e:=cB) ([(at' j b),i]) [(0,vI (at' j b)),(1,vI (i))] Z Z Z Z (Ft (vI (at' j b)) (vI (i)) Z Z) Z Z Z) Z λK=>dV h λz D h=>aG (zBb abF (MU U v K z D) Z (aB.cons (aE.fact 3 Z) (aB.cons (aT (aE.res 0 Z) cD) .nil))) Z λL=>aC Z<|aJ<|aU ?_;cases h;exact sB Z
def uE  (a:Unit):Option Bool:=
 some (true)
def mK (c:Int) (a:(Int)->Option Bool) (b:Unit):Option Bool:=
 a (wI .i64 (c+(1:Int)))
def iK (b:Int) (a:(Int)->Option Bool) (c:Bool):Option Bool:=
 if c=true then(some (false))else(a (wI .i64 (b+(1:Int))))
def iJ (e:bX) (d:Int) (a:Int) (b:(Int)->Option Bool) (c:eC):Option Bool:=
 if(at' (at' e d) a)<c.1 then(iK a b (true))else(iK a b (decide (c.2<(at' (at' e d) a))))
def dU (g:b_) (d:bX) (f:aO) (b:Int) (e:(Int)->Option Bool) (a:Int) (c:(Int)->Option Bool):Option Bool:=
 if a<((at' d b).length:Int)then(ck (0<=a∧a<((at' d b).length:Int)) (ck (0<=a∧a<(f.length:Int)) (if(at' f a)=(-1:Int)then(ck (0<=b∧b<(g.2.length:Int)) (iJ d b a c ((-1:Int),(wI .i64 (((at' g.2 b).length:Int) - (1:Int))))))else(iJ d b a c ((0:Int),(at' f a))))))else(mK b e (()))
def gJ (U:Nat) (e:b_) (b:bX) (d:aO) (a:Int) (c:(Int)->Option Bool):Option Bool:=
 if a<(b.length:Int)then(ck (0<=a∧a<(b.length:Int)) (if((at' b a).length:Int)≠(d.length:Int)then(some (false))else(bH (dU e b d a c) U (0:Int))))else(uE  (()))
def fI (U:Nat) (a:b_) (b:bX) (c:aO):Option Bool:=
 if(b.length:Int)≠(a.1.length:Int)then(some (false))else(bH (gJ U a b c) U (0:Int))
theorem OX:aS Tryz.prog 145:=Tryz.call145
theorem wM (U:Nat) {g:b_} {e:bX} {j:aO} (o:Value)  (p:Value)  (H:jO)  (q:Value)  (E:sY)  (s:Value) (r:Bool) (h:fI U g e j=some r):
  aY Tryz.prog 145 #[Value.agg #[o,p],q,s] [Sl bP o g.1,S2 aV p H g.2,S2 bP q E e,Sl bP s j] (λx:Unit=>vB (r)) (λx l=>l) (λ_ l=>l):=by
 refine aY.of Tryz.func145 Z Tryz.ntmps145 Z λc=>?_;refine aP<|aG (aI.box (cs:=[o,p]) Z Z) Z λk=>aC Z<|aJ<|aK<|aP<|aA Z<|aD (jW Z (aE.fact 2 Z) Z) Z<|bY Z<|cR 0 Z<|gS (aE.fact 0 Z) Z<|pC Z<|aJ ?_;refine dK h Z (λh=>?_) λh=>?_
 ·refine aP<|aC Z<|aJ<|aU<|aH ?_;cases h;exact sB Z
 refine cG<|aK<|eJ (λC=>uE  C=some r) (λC F=>[]) (λC F=>[]) ?_ ?_
 ·refine aP<|aA Z<|aD (jW Z (aE.fact 2 Z) Z) Z<|aA Z<|aJ<|aR<|eO (gJ U g e j) (λa G=>[(2,s),(3,vP k),(19,q),(20,vI (e.length:Int)),(21,vI (a))]) (λa G=>[bM k [o,p] 29]) (0:Int) () h SF (a_.refl _) ?_;intro D a G h;refine aP<|cO Z<|aJ<|aK ?_;refine dK h Z (λh=>?_) λh=>?_
  ·refine cG<|aK<|eJ (λm=>mK a (bH (gJ U g e j) D) m=some r) (λm t=>[(2,s),(3,vP k),(19,q),(20,vI (e.length:Int)),(21,vI (a))]) (λm t=>[bM k [o,p] 29]) ?_ ?_
   ·refine aR<|aP<|aA Z<|dQ h λd h=>aD (cV Z Z (aE.fact 2 Z) Z Z d) Z<|aD (cP Z (aE.fact 2 Z) Z Z d) Z<|aC Z<|aC Z<|aJ<|aK<|aP<|aA Z<|aD (fF Z (zBd (aE.fact 2 Z) d.1 d.2) Z) Z<|aA Z<|gS (aE.fact 3 Z) Z<|pC Z<|aJ ?_;refine dK h Z (λh=>?_) λh=>?_
    ·refine aP<|aC Z<|aJ<|aU<|aH<|bN<|aH<|aH<|bN<|aH ?_;cases h;exact sB Z
    refine cG<|aP<|aA Z<|aD (fF Z (zBd (aE.fact 2 Z) d.1 d.2) Z) Z<|aA Z<|aJ<|aR<|eO (dU g e j a (bH (gJ U g e j) D)) (λb u=>[(2,s),(3,vP k),(7,vI (a)),(19,q),(20,vI (e.length:Int)),(21,vI (a)),(31,(at' E a).1),(32,vI ((at' e a).length:Int)),(33,vI (b))]) (λb u=>[bM k [o,p] 29]) (0:Int) () h SF (a_.refl _) ?_;intro B b u h;refine aP<|cO Z<|aJ<|aK ?_;refine dK h Z (λh=>?_) λh=>?_
    ·refine cG<|aK<|aR<|aP<|aA Z<|dQ h λy h=>aD (aZ Z Z (zBd (aE.fact 2 Z) d.1 d.2) Z Z y) Z<|aD (bV Z (zBd (aE.fact 2 Z) d.1 d.2) Z Z Z cT y) Z<|aC Z<|aC Z<|aJ<|aK ?_;refine JR.start [0,0,3,7,0,31] 5 mixedOrders (by decide +kernel) ?_;refine zBe (by exact rfl) ?_;refine bA Z<|bA Z<|dQ h λA h=>bG Z .nil (hZ 3 Z) (aZ Z Z (aE.fact 0 Z) Z Z A) aN.z<|bG Z .nil (hZ 3 Z) (bV Z (aE.fact 0 Z) Z Z Z cT A) aN.z<|gO Z (wO Z)<|bR 5 Z Z<|aC Z<|aJ<|aK<|eJ (λf=>iJ e a b (bH (dU g e j a (bH (gJ U g e j) D)) B) f=some r) (λf v=>[(2,s),(3,vP k),(7,vI (a)),(10,vI (at' (at' e a) b)),(11,vI (f.1)),(12,vI (f.2)),(19,q),(20,vI (e.length:Int)),(21,vI (a)),(31,(at' E a).1),(32,vI ((at' e a).length:Int)),(33,vI (b))]) (λf v=>[bM k [o,p] 29]) ?_ ?_
     ·refine aP<|aA Z<|bS Z<|aJ ?_;refine dK h Z (λh=>?_) λh=>?_
      ·refine JR.start [0,1,0,7,15,31,63,0,255] 8 mixedOrders (by decide +kernel) ?_;refine zBe (by exact rfl) ?_;refine dJ Z<|fG 0 Z<|bA Z<|dQ h λn h=>bG Z .nil (hZ 1 Z) (cV Z Z (aE.fact 0 Z) Z Z n) aN.z<|bG Z .nil (hZ 1 Z) (cP Z (aE.fact 0 Z) Z Z n) aN.z<|bG Z .nil (hZ 1 Z) (fF Z (zBd (aE.fact 0 Z) n.1 n.2) Z) aN.z<|gO Z (qP Z Z)<|gO Z (wO Z)<|bR 8 Z Z<|aC Z<|aJ ?_;exact iH ((-1:Int),(wI .i64 (((at' g.2 a).length:Int) - (1:Int)))) () h SF Z
      refine cG ?_;exact iH ((0:Int),(at' j b)) () h SF Z
     intro f v h;refine aK<|eJ (λi=>iK b (bH (dU g e j a (bH (gJ U g e j) D)) B) i=some r) (λi w=>[(2,s),(3,vP k),(7,vI (a)),(19,q),(20,vI (e.length:Int)),(21,vI (a)),(31,(at' E a).1),(32,vI ((at' e a).length:Int)),(33,vI (b)),(58,vB (i))]) (λi w=>[bM k [o,p] 29]) ?_ ?_
     ·refine aQ<|aA Z<|aA Z<|cO Z<|aA Z ?_;refine Eb h Z (λ_ h=>?_) λ_ h=>?_
      ·refine aL Z<|aL Z<|aL Z<|eK Z<|aJ ?_;exact iH (true) () h SF Z
      refine eG Z<|eG Z<|aW Z (Bp Z Z) Z<|fY Z<|aJ ?_;exact iH (decide (f.2<(at' (at' e a) b))) () h SF Z
     intro i w h;refine yW h Z (λ_ h=>?_) λ_ h=>?_
     ·refine aP<|aC Z<|aJ<|aU<|bN<|aH<|aH<|bN<|bN<|aH<|aH<|bN<|aH ?_;cases h;exact sB Z
     refine dD<|lU<|aQ<|cH Z<|aA Z<|aJ ?_;exact AS (wI .i64 (b+(1:Int))) () h SF Z
    refine sD<|fD<|fD<|yY<|lU ?_;exact iH () (()) h SF Z
   intro m t h;unfold mK at h;refine aQ<|cH Z<|aA Z<|aJ ?_;exact AS (wI .i64 (a+(1:Int))) () h SF Z
  refine fL ?_;exact bW () (()) h SF .nil (aB.refl _ _)
 intro C F h;unfold uE at h;refine aP<|aC Z<|aJ<|aU ?_;cases h;exact kY Z
def wE (b:b_) (a:g_):Option wB:=
 some ((b.1,a))
def nJ (U:Nat) (b:EU) (d:b_) (a:Int×g_) (c:(Int×g_)->Option wB) (e:Bool):Option wB:=
 if e=true then(ck (0<=a.1∧a.1<(b.2.1.length:Int)) (Option.bind (gA U (at' b.2.1 a.1) (d.2.length:Int)) λf=>(ck (0<=(wI .i64 (a.1+(1:Int)))∧(wI .i64 (a.1+(1:Int)))<(b.2.1.length:Int)) (Option.bind (gA U (at' b.2.1 (wI .i64 (a.1+(1:Int)))) (d.2.length:Int)) λg=>(Option.bind (uQ U b.2.2.1 a.1) λh=>(Option.bind (gA U h (15:Int)) λi=>(Option.bind (oW U ((b.1,b.2.1,b.2.2.1,b.2.2.2.1,b.2.2.2.2.1,b.2.2.2.2.2)) ((d.1,a.2)) f g (wI .i64 ((1:Int)+i))) λj=>(c ((wI .i64 (a.1+(2:Int))),j)))))))))else(wE d (a.2))
def qW (U:Nat) (c:EU) (d:b_) (a:Int×g_) (b:(Int×g_)->Option wB):Option wB:=
 if(wI .i64 (a.1+(1:Int)))<(c.2.1.length:Int)then(nJ U c d a b (decide (a.1<(60:Int))))else(nJ U c d a b (false))
def oY (U:Nat) (b:EU) (a:b_):Option wB:=
 bH (qW U b a) U ((a.2.length:Int),a.2)
theorem aeJ:aS Tryz.prog 19:=Tryz.call19
theorem HD (U:Nat) {a:EU} {e:b_} (n:Value)  (m:Value)  (o:Value)  (f:Value)  (g:Value)  (O:jB) (r:EK) (h:oY U a e=some r):
  Hj Tryz.prog 19 #[Value.agg #[vI (a.1),n,m,o,vB (a.2.2.2.2.1),vB (a.2.2.2.2.2)],Value.agg #[f,g]] [Ar cB f e.1,Ar fQ.raw g O,nH bT O e.2] [Sl bP n a.2.1,Sl bP m a.2.2.1,Sl bP o a.2.2.2.1] (λx:Value×Value×List Value=>Value.agg #[x.1,x.2.1]) (λx l=>Ar cB x.1 r.1::Ar fQ.raw x.2.1 x.2.2::nH bT x.2.2 r.2::l):=by
 refine Hj.of (vs:=[Value.agg #[vI (a.1),n,m,o,vB (a.2.2.2.2.1),vB (a.2.2.2.2.2)],Value.agg #[f,g]]) Tryz.func19 Z Tryz.ntmps19 Z λc=>?_;unfold oY at h;refine aP<|aG (aI.box (cs:=[vI (a.1),n,m,o,vB (a.2.2.2.2.1),vB (a.2.2.2.2.2)]) Z Z) Z λv=>aG (aI.box (cs:=[f,g]) Z Z) Z λq=>aG (aI.alloc (cs:=[lE,lE]) Z Z) Z λs=>aJ<|aP<|bY Z<|cR 1 Z<|aD (jW Z (bE (i:=4) (j:=5) Z Z bD) Z) Z<|aC Z<|aJ<|aK<|Hh (B:=jB) (λt=>wE e t=some r) (λt u=>[(3,vP q),(4,vP s)]) (λt u=>[bM s [lE,lE] 29,bM q [f,g] 29,Ar cB f e.1,Ar fQ.raw g u,nH bT u t]) (λt u=>[Sl bP n a.2.1,Sl bP m a.2.2.1,Sl bP o a.2.2.2.1]) ?_ ?_
 ·refine aP<|aA Z<|aC Z<|aJ<|aR<|KL (B:=jB) (qW U a e) (λb d=>[(2,vP v),(3,vP q),(4,vP s),(5,vI (e.2.length:Int)),(6,vI (b.1))]) (λb d=>[bM s [lE,lE] 29,bM q [f,g] 29,bM v [vI (a.1),n,m,o,vB (a.2.2.2.2.1),vB (a.2.2.2.2.2)] 24,Ar cB f e.1,Ar fQ.raw g d,nH bT d b.2]) (λb d=>[Sl bP n a.2.1,Sl bP m a.2.2.1,Sl bP o a.2.2.2.1]) ((e.2.length:Int),e.2) (O) h SF (a_.refl _) (aB.refl _ _) ?_;intro J b d h;refine aK<|aK<|Hh (B:=Unit) (λk=>nJ U a e b (bH (qW U a e) J) k=some r) (λk p=>[(2,vP v),(3,vP q),(4,vP s),(5,vI (e.2.length:Int)),(6,vI (b.1)),(20,vB (k))]) (λk p=>[bM s [lE,lE] 29,bM q [f,g] 29,bM v [vI (a.1),n,m,o,vB (a.2.2.2.2.1),vB (a.2.2.2.2.2)] 24,Ar cB f e.1,Ar fQ.raw g d,nH bT d b.2]) (λk p=>[Sl bP n a.2.1,Sl bP m a.2.2.1,Sl bP o a.2.2.2.1]) ?_ ?_
  ·refine aQ<|aA Z<|cH Z<|bY Z<|cR 2 Z<|gS (aE.fact 0 Z) Z<|cO Z<|aA Z ?_;refine Eb h Z (λ_ h=>?_) λ_ h=>?_
   ·refine eG Z<|aW Z (GN Z Z) Z<|eK Z<|aJ ?_;exact iH (decide (b.1<(60:Int))) () h SF Z
   refine aL Z<|aL Z<|fY Z<|aJ ?_;exact iH (false) () h SF Z
  intro k p h;refine yW h Z (λ_ h=>?_) λ_ h=>?_
  ·refine cG<|aK<|aR ?_;refine JR.start [0,0,0,4,0,28,60,0,252,0,512,0,2048,7680,15872,0,65532,0,131072,0,1048572,2097148,4194300,8388607] 23 mixedOrders (by decide +kernel) ?_;refine zBe (by exact rfl) ?_;refine fX 2 Z<|fX 1 Z<|dJ Z<|fG 2 Z<|bA Z<|dQ h λE h=>bG Z .nil (hZ 0 Z) (aZ Z Z (aE.fact 0 Z) Z Z E) aN.z<|bG Z .nil (hZ 0 Z) (bV Z (aE.fact 0 Z) Z Z Z cT E) aN.z<|bA Z<|dV h λK w h=>zBc Z Z Z (zBb GQ (jJ U  K w) Z .nil) Z (λP=>(jD [([1],[]),([2],[])] Z)) λP=>gO Z (eI Z Z Z Z Z)<|bG Z (a_.cons 2 Z .nil) .nil (d_ 0 Z Z Z Z Z) (aN.h (a_.ix [2] Z Z) .nil aN.z)<|gO Z (gN Z)<|gO Z (yE Z Z)<|dQ h λF h=>bG Z .nil (hZ 0 Z) (aZ Z Z (aE.fact 0 Z) Z Z F) (aN.h .nil (hZ 0 Z) aN.z)<|bG Z .nil (hZ 0 Z) (bV Z (aE.fact 0 Z) Z Z Z cT F) (aN.h .nil (hZ 0 Z) aN.z)<|gO Z (gN Z)<|dV h λL y h=>zBc Z Z Z (zBb GQ (jJ U  L y) Z .nil) Z (λQ=>(jD [([1],[]),([2],[])] Z)) λQ=>gO Z (eI Z Z Z Z Z)<|bG Z (a_.cons 2 Z .nil) .nil (d_ 0 Z Z Z Z Z) (aN.h (a_.ix [2] Z Z) .nil (aN.h (a_.ix [2] Z Z) .nil aN.z))<|gO Z (gN Z)<|dV h λM A h=>zBc Z Z Z (zBb LJ (Cq U m M A) Z (kA [1] Z)) Z (λR=>(jD [([1],[]),([2],[])] Z)) λR=>dV h λN C h=>zBc Z Z Z (zBb GQ (jJ U  N C) Z .nil) Z (λS=>(jD [([1],[]),([2],[])] Z)) λS=>gO Z (yE Z Z)<|bR 23 Z Z<|dV h λG D h=>aG (Hi (Min:=[Ar fQ.raw g d,nH bT d b.2]) (Mr:=[bM s [lE,lE] 29,bM q [f,g] 29,bM v [vI (a.1),n,m,o,vB (a.2.2.2.2.1),vB (a.2.2.2.2.2)] 24,Ar cB f e.1]) Yv (Ci U n m o f g d G D) Z (a_.ix [4,5,0,1,2,3] Z Z) (aB.cons (aE.fact 0 Z) (aB.cons (aE.fact 1 Z) (aB.cons (aE.fact 2 Z) (aB.cons (aT (aE.res 3 Z) cD) .nil)))) (λ_ _=>rfl)) Z λT=>eV<|lU<|aQ<|aA Z<|cH Z<|aC Z<|aJ ?_;exact kO ((wI .i64 (b.1+(2:Int))),G) (T) h SF (a_.ix [2,3,4,5,0,1] Z Z) (aB.refl _ _)
  refine fL ?_;exact bW (b.2) (d) h SF (a_.ix [0,1,3,4,5] Z Z) (aB.refl _ _)
 intro t u h;unfold wE at h;refine aP<|cA 1 Z<|dH (Know.one ((aT (aE.res 2 Z) cD))) λH=>dH (Know.one (aE.sl (bE (i:=3) (j:=4) Z Z bD))) λI=>bK 0 (vs:=[f,g]) Z Z (eB H (eB I Z)) Z Z Z<|aJ<|aU ?_;cases h;exact eR (f,g,u) Z Z (RV.cell 0 Z Z Z Z) (a_.ix [2,3,4] Z Z) aB.nil
def Bf  (a:Unit):Option (Int):=
 some (-1:Int)
def xK (c:b_) (d:Int) (e:Int) (a:Int) (b:(Int)->Option (Int)):Option (Int):=
 if a<((at' c.2 d).length:Int)then(ck (0<=a∧a<((at' c.2 d).length:Int)) (if((at' (at' c.2 d) a).1)=e then(some (a))else(b (wI .i64 (a+(1:Int))))))else(Bf  (()))
def uJ (U:Nat) (b:b_) (a:Int) (c:Int):Option (Int):=
 ck (0<=a∧a<(b.2.length:Int)) (bH (xK b a c) U (0:Int))
theorem abV:aS Tryz.prog 224:=Tryz.call224
theorem MP (U:Nat) {a:b_} {b:Int} {i:Int} (j:Value)  (k:Value)  (o:jO) (r:Int) (h:uJ U a b i=some r):
  aY Tryz.prog 224 #[Value.agg #[j,k],vI (b),vI (i)] [Sl bP j a.1,S2 aV k o a.2] (λx:Unit=>vI (r)) (λx l=>l) (λ_ l=>l):=by
 refine aY.of Tryz.func224 Z Tryz.ntmps224 Z λc=>?_;refine aP<|aG (aI.box (cs:=[j,k]) Z Z) Z λq=>aC Z<|aJ<|aK<|eJ (λg=>Bf  g=some r) (λg m=>[]) (λg m=>[]) ?_ ?_
 ·refine aP<|bY Z<|cR 0 Z<|aA Z<|dQ h λe h=>aD (cV Z Z (aE.fact 1 Z) Z Z e) Z<|aD (cP Z (aE.fact 1 Z) Z Z e) Z<|aD (fF Z (zBd (aE.fact 1 Z) e.1 e.2) Z) Z<|aA Z<|aJ<|aR<|eO (xK a b i) (λd n=>[(2,vI (i)),(13,(at' o b).1),(14,vI ((at' a.2 b).length:Int)),(15,vI (d))]) (λd n=>[]) (0:Int) () h SF .nil ?_;intro s d n h;refine aP<|cO Z<|aJ<|aK ?_;refine dK h Z (λh=>?_) λh=>?_
  ·refine cG<|aK<|aR<|aP<|aA Z<|dQ h λf h=>aD (aZ Z Z (zBd (aE.fact 1 Z) e.1 e.2) Z Z f) Z<|aD (eM (cs:=[vI ((at' (at' a.2 b) d).1),vI ((at' (at' a.2 b) d).2)]) Z (zBd (aE.fact 1 Z) e.1 e.2) bD Z Z Z Z f) Z<|aG (aI.alloc (cs:=Ni) Z Z) Z λp=>aC Z<|bK 0 (vs:=[vI ((at' (at' a.2 b) d).1),vI ((at' (at' a.2 b) d).2)]) Z Z Z Z Z Z<|aJ<|aP<|bY Z<|cR 0 Z<|aA Z<|bS Z<|aJ ?_;refine dK h Z (λh=>?_) λh=>?_
   ·refine aP<|aA Z<|aC Z<|aJ<|aU<|bN<|aH<|aH<|bN<|aH ?_;cases h;exact sB Z
   refine dD<|lU<|aQ<|cH Z<|aA Z<|aJ ?_;exact kO (wI .i64 (d+(1:Int))) () h SF .nil (aB.refl _ _)
  refine fL ?_;exact iH () (()) h SF Z
 intro g m h;unfold Bf at h;refine aP<|aC Z<|aJ<|aU ?_;cases h;exact kY Z
def uM (U:Nat) (a:ByteArray) (b:Int) (c:Int) (d:Int):Option ((ByteArray×Int×Int×Int×Int×Int)):=
 some ((a,(1:Int),(0:Int),b,c,d))
theorem OU:aS Tryz.prog 110:=Tryz.call110
theorem Cp (U:Nat) {a:ByteArray} {b:Int} {d:Int} {e:Int} (r:VU) (h:uM U a b d e=some r):
  aY Tryz.prog 110 #[vS (a),vI (b),vI (d),vI (e)] [] (λx:Unit=>Value.agg #[vS (r.1),vI (r.2.1),vI (r.2.2.1),vI (r.2.2.2.1),vI (r.2.2.2.2.1),vI (r.2.2.2.2.2)]) (λx l=>l) (λ_ l=>l):=by
 refine aY.of Tryz.func110 Z Tryz.ntmps110 Z λc=>?_;unfold uM at h;refine aP<|aG (aI.alloc (cs:=vD5) Z Z) Z λf=>aJ<|aP<|aA Z<|aA Z<|aA Z<|aA Z ?_;refine aD (Y.bld5 (r:=Value.agg #[vS (a),vI (1:Int),vI (0:Int),vI (b),vI (d),vI (e)]) Z Z Z Z Z (by intro w;simp[Instr.build,Instr.fill,dX,dA,cM,dY,dZ,dB,eQ])) Z ?_;refine bK 0 (vs:=[vS (a),vI (1:Int),vI (0:Int),vI (b),vI (d),vI (e)]) Z Z Z Z Z Z<|aJ<|aU ?_;cases h;exact eR () Z Z (RV.cell 0 Z Z Z Z) .nil aB.nil
def sV (U:Nat) (a:ByteArray):Option ((ByteArray×Int×Int×Int×Int×Int)):=
 some ((a,(3:Int),(0:Int),(0:Int),(0:Int),(0:Int)))
theorem OV:aS Tryz.prog 111:=Tryz.call111
theorem Bl (U:Nat) {a:ByteArray} (r:VU) (h:sV U a=some r):
  aY Tryz.prog 111 #[vS (a)] [] (λx:Unit=>Value.agg #[vS (r.1),vI (r.2.1),vI (r.2.2.1),vI (r.2.2.2.1),vI (r.2.2.2.2.1),vI (r.2.2.2.2.2)]) (λx l=>l) (λ_ l=>l):=by
 refine aY.of Tryz.func111 Z Tryz.ntmps111 Z λc=>?_;unfold sV at h;refine aP<|aG (aI.alloc (cs:=vD5) Z Z) Z λb=>aJ<|aP<|aA Z ?_;refine aD (DU (r:=Value.agg #[vS (a),vI (3:Int),vI (0:Int),vI (0:Int),vI (0:Int),vI (0:Int)]) Z Z (by intro w;simp[Instr.build,Instr.fill,dX,dA,cM,dY,dZ,dB,eQ])) Z ?_;refine bK 0 (vs:=[vS (a),vI (3:Int),vI (0:Int),vI (0:Int),vI (0:Int),vI (0:Int)]) Z Z Z Z Z Z<|aJ<|aU ?_;cases h;exact eR () Z Z (RV.cell 0 Z Z Z Z) .nil aB.nil
def Ir (U:Nat)  : Option VS:=
 Option.bind (uM U (ByteArray.mk #[100]) (0:Int) (1:Int) (0:Int)) λa=>(Option.bind (sV U (ByteArray.mk #[112])) λb=>(some ([(a.1,a.2.1,a.2.2.1,a.2.2.2.1,a.2.2.2.2.1,a.2.2.2.2.2),(b.1,b.2.1,b.2.2.1,b.2.2.2.1,b.2.2.2.2.1,b.2.2.2.2.2)])))
theorem aeO:aS Tryz.prog 42:=Tryz.call42
theorem Qd (U:Nat)  (r:VT) (h:Ir U  = some r):
  aY Tryz.prog 42 #[] [] (λx:Value=>x) (λx l=>Ar gU x r::l) (λ_ l=>l):=by
 refine aY.of Tryz.func42 Z Tryz.ntmps42 Z λc=>?_;refine aP<|aC Z<|aJ<|aP<|dV h λa f h=>aG (zBb OU (Cp U  a f) Z .nil) Z λi=>dV h λb g h=>aG (zBb OV (Bl U  b g) Z .nil) Z λj=>aG (cQ (e:=gU) ([((a.1,a.2.1,a.2.2.1,a.2.2.2.1,a.2.2.2.2.1,a.2.2.2.2.2)),((b.1,b.2.1,b.2.2.1,b.2.2.2.1,b.2.2.2.2.1,b.2.2.2.2.2))]) [(0,Value.agg #[vS (a.1),vI (a.2.1),vI (a.2.2.1),vI (a.2.2.2.1),vI (a.2.2.2.2.1),vI (a.2.2.2.2.2)]),(1,Value.agg #[vS (b.1),vI (b.2.1),vI (b.2.2.1),vI (b.2.2.2.1),vI (b.2.2.2.2.1),vI (b.2.2.2.2.2)])] Z Z Z Z (Ma (vS (a.1)) (vI (a.2.1)) (vI (a.2.2.1)) (vI (a.2.2.2.1)) (vI (a.2.2.2.2.1)) (vI (a.2.2.2.2.2)) (vS (b.1)) (vI (b.2.1)) (vI (b.2.2.1)) (vI (b.2.2.2.1)) (vI (b.2.2.2.2.1)) (vI (b.2.2.2.2.2))) Z Z Z) Z λd=>aC Z<|aJ<|aU ?_;cases h;exact eR (d) Z Z (RV.tmp Z) (a_.refl _) aB.nil
def kG (U:Nat) (a:EU) (d:Int):Option wB:=
 Option.bind (oV U ((a.1,a.2.1,a.2.2.1,a.2.2.2.1,a.2.2.2.2.1,a.2.2.2.2.2)) d) λb=>(Option.bind (oY U ((a.1,a.2.1,a.2.2.1,a.2.2.2.1,a.2.2.2.2.1,a.2.2.2.2.2)) ((b.1,b.2))) λc=>(some ((c.1,c.2))))
theorem agT:aS Tryz.prog 5:=Tryz.call5
theorem DD (U:Nat) {a:EU} {o:Int} (d:Value)  (e:Value)  (f:Value) (r:EK) (h:kG U a o=some r):
  aY Tryz.prog 5 #[Value.agg #[vI (a.1),d,e,f,vB (a.2.2.2.2.1),vB (a.2.2.2.2.2)],vI (o)] [Sl bP d a.2.1,Sl bP e a.2.2.1,Sl bP f a.2.2.2.1] (λx:Value×Value×List Value=>Value.agg #[x.1,x.2.1]) (λx l=>Ar cB x.1 r.1::Ar fQ.raw x.2.1 x.2.2::nH bT x.2.2 r.2::l) (λ_ l=>l):=by
 refine aY.of Tryz.func5 Z Tryz.ntmps5 Z λc=>?_;refine aP<|aG (aI.box (cs:=[vI (a.1),d,e,f,vB (a.2.2.2.2.1),vB (a.2.2.2.2.2)]) Z Z) Z λp=>aG (aI.alloc (cs:=[lE,lE]) Z Z) Z λq=>aJ<|aK ?_;refine JR.start [0,0,0,6,15,31] 4 mixedOrders (by decide +kernel) ?_;refine zBe (by exact rfl) ?_;refine fX 1 Z<|fX 1 Z<|bA Z<|dV h λn t h=>zBc Z Z Z (zBb Ys (Ch U d e f n t) Z (kA [0,1,2] Z)) Z (λb=>(jD [([4],[])] Z)) λb=>bR 4 Z Z<|dV h λs u h=>aG (Hi (Min:=[Ar cB b.1 n.1,Ar fQ.raw b.2.1 b.2.2,nH bT b.2.2 n.2]) (Mr:=[bM q [lE,lE] 29,bM p [vI (a.1),d,e,f,vB (a.2.2.2.2.1),vB (a.2.2.2.2.2)] 24]) aeJ (HD U d e f b.1 b.2.1 b.2.2 s u) Z (a_.refl _) (kA [0,1,2] Z) (λ_ _=>rfl)) Z λk=>dH (Know.one ((aT (aE.res 0 Z) cD))) λm=>dH (Know.one (aE.sl (bE (i:=1) (j:=2) Z Z bD))) λg=>bK 3 (vs:=[k.1,k.2.1]) Z Z (eB m (eB g Z)) Z Z Z<|aJ<|aU ?_;cases h;exact eR (k.1,k.2.1,k.2.2) Z Z (RV.cell 3 Z Z Z Z) (a_.ix [0,1,2] Z Z) aB.nil
def x_  (a:bX):Option bX:=
 some (a)
def Bm (a:bX×Int) (c:(bX×Int)->Option bX) (b:aO):Option bX:=
 ck ((a.1.length:Int)+(List.length ([b]):Int)<=1099511627) (c ((a.1++[b]),(wI .i64 (a.2+(1:Int)))))
def pU (U:Nat) (g:Hc) (h:aO) (e:bX×Int) (a:aO×Int) (c:(aO×Int)->Option bX) (b:eC):Option bX:=
 Option.bind (uQ U h (wI .i64 ((wI .i64 (e.2*(g.length:Int)))+a.2))) λf=>(Option.bind (gA U f (wI .i64 ((wI .i64 (b.2 - b.1))+(1:Int)))) λd=>(ck ((a.1.length:Int)+(List.length ([(wI .i64 (b.1+d))]):Int)<=1099511627) (c ((a.1++([(wI .i64 (b.1+d))])),(wI .i64 (a.2+(1:Int)))))))
def pV (U:Nat) (f:b_) (c:Hc) (g:aO) (h:Int) (b:bX×Int) (e:(bX×Int)->Option bX) (a:aO×Int) (d:(aO×Int)->Option bX):Option bX:=
 if a.2<(c.length:Int)then(ck (0<=a.2∧a.2<(c.length:Int)) (ck (0<=a.2∧a.2<(c.length:Int)) (ck (0<=a.2∧a.2<(c.length:Int)) (ck (0<=a.2∧a.2<(c.length:Int)) (ck (0<=a.2∧a.2<(c.length:Int)) (if((at' c a.2).2.1)=(2:Int)then(pU U c g b a d ((0:Int),(1:Int)))else(if((at' c a.2).2.1)=(3:Int)then(ck (0<=b.2∧b.2<(f.2.length:Int)) (pU U c g b a d ((-1:Int),(wI .i64 (((at' f.2 b.2).length:Int) - (1:Int))))))else(pU U c g b a d (((at' c a.2).2.2.1),(wI .i64 ((wI .i64 (((at' c a.2).2.2.2.1)+(wI .i64 (((at' c a.2).2.2.2.2.1)*(f.2.length:Int)))))+(wI .i64 (((at' c a.2).2.2.2.2.2)*h)))))))))))))else(Bm b e (a.1))
def lC (U:Nat) (c:b_) (e:Hc) (f:aO) (d:Int) (a:bX×Int) (b:(bX×Int)->Option bX):Option bX:=
 if a.2<(c.2.length:Int)then(bH (pV U c e f d a b) U (([]:aO),(0:Int)))else(x_  (a.1))
def s_ (U:Nat) (b:b_) (c:Hc) (d:aO) (a:Int):Option bX:=
 bH (lC U b c d a) U (([]:bX),(0:Int))
def yA (U:Nat) (c:b_) (d:Hc) (e:aO) (a:eC) (b:gW->Option bX):Option bX:=
 if a.2<(c.2.length:Int)then(ck (0<=a.2∧a.2<(c.1.length:Int)) (b ((max a.1 (at' c.1 a.2)),(wI .i64 (a.2+(1:Int))))))else(s_ U c d e (a.1))
def kS (U:Nat) (a:b_) (b:Hc) (c:aO):Option bX:=
 bH (yA U a b c) U ((0:Int),(0:Int))
theorem Kd:aS Tryz.prog 9:=Tryz.call9
theorem mR (U:Nat) {g:b_} {n:Hc} {s:aO} (v:Value)  (w:Value)  (z2:jO)  (F:Value)  (y:Value) (r:bX) (h:kS U g n s=some r):
  aY Tryz.prog 9 #[Value.agg #[v,w],F,y] [Sl bP v g.1,S2 aV w z2 g.2,Sl aX F n,Sl bP y s] (λx:Value×List Value=>x.1) (λx l=>Ar fQ.raw x.1 x.2::nH cB x.2 r::l) (λ_ l=>l):=by
 refine aY.of Tryz.func9 Z Tryz.ntmps9 Z λc=>?_;unfold kS at h;refine aP<|aG (aI.box (cs:=[v,w]) Z Z) Z λp=>aC Z<|aJ<|aP<|bY Z<|cR 0 Z<|aD (jW Z (aE.fact 1 Z) Z) Z<|aC Z<|aC Z<|aJ<|aK<|eJ (λk=>s_ U g n s k=some r) (λk b4=>[(1,F),(2,y),(3,vP p),(7,vI (g.2.length:Int)),(8,vI (k))]) (λk b4=>[bM p [v,w] 29]) ?_ ?_
 ·refine aP<|aC Z<|aJ<|aR<|eO (yA U g n s) (λi J=>[(1,F),(2,y),(3,vP p),(7,vI (g.2.length:Int)),(8,vI (i.1)),(9,vI (i.2))]) (λi J=>[bM p [v,w] 29]) ((0:Int),(0:Int)) () h SF (a_.refl _) ?_;intro ac i J h;refine aK<|aP<|aA Z<|aA Z<|cO Z<|aJ ?_;refine dK h Z (λh=>?_) λh=>?_
  ·refine cG<|aK<|aR<|aQ<|aA Z<|bY Z<|cR 0 Z<|aA Z<|dQ h λQ h=>aD (aZ Z Z (aE.fact 0 Z) Z Z Q) Z<|aD (bV Z (aE.fact 0 Z) Z Z Z cT Q) Z<|aD (Ka Z Z) Z<|aC Z<|eV<|lU<|aQ<|aA Z<|cH Z<|aC Z<|aJ ?_;exact AS ((max i.1 (at' g.1 i.2)),(wI .i64 (i.2+(1:Int)))) () h SF Z
  refine fL ?_;exact iH (i.1) () h SF Z
 intro k b4 h;unfold s_ at h;refine aP<|aC Z<|aJ<|aK<|El (B:=Value×List Value) (λH=>x_  H=some r) (λH A=>[(10,A.1)]) (λH A=>[Ar fQ.raw A.1 A.2,nH cB A.2 H]) ?_ ?_
 ·refine aP<|aC Z<|aJ<|aR<|jT (gK fQ.raw) (jT (CG cB) ?_);refine eO (B:=Value×List Value) (lC U g n s k) (λb a=>[(1,F),(2,y),(3,vP p),(7,vI (g.2.length:Int)),(8,vI (k)),(10,a.1),(11,vI (b.2))]) (λb a=>[bM p [v,w] 29,Ar fQ.raw a.1 a.2,nH cB a.2 b.1]) (([]:bX),(0:Int)) ((lE),([]:jB)) h SF (a_.ix [2,1,0] Z Z) ?_;intro G b a h;refine aK<|aP<|aA Z<|aA Z<|cO Z<|aJ ?_;refine dK h Z (λh=>?_) λh=>?_
  ·refine cG<|aK<|aR<|aP<|aC Z<|aJ<|aK<|El (B:=Value) (λo=>Bm b (bH (lC U g n s k) G) o=some r) (λo j=>[(1,F),(2,y),(3,vP p),(7,vI (g.2.length:Int)),(8,vI (k)),(10,a.1),(11,vI (b.2)),(12,j)]) (λo j=>[bM p [v,w] 29,Ar fQ.raw a.1 a.2,nH cB a.2 b.1,Ar cB j o]) ?_ ?_
   ·refine aP<|aC Z<|aJ<|aR<|jT (gK cB)<|eO (B:=Value) (pV U g n s k b (bH (lC U g n s k) G)) (λd m=>[(1,F),(2,y),(3,vP p),(7,vI (g.2.length:Int)),(8,vI (k)),(10,a.1),(11,vI (b.2)),(12,m),(13,vI (d.2))]) (λd m=>[bM p [v,w] 29,Ar fQ.raw a.1 a.2,nH cB a.2 b.1,Ar cB m d.1]) (([]:aO),(0:Int)) (lE) h SF (a_.ix [1,2,3,0] Z Z) ?_;intro S d m h;refine aK<|aP<|aA Z<|aA Z<|gS (aE.fact 2 Z) Z<|cO Z<|aJ ?_;refine dK h Z (λh=>?_) λh=>?_
    ·refine cG<|aK<|aR<|aK ?_;refine JR.start [0,0,3,7,15,0,0,96,224,480,0,0,3072,7168,15360,0,64512,131040,0,0,786432,1835008,3932160,0,16515072,33554400,31,134217727] 27 mixedOrders (by decide +kernel) ?_;refine zBe (by exact rfl) ?_;refine bA Z<|bA Z<|dQ h λL h=>bG Z .nil (hZ 2 Z) (aZ Z Z (aE.fact 0 Z) Z Z L) aN.z<|gO Z (n_ Z Z Z Z Z)<|bG Z .nil (hZ 2 Z) (mA Z (aE.fact 0 Z) Z Z Z EL L) aN.z<|bA Z<|bA Z<|dQ h λM h=>bG Z .nil (hZ 2 Z) (aZ Z Z (aE.fact 0 Z) Z Z M) aN.z<|gO Z (n_ Z Z Z Z Z)<|bG Z .nil (hZ 2 Z) (mA Z (aE.fact 0 Z) Z Z Z EM M) aN.z<|bA Z<|bA Z<|dQ h λN h=>bG Z .nil (hZ 2 Z) (aZ Z Z (aE.fact 0 Z) Z Z N) aN.z<|gO Z (n_ Z Z Z Z Z)<|bG Z .nil (hZ 2 Z) (mA Z (aE.fact 0 Z) Z Z Z EN N) aN.z<|bA Z<|gO Z (zA Z Z)<|gO Z (yE Z Z)<|bA Z<|bA Z<|dQ h λO h=>bG Z .nil (hZ 2 Z) (aZ Z Z (aE.fact 0 Z) Z Z O) aN.z<|gO Z (n_ Z Z Z Z Z)<|bG Z .nil (hZ 2 Z) (mA Z (aE.fact 0 Z) Z Z Z EO O) aN.z<|bA Z<|gO Z (zA Z Z)<|gO Z (yE Z Z)<|gO Z (wO Z)<|bR 27 Z Z<|aC Z<|aJ<|aK<|eJ (λf=>pU U n s b d (bH (pV U g n s k b (bH (lC U g n s k) G)) S) f=some r) (λf I=>[(1,F),(2,y),(3,vP p),(7,vI (g.2.length:Int)),(8,vI (k)),(10,a.1),(11,vI (b.2)),(12,m),(13,vI (d.2)),(14,vI (f.1)),(15,vI (f.2))]) (λf I=>[bM p [v,w] 29,Ar fQ.raw a.1 a.2,nH cB a.2 b.1,Ar cB m d.1]) ?_ ?_
     ·refine aP<|aA Z<|aA Z<|dQ h λP h=>aD (aZ Z Z (aE.fact 2 Z) Z Z P) Z<|aD (n_ Z Z Z Z Z) Z<|aD (mA Z (aE.fact 2 Z) Z Z Z Ak P) Z<|aJ<|aR<|aP<|bS Z<|aC Z<|aJ ?_;refine dK h Z (λh=>?_) λh=>?_
      ·refine aQ<|aC Z<|aC Z<|eV<|lU ?_;exact iH ((0:Int),(1:Int)) () h SF Z
      refine aP<|bS Z<|aC Z<|aJ ?_;refine dK h Z (λh=>?_) λh=>?_
      ·refine JR.start [0,1,0,7,15,31,63,0,255] 8 mixedOrders (by decide +kernel) ?_;refine zBe (by exact rfl) ?_;refine dJ Z<|fG 0 Z<|bA Z<|dQ h λu h=>bG Z .nil (hZ 1 Z) (cV Z Z (aE.fact 0 Z) Z Z u) aN.z<|bG Z .nil (hZ 1 Z) (cP Z (aE.fact 0 Z) Z Z u) aN.z<|bG Z .nil (hZ 1 Z) (fF Z (zBd (aE.fact 0 Z) u.1 u.2) Z) aN.z<|gO Z (qP Z Z)<|gO Z (wO Z)<|bR 8 Z Z<|aC Z<|eV<|lU ?_;exact iH ((-1:Int),(wI .i64 (((at' g.2 b.2).length:Int) - (1:Int)))) () h SF Z
      refine dD<|lU ?_;exact iH (((at' n d.2).2.2.1),(wI .i64 ((wI .i64 (((at' n d.2).2.2.2.1)+(wI .i64 (((at' n d.2).2.2.2.2.1)*(g.2.length:Int)))))+(wI .i64 (((at' n d.2).2.2.2.2.2)*k))))) () h SF Z
     intro f I h;refine aQ<|aA Z<|aA Z<|aA Z<|aA Z<|aA Z<|gS (aE.fact 2 Z) Z<|aD (zA Z Z) Z<|aA Z<|cH Z<|dV h λW aa h=>aG (zBb LJ (Cq U y W aa) Z (kA [3] Z)) Z λaf=>aA Z<|aA Z<|aD (qP Z Z) Z<|cH Z<|dV h λt ab h=>aG (zBb GQ (jJ U  t ab) Z .nil) Z λag=>cH Z<|aG (cQ (e:=cB) ([(wI .i64 (f.1+t))]) [(0,vI (wI .i64 (f.1+t)))] Z Z Z Z (rK (vI (wI .i64 (f.1+t))) Z) Z Z Z) Z λae=>dQ h λR h=>aG (iV 4 cD Z Z Z (aT (aE.res 0 Z) cD) Z Z Z Z R Z) Z λY=>aC Z<|eV<|lU<|aQ<|aA Z<|cH Z<|aC Z<|aJ ?_;exact kO ((d.1++([(wI .i64 (f.1+t))])),(wI .i64 (d.2+(1:Int)))) (Y) h SF (a_.ix [1,2,3,4] Z Z) (aB.refl _ _)
    refine fL ?_;exact iH (d.1) (m) h SF Z
   intro o j h;refine aQ<|aA Z<|aA Z<|jT (CG cB)<|dH (Know.one ((aT (aE.res 4 Z) cD))) λE=>jT (Tl 0 4 Z Z Z) ?_;refine aG (cQ (e:=fQ.raw) [j] [(0,j)] Z Z Z Z (rK (j) E) Z Z (by simp[cellsOf,fQ.raw,E])) Z λad=>?_;refine dH (eH 4 Z) λC=>dH (eH 1 Z) λD=>dQ h λK h=>jT (QG 4 1 Z Z Z) ?_;refine aG (aI.append 2 0 Z Z Z Z Z Z Z (by have q:=K;have T:=C;have V:=D;(try simp only[zAj,List.length_nil]at q T V ⊢);omega) (by have q:=K;have T:=C;have V:=D;(try simp only[zAj,List.length_nil]at q T V ⊢);omega) Z) Z λX=>?_;refine aC Z<|eV<|lU<|aQ<|aA Z<|cH Z<|aC Z<|aJ ?_;exact kO ((b.1++[o]),(wI .i64 (b.2+(1:Int)))) (X,(a.2++[j])) h SF (a_.ix [1,2,3] Z Z) (aB.refl _ _)
  refine fL ?_;exact bW (b.1) (a.1,a.2) h SF (a_.ix [1,2] Z Z) (aB.refl _ _)
 intro H A h;unfold x_ at h;refine aP<|aA Z<|aC Z<|aJ<|aU ?_;cases h;exact eR (A.1,A.2) Z Z (RV.tmp Z) (a_.refl _) aB.nil
end Go.Proofs.YtcnnfkapmjhnaaaGreatDoor