/- Models of functions with their proofs, by program (gen/xt.py), and plain laws, in one text. Conditions: none. -/
import Derived.Test.YtfimaabbclepbaaGreatZCMa5
import Derived.Test.YtfimaabbclepbaaGreatZCMa1
import Derived.RecoverIn
import Derived.DefersIn
import Derived.Lib.Bytealg
import Derived.Test.YtfimaabbclepbaaGreatZCMa2
set_option linter.unusedVariables false
set_option linter.unusedSimpArgs false
set_option maxHeartbeats 4000000
set_option maxRecDepth 20000
section
set_option maxRecDepth 100000
namespace Go.Gx
open Go Go.Sx Go.Proofs
noncomputable section
abbrev y:=tyTab
def i (n:Nat):GV:= .int .i64 (.ofNat n)
def bC (q:Bool) (f t:RS):RS:=Bool.casesOn (motive:=fun _=>RS) q f t
def K (c:CH) (f:Nat) (us:List GV) (H:GH) (k:GV->GH->RS):RS:=kOR (c f us H) k
def bn (op:BinOp) (T:Nat) (v u:GV) (k:GV->RS):RS:=ob (vBin y op T v u) k
def ld (T:Nat) (v:GV) (H:GH) (k:GV->RS):RS:=ob (vLoad y T v H) k
def fd (T n:Nat) (v:GV) (k:GV->RS):RS:=ob (vField y T n v) k
def pt (T n:Nat) (v:GV) (k:GV->RS):RS:=ob (vPart y T n v) k
def ix (T:Nat) (v u:GV) (k:GV->RS):RS:=ob (vIndex y T v u) k
def ln (T:Nat) (v:GV) (k:GV->RS):RS:=ob (vLen y T v) k
def ex (n:Nat) (v:GV) (k:GV->RS):RS:=ob (vExt n v) k
def bd (T:Nat) (l:List (Nat×GV)) (k:GV->RS):RS:=ob (vBuild y T l) k
theorem rN {α:Type} {f n:Nat} {x y:Option α} {e:α} {R:Prop} (hx:x=some e->R) (hy:y=some e->R):tN f n x y=some e->R:=by
 unfold tN
 cases Nat.blt f n
 ·exact hy
 ·exact hx
theorem rL {α:Type} {f n:Nat} {x e:α} {R:Nat->α->Prop} (h:R n x):tL f n x=some e->R f e:=by
 intro he
 unfold tL at he
 cases hb:Nat.beq f n with
 |false=>rw[hb]at he;cases he
 |true=>rw[hb]at he;cases he;rw[Nat.eq_of_beq_eq_true hb];exact h
def B5 (c:CH) (ql:QH) (us:List GV) (H:GH):RS:=U0 us (kOR (vBuildS y 22 2 [(0,(i 0)),(1,(i 1))] H) fun t1 h2=>
 bd 33 [(0,(i 3)),(1,t1)] fun t3=>
 K c 18 [t3,(i 3)] h2 fun t4 h5=>
 kOR (vAlloc y 25 h5) fun t6 h7=>
 kOR (vStore y 25 t6 t4 h7) fun t8 h9=>
 kOR (vBuildS y 22 2 [(0,(i 0)),(1,(.int .i64 (.negSucc 0)))] h9) fun t10 h11=>
 kOR (vBuildS y 22 2 [(0,(i 1)),(1,(i 0))] h11) fun t12 h13=>
 kOR (vBuildS y 22 2 [(0,(i 0)),(1,(i 0))] h13) fun t14 h15=>
 kOR (vBuildS y 26 3 [(0,t10),(1,t12),(2,t14)] h15) fun t16 h17=>
 ld 25 t6 h17 fun t18=>
 ob (Option.casesOn (motive:=fun _=>Option (Option (Nat×Nat))) (ob (GV.asP t6) fun p=>some p.1) (some none) fun k20=>ob (GH.ver h17 k20) fun k21=>some (some (k20,k21))) fun e19=>
 K c 11 [t18,t16,(.int .u32 (.ofNat 4))] h17 fun t22 h23=>
 ob (some ()) fun _=>
 kOR (vBuildS y 22 3 [(0,(i 0)),(1,(i 1)),(2,(i 0))] h23) fun t24 h25=>
 ob (pck h25 e19 (some ())) fun _=>
 K c 10 [t22,t24] h25 fun t26 h27=>
 ob (some ()) fun _=>
 kOR (rG t26 true h27 (kOR (c 21 [] h27) orK)) fun t28 h29=>
 ob (some ()) fun _=>
 kOR (rG t26 true h29 (kOR (c 20 [t28] h29) orK)) fun t30 h31=>
 ob (some ()) fun _=>
 kOR (rG t26 true h31 (ob (vLoad y 25 t6 h31) fun g32=>some (g32,h31))) fun t33 h34=>
 ob (Option.casesOn (motive:=fun _=>Option (Option (Nat×Nat))) (ob (GV.asP t6) fun p=>some p.1) (some none) fun k36=>ob (GH.ver h31 k36) fun k37=>vck h29 k36 k37 (vck h27 k36 k37 (some (some (k36,k37))))) fun e35=>
 kOR (rG t26 true h34 (some (t16,h34))) fun t38 h39=>
 kOR (rG t26 true h39 (kOR (c 19 [t30,t33,t38,(.int .u32 (.ofNat 4))] h39) orK)) fun t40 h41=>
 ob (some ()) fun _=>
 kOR (rG t26 true h41 (ob (vBin y .eql 27 t40 (.int .u32 (.ofNat 0))) fun g42=>some (g42,h41))) fun t43 h44=>
 ob (vPick t26 t43 (.bool false)) fun t45=>
 kOR (rG t45 true h44 (ob (vLoad y 25 t6 h44) fun g46=>some (g46,h44))) fun t47 h48=>
 ob (Option.casesOn (motive:=fun _=>Option (Option (Nat×Nat))) (ob (GV.asP t6) fun p=>some p.1) (some none) fun k50=>ob (GH.ver h44 k50) fun k51=>some (some (k50,k51))) fun e49=>
 kOR (rG t45 true h48 (kOR (vBuildS y 22 1 [(0,(i 0))] h48) orK)) fun t52 h53=>
 ob (pck h53 e49 (some ())) fun _=>
 kOR (rG t45 true h53 (kOR (vBuildS y 22 1 [(0,(i 1))] h53) orK)) fun t54 h55=>
 ob (pck h55 e49 (some ())) fun _=>
 kOR (rG t45 true h55 (kOR (vBuildS y 22 1 [(0,(i 1))] h55) orK)) fun t56 h57=>
 ob (pck h57 e49 (some ())) fun _=>
 kOR (rG t45 true h57 (kOR (vBuildS y 26 3 [(0,t52),(1,t54),(2,t56)] h57) orK)) fun t58 h59=>
 ob (pck h59 e49 (some ())) fun _=>
 kOR (rG t45 true h59 (kOR (c 6 [t47,t58,(.int .u32 (.ofNat 6))] h59) orK)) fun t60 h61=>
 ob (some ()) fun _=>
 ob (vPick t45 t60 (.bool false)) fun t62=>
 kOR (rG t62 true h61 (ob (vLoad y 25 t6 h61) fun g63=>some (g63,h61))) fun t64 h65=>
 ob (Option.casesOn (motive:=fun _=>Option (Option (Nat×Nat))) (ob (GV.asP t6) fun p=>some p.1) (some none) fun k67=>ob (GH.ver h61 k67) fun k68=>some (some (k67,k68))) fun e66=>
 kOR (rG t62 true h65 (kOR (vBuildS y 22 1 [(0,(i 0))] h65) orK)) fun t69 h70=>
 ob (pck h70 e66 (some ())) fun _=>
 kOR (rG t62 true h70 (kOR (vBuildS y 22 1 [(0,(i 1))] h70) orK)) fun t71 h72=>
 ob (pck h72 e66 (some ())) fun _=>
 kOR (rG t62 true h72 (kOR (vBuildS y 22 1 [(0,(i 1))] h72) orK)) fun t73 h74=>
 ob (pck h74 e66 (some ())) fun _=>
 kOR (rG t62 true h74 (kOR (vBuildS y 26 3 [(0,t69),(1,t71),(2,t73)] h74) orK)) fun t75 h76=>
 ob (pck h76 e66 (some ())) fun _=>
 kOR (rG t62 true h76 (kOR (c 6 [t64,t75,(.int .u32 (.ofNat 2))] h76) orK)) fun t77 h78=>
 ob (some ()) fun _=>
 kOR (rG t62 true h78 (ob (vUn .not t77) fun g79=>some (g79,h78))) fun t80 h81=>
 ob (vPick t62 t80 (.bool false)) fun t82=>
 oR [t82] h81)
def B10 (c:CH) (ql:QH) (us:List GV) (H:GH):RS:=U2 us fun x83 x84=>
 ln 22 x83 fun t85=>
 ln 22 x84 fun t86=>
 bn .neq 3 t85 t86 fun t87=>
 ob (GV.asB t87) fun q88=>jn (bC q88 (oN [x83,x84] H) (oR [(.bool false)] H)) fun vs89 h90=>U2 vs89 fun a91 a92=>jn (nB 0 (ql 0 [a91,a92,(i 0)] h90)) fun vs93 h94=>U0 vs93 (oR [(.bool true)] h94)
def L0 (c:CH) (ql:QH) (us:List GV) (H:GH):RS:=U3 us fun a95 a96 a97=>jn (ln 22 a95 fun t98=>
 bn .lss 3 a97 t98 fun t99=>
 ob (GV.asB t99) fun q100=>jn (bC q100 (oX 0 [] H) (oN [a95,a96,a97] H)) fun vs101 h102=>U3 vs101 fun a103 a104 a105=>jn (nB 1 (ix 22 a103 a105 fun t106=>
 ld 3 t106 h102 fun t107=>
 ix 22 a104 a105 fun t108=>
 ld 3 t108 h102 fun t109=>
 bn .neq 3 t107 t109 fun t110=>
 ob (GV.asB t110) fun q111=>jn (bC q111 (oN [a103,a104,a105] h102) (oR [(.bool false)] h102)) fun vs112 h113=>U3 vs112 fun a114 a115 a116=>oN [a114,a115,a116] h113)) fun vs117 h118=>U3 vs117 fun a119 a120 a121=>bn .add 3 a121 (i 1) fun t122=>
 oN [a119,a120,t122] h118) (ql 0)
def B19 (c:CH) (ql:QH) (us:List GV) (H:GH):RS:=U4 us fun x123 x124 x125 x126=>
 kOR (vBox x123 H) fun t127 h128=>
 kOR (vBox x124 h128) fun t129 h130=>
 ld 42 t127 h130 fun t131=>
 ld 25 t129 h130 fun t132=>
 K c 44 [t131,t132,x125] h130 fun t133 h134=>
 bn .andNot 27 t133 x126 fun t135=>
 oR [t135] h134
def B20 (c:CH) (ql:QH) (us:List GV) (H:GH):RS:=U1 us fun x136=>
 kOR (vAlloc y 42 H) fun t137 h138=>
 K c 45 [x136] h138 fun t139 h140=>
 ex 0 t139 fun t141=>
 ex 1 t139 fun t142=>
 ex 2 t139 fun t143=>
 kOR (vAlloc y 42 h140) fun t144 h145=>
 kOR (vStore y 42 t144 t141 h145) fun t146 h147=>
 ld 42 t144 h147 fun t148=>
 kOR (vStore y 42 t137 t148 h147) fun t149 h150=>
 ob (ob (vLoad y 42 t137 h150) fun r151=>some [r151]) fun vs152=>oR vs152 h150
def B21 (c:CH) (ql:QH) (us:List GV) (H:GH):RS:=U0 us (oR [(.str 6706143830449764899556809608818904919804074884937111603718476495539622089622860971527792587791047894922729163212717263328395231852300855536488424978955807703755604513825873373095632290149847090083112304426652546340939400726262280257803792487332445892473582856512649637013408585975292850644760247287299230258062944610265801223788397479914840704983105145953743025358843726328641031619437354017789814719882883570583131354112070717477863523377784965938515931160728579383844655360852857429048595849656685311997067516701048769715945338084683118784715135226216982869351630641616464718832441949492048937096570154901286325463543707328254906190863546417377904 270)] H)
def B44 (c:CH) (ql:QH) (us:List GV) (H:GH):RS:=U3 us fun x153 x154 x155=>
 kOR (vBox x153 H) fun t156 h157=>
 kOR (vBox x154 h157) fun t158 h159=>
 ld 42 t156 h159 fun t160=>
 ld 25 t158 h159 fun t161=>
 K c 56 [t160,t161,x155] h159 fun t162 h163=>
 ob (vUn .not t162) fun t164=>
 ob (GV.asB t164) fun q165=>jn (bC q165 (oN [x155,t156,t158] h163) (oR [(.int .u32 (.ofNat 0))] h163)) fun vs166 h167=>U3 vs166 fun a168 a169 a170=>ld 42 a169 h167 fun t171=>
 ld 25 a170 h167 fun t172=>
 K c 57 [t171,t172] h167 fun t173 h174=>
 K c 58 [t173,a168] h174 fun t175 h176=>
 oR [t175] h176
def B45 (c:CH) (ql:QH) (us:List GV) (H:GH):RS:=U1 us fun x177=>
 kOR (vAlloc y 42 H) fun t178 h179=>
 K c 59 [x177] h179 fun t180 h181=>
 ex 0 t180 fun t182=>
 ex 1 t180 fun t183=>
 ex 2 t180 fun t184=>
 bn .neq 69 t184 (i 0) fun t185=>
 ob (GV.asB t185) fun q186=>jn (bC q186 (oN [x177,t178,t182] h181) (bd 42 [] fun t187=>
 kOR (vStore y 42 t178 t187 h181) fun t188 h189=>
 ob (ob (vLoad y 42 t178 h189) fun r190=>some [r190,t183,t184]) fun vs191=>oR vs191 h189)) fun vs192 h193=>U3 vs192 fun a194 a195 a196=>bd 89 [(0,a194),(1,a196)] fun t197=>
 bd 91 [(0,t197)] fun t198=>
 kOR (vBox t198 h193) fun t199 h200=>
 K c 60 [(.fn 61 [t199] [])] h200 fun t201 h202=>
 ex 0 t201 fun t203=>
 ex 1 t201 fun t204=>
 bn .neq 69 t204 (i 0) fun t205=>
 ob (GV.asB t205) fun q206=>jn (bC q206 (oN [a195,t199] h202) (bd 42 [] fun t207=>
 kOR (vStore y 42 a195 t207 h202) fun t208 h209=>
 ob (ob (vLoad y 42 a195 h209) fun r210=>some [r210,t203,t204]) fun vs211=>oR vs211 h209)) fun vs212 h213=>U2 vs212 fun a214 a215=>ob (GV.nilck a215) fun t216=>
 fd 91 1 t216 fun t217=>
 fd 42 1 t217 fun t218=>
 ld 36 t218 h213 fun t219=>
 ln 36 t219 fun t220=>
 bn .eql 3 t220 (i 0) fun t221=>
 ob (GV.asB t221) fun q222=>jn (bC q222 (oN [a214,a215] h213) (bd 42 [] fun t223=>
 kOR (vStore y 42 a214 t223 h213) fun t224 h225=>
 ob (ob (vLoad y 42 a214 h225) fun r226=>some [r226,(i 0),(i 3)]) fun vs227=>oR vs227 h225)) fun vs228 h229=>U2 vs228 fun a230 a231=>ob (GV.nilck a231) fun t232=>
 fd 91 1 t232 fun t233=>
 ld 42 t233 h229 fun t234=>
 K c 62 [t234] h229 fun t235 h236=>
 bn .neq 69 t235 (i 0) fun t237=>
 ob (GV.asB t237) fun q238=>jn (bC q238 (oN [a230,a231] h236) (bd 42 [] fun t239=>
 kOR (vStore y 42 a230 t239 h236) fun t240 h241=>
 ob (ob (vLoad y 42 a230 h241) fun r242=>some [r242,(i 0),t235]) fun vs243=>oR vs243 h241)) fun vs244 h245=>U2 vs244 fun a246 a247=>ob (GV.nilck a247) fun t248=>
 fd 91 1 t248 fun t249=>
 ld 42 t249 h245 fun t250=>
 kOR (vStore y 42 a246 t250 h245) fun t251 h252=>
 ob (ob (vLoad y 42 a246 h252) fun r253=>some [r253,(i 0),(i 0)]) fun vs254=>oR vs254 h252
def B56 (c:CH) (ql:QH) (us:List GV) (H:GH):RS:=U3 us fun x255 x256 x257=>
 kOR (vBox x255 H) fun t258 h259=>
 kOR (vBox x256 h259) fun t260 h261=>
 ld 42 t258 h261 fun t262=>
 ld 25 t260 h261 fun t263=>
 K c 68 [t262,t263,x257] h261 fun t264 h265=>
 bn .eql 69 t264 (i 0) fun t266=>
 oR [t266] h265
def B57 (c:CH) (ql:QH) (us:List GV) (H:GH):RS:=U2 us fun x267 x268=>
 kOR (vBox x267 H) fun t269 h270=>
 kOR (vBox x268 h270) fun t271 h272=>
 ld 42 t269 h272 fun t273=>
 ob (Option.casesOn (motive:=fun _=>Option (Option (Nat×Nat))) (ob (GV.asP t269) fun p=>some p.1) (some none) fun k275=>ob (GH.ver h272 k275) fun k276=>some (some (k275,k276))) fun e274=>
 ld 42 t269 h272 fun t277=>
 ob (Option.casesOn (motive:=fun _=>Option (Option (Nat×Nat))) (ob (GV.asP t269) fun p=>some p.1) (some none) fun k279=>ob (GH.ver h272 k279) fun k280=>some (some (k279,k280))) fun e278=>
 ld 25 t271 h272 fun t281=>
 ob (Option.casesOn (motive:=fun _=>Option (Option (Nat×Nat))) (ob (GV.asP t271) fun p=>some p.1) (some none) fun k283=>ob (GH.ver h272 k283) fun k284=>some (some (k283,k284))) fun e282=>
 K c 69 [t277,t281] h272 fun t285 h286=>
 ob (pck h286 e274 (some ())) fun _=>
 ld 42 t269 h286 fun t287=>
 ob (Option.casesOn (motive:=fun _=>Option (Option (Nat×Nat))) (ob (GV.asP t269) fun p=>some p.1) (some none) fun k289=>ob (GH.ver h286 k289) fun k290=>vck h272 k289 k290 (some (some (k289,k290)))) fun e288=>
 ld 25 t271 h286 fun t291=>
 ob (Option.casesOn (motive:=fun _=>Option (Option (Nat×Nat))) (ob (GV.asP t271) fun p=>some p.1) (some none) fun k293=>ob (GH.ver h286 k293) fun k294=>vck h272 k293 k294 (some (some (k293,k294)))) fun e292=>
 K c 70 [t287,t291] h286 fun t295 h296=>
 ob (pck h296 e274 (some ())) fun _=>
 bd 109 [(0,t273),(1,t285),(2,t295)] fun t297=>
 kOR (vBox t297 h296) fun t298 h299=>
 ob (some ()) fun _=>
 oR [t298] h299
def B58 (c:CH) (ql:QH) (us:List GV) (H:GH):RS:=U2 us fun x300 x301=>
 kOR (vBox x300 H) fun t302 h303=>
 kOR (vBox x301 h303) fun t304 h305=>
 ld 80 t302 h305 fun t306=>
 ob (GV.nilck t306) fun t307=>
 fd 109 2 t307 fun t308=>
 ld 106 t308 h305 fun t309=>
 ln 106 t309 fun t310=>
 K c 71 [t310,(.fn 72 [] [t302,t304])] h305 fun t311 h312=>
 oR [t311] h312
def B59 (c:CH) (ql:QH) (us:List GV) (H:GH):RS:=U1 us fun x313=>
 ln 9 x313 fun t314=>
 bn .gtr 3 t314 (i 16384) fun t315=>
 ob (GV.asB t315) fun q316=>jn (bC q316 (oN [x313] H) (oR [.snil,(i 0),(i 3)] H)) fun vs317 h318=>U1 vs317 fun a319=>K c 74 [a319,(i 0)] h318 fun t320 h321=>
 jn (nB 0 (ql 1 [a319,.snil,t320] h321)) fun vs322 h323=>U1 vs322 fun a324=>oR [a324,(i 0),(i 0)] h323
def L1 (c:CH) (ql:QH) (us:List GV) (H:GH):RS:=U3 us fun a325 a326 a327=>jn (ln 9 a325 fun t328=>
 bn .lss 3 a327 t328 fun t329=>
 ob (GV.asB t329) fun q330=>jn (bC q330 (oX 0 [a326] H) (oN [a325,a326,a327] H)) fun vs331 h332=>U3 vs331 fun a333 a334 a335=>jn (nB 1 (ln 83 a334 fun t336=>
 bn .eql 3 t336 (i 4096) fun t337=>
 ob (GV.asB t337) fun q338=>jn (bC q338 (oN [a333,a334,a335] h332) (oR [.snil,a335,(i 3)] h332)) fun vs339 h340=>U3 vs339 fun a341 a342 a343=>K c 75 [a341,a343] h340 fun t344 h345=>
 ex 0 t344 fun t346=>
 ex 1 t344 fun t347=>
 kOR (vAlloc y 115 h345) fun t348 h349=>
 kOR (vStore y 115 t348 t346 h349) fun t350 h351=>
 bn .neq 69 t347 (i 0) fun t352=>
 ob (GV.asB t352) fun q353=>jn (bC q353 (oN [a341,a342,t348] h351) (oR [.snil,a343,t347] h351)) fun vs354 h355=>U3 vs354 fun a356 a357 a358=>ld 115 a358 h355 fun t359=>
 kOR (vBuildS y 83 1 [(0,t359)] h355) fun t360 h361=>
 kOR (vApp y 83 83 a357 t360 h361) fun t362 h363=>
 fd 115 2 a358 fun t364=>
 ld 3 t364 h363 fun t365=>
 K c 74 [a356,t365] h363 fun t366 h367=>
 oN [a356,t362,t366] h367)) fun vs368 h369=>U3 vs368 fun a370 a371 a372=>oN [a370,a371,a372] h369) (ql 1)
def B61 (c:CH) (ql:QH) (us:List GV) (H:GH):RS:=U1 us fun x373=>
 ob (GV.nilck x373) fun t374=>
 fd 91 0 t374 fun t375=>
 K c 78 [t375,(.str 30787916450984560 7)] H fun t376 h377=>
 K c 79 [x373,.snil] h377 fun t378 h379=>
 ob (GV.nilck x373) fun t380=>
 fd 91 1 t380 fun t381=>
 fd 42 0 t381 fun t382=>
 kOR (vStore y 9 t382 t378 h379) fun t383 h384=>
 ob (GV.nilck x373) fun t385=>
 fd 91 0 t385 fun t386=>
 K c 78 [t386,(.str 59 1)] h384 fun t387 h388=>
 K c 80 [x373,(.str 7496054 3),(i 6),(.fn 81 [x373] [])] h388 fun t389 h390=>
 K c 80 [x373,(.str 1701606770 4),(i 12),(.fn 82 [x373] [])] h390 fun t391 h392=>
 ob (GV.nilck x373) fun t393=>
 fd 91 0 t393 fun t394=>
 K c 83 [t394] h392 fun t395 h396=>
 ob (vUn .not t395) fun t397=>
 ob (GV.asB t397) fun q398=>jn (bC q398 (oN [] h396) (ob (GV.nilck x373) fun t399=>
 fd 91 0 t399 fun t400=>
 K c 84 [t400,(i 4)] h396 fun t401 h402=>
 oN [] h402)) fun vs403 h404=>U0 vs403 (oR [] h404)
def B62 (c:CH) (ql:QH) (us:List GV) (H:GH):RS:=U1 us fun x405=>
 kOR (vBox x405 H) fun t406 h407=>
 fd 42 1 t406 fun t408=>
 ld 36 t408 h407 fun t409=>
 ln 36 t409 fun t410=>
 bn .eql 3 t410 (i 0) fun t411=>
 kOR (rG t411 false h407 (ob (vField y 42 1 t406) fun g412=>some (g412,h407))) fun t413 h414=>
 kOR (rG t411 false h414 (ob (vLoad y 36 t413 h414) fun g415=>some (g415,h414))) fun t416 h417=>
 kOR (rG t411 false h417 (ob (vLen y 36 t416) fun g418=>some (g418,h417))) fun t419 h420=>
 kOR (rG t411 false h420 (ob (vBin y .gtr 3 t419 (i 6)) fun g421=>some (g421,h420))) fun t422 h423=>
 ob (vPick t411 (.bool true) t422) fun t424=>
 kOR (rG t424 false h423 (ob (vField y 42 2 t406) fun g425=>some (g425,h423))) fun t426 h427=>
 kOR (rG t424 false h427 (ob (vLoad y 40 t426 h427) fun g428=>some (g428,h427))) fun t429 h430=>
 kOR (rG t424 false h430 (ob (vLen y 40 t429) fun g431=>some (g431,h430))) fun t432 h433=>
 kOR (rG t424 false h433 (ob (vBin y .gtr 3 t432 (i 12)) fun g434=>some (g434,h433))) fun t435 h436=>
 ob (vPick t424 (.bool true) t435) fun t437=>
 ob (GV.asB t437) fun q438=>jn (bC q438 (oN [t406] h436) (oR [(i 3)] h436)) fun vs439 h440=>U1 vs439 fun a441=>ld 42 a441 h440 fun t442=>
 K c 85 [t442] h440 fun t443 h444=>
 ob (vUn .not t443) fun t445=>
 ob (GV.asB t445) fun q446=>jn (bC q446 (oN [a441] h444) (oR [(i 5)] h444)) fun vs447 h448=>U1 vs447 fun a449=>fd 42 1 a449 fun t450=>
 ld 36 t450 h448 fun t451=>
 ln 36 t451 fun t452=>
 jn (nB 0 (ql 2 [a449,t451,t452,(i 0)] h448)) fun vs453 h454=>U1 vs453 fun a455=>fd 42 2 a455 fun t456=>
 ld 40 t456 h454 fun t457=>
 ln 40 t457 fun t458=>
 jn (nB 2 (ql 3 [a455,t457,t458,(i 0)] h454)) fun vs459 h460=>U1 vs459 fun a461=>ld 42 a461 h460 fun t462=>
 K c 88 [t462] h460 fun t463 h464=>
 fd 42 2 a461 fun t465=>
 ld 40 t465 h464 fun t466=>
 ln 40 t466 fun t467=>
 jn (nB 4 (ql 4 [t463,t466,t467,(i 0)] h464)) fun vs468 h469=>U0 vs468 (oR [(i 0)] h469)
def L2 (c:CH) (ql:QH) (us:List GV) (H:GH):RS:=U4 us fun a470 a471 a472 a473=>jn (bn .lss 3 a473 a472 fun t474=>
 ob (GV.asB t474) fun q475=>jn (bC q475 (oX 0 [a470] H) (oN [a470,a471,a472,a473] H)) fun vs476 h477=>U4 vs476 fun a478 a479 a480 a481=>jn (nB 1 (ix 36 a479 a481 fun t482=>
 ld 62 t482 h477 fun t483=>
 kOR (vAlloc y 62 h477) fun t484 h485=>
 kOR (vStore y 62 t484 t483 h485) fun t486 h487=>
 ld 62 t484 h487 fun t488=>
 K c 86 [t488] h487 fun t489 h490=>
 ob (vUn .not t489) fun t491=>
 ob (GV.asB t491) fun q492=>jn (bC q492 (oN [a478,a479,a480,a481] h490) (oR [(i 2)] h490)) fun vs493 h494=>U4 vs493 fun a495 a496 a497 a498=>oN [a495,a496,a497,a498] h494)) fun vs499 h500=>U4 vs499 fun a501 a502 a503 a504=>bn .add 3 a504 (i 1) fun t505=>
 oN [a501,a502,a503,t505] h500) (ql 2)
def L3 (c:CH) (ql:QH) (us:List GV) (H:GH):RS:=U4 us fun a506 a507 a508 a509=>jn (bn .lss 3 a509 a508 fun t510=>
 ob (GV.asB t510) fun q511=>jn (bC q511 (oX 2 [a506] H) (oN [a506,a507,a508,a509] H)) fun vs512 h513=>U4 vs512 fun a514 a515 a516 a517=>jn (nB 3 (ix 40 a515 a517 fun t518=>
 ld 131 t518 h513 fun t519=>
 kOR (vAlloc y 131 h513) fun t520 h521=>
 kOR (vStore y 131 t520 t519 h521) fun t522 h523=>
 ld 131 t520 h523 fun t524=>
 fd 42 1 a514 fun t525=>
 ld 36 t525 h523 fun t526=>
 ln 36 t526 fun t527=>
 K c 87 [t524,t527] h523 fun t528 h529=>
 ob (vUn .not t528) fun t530=>
 ob (GV.asB t530) fun q531=>jn (bC q531 (oN [a514,a515,a516,a517] h529) (oR [(i 7)] h529)) fun vs532 h533=>U4 vs532 fun a534 a535 a536 a537=>oN [a534,a535,a536,a537] h533)) fun vs538 h539=>U4 vs538 fun a540 a541 a542 a543=>bn .add 3 a543 (i 1) fun t544=>
 oN [a540,a541,a542,t544] h539) (ql 3)
def L4 (c:CH) (ql:QH) (us:List GV) (H:GH):RS:=U4 us fun a545 a546 a547 a548=>jn (bn .lss 3 a548 a547 fun t549=>
 ob (GV.asB t549) fun q550=>jn (bC q550 (oX 4 [] H) (oN [a545,a546,a547,a548] H)) fun vs551 h552=>U4 vs551 fun a553 a554 a555 a556=>jn (nB 5 (ix 40 a554 a556 fun t557=>
 ld 131 t557 h552 fun t558=>
 kOR (vAlloc y 131 h552) fun t559 h560=>
 kOR (vStore y 131 t559 t558 h560) fun t561 h562=>
 ld 131 t559 h562 fun t563=>
 K c 89 [t563,a553] h562 fun t564 h565=>
 ob (vUn .not t564) fun t566=>
 ob (GV.asB t566) fun q567=>jn (bC q567 (oN [a553,a554,a555,a556] h565) (oR [(i 6)] h565)) fun vs568 h569=>U4 vs568 fun a570 a571 a572 a573=>oN [a570,a571,a572,a573] h569)) fun vs574 h575=>U4 vs574 fun a576 a577 a578 a579=>bn .add 3 a579 (i 1) fun t580=>
 oN [a576,a577,a578,t580] h575) (ql 4)
def B68 (c:CH) (ql:QH) (us:List GV) (H:GH):RS:=U3 us fun x581 x582 x583=>
 kOR (vBox x581 H) fun t584 h585=>
 kOR (vBox x582 h585) fun t586 h587=>
 ld 42 t584 h587 fun t588=>
 ld 25 t586 h587 fun t589=>
 K c 90 [t588,t589] h587 fun t590 h591=>
 bn .neq 69 t590 (i 0) fun t592=>
 ob (GV.asB t592) fun q593=>jn (bC q593 (oN [x583,t584,t586] h591) (oR [t590] h591)) fun vs594 h595=>U3 vs594 fun a596 a597 a598=>ld 42 a597 h595 fun t599=>
 ld 25 a598 h595 fun t600=>
 K c 70 [t599,t600] h595 fun t601 h602=>
 K c 91 [t601,a596] h602 fun t603 h604=>
 ob (vUn .not t603) fun t605=>
 ob (GV.asB t605) fun q606=>jn (bC q606 (oN [] h604) (oR [(i 10)] h604)) fun vs607 h608=>U0 vs607 (oR [(i 0)] h608)
def B69 (c:CH) (ql:QH) (us:List GV) (H:GH):RS:=U2 us fun x609 x610=>
 kOR (vBox x609 H) fun t611 h612=>
 kOR (vBox x610 h612) fun t613 h614=>
 ld 42 t611 h614 fun t615=>
 ob (Option.casesOn (motive:=fun _=>Option (Option (Nat×Nat))) (ob (GV.asP t611) fun p=>some p.1) (some none) fun k617=>ob (GH.ver h614 k617) fun k618=>some (some (k617,k618))) fun e616=>
 ld 25 t613 h614 fun t619=>
 ob (Option.casesOn (motive:=fun _=>Option (Option (Nat×Nat))) (ob (GV.asP t613) fun p=>some p.1) (some none) fun k621=>ob (GH.ver h614 k621) fun k622=>some (some (k621,k622))) fun e620=>
 fd 25 1 t613 fun t623=>
 ld 23 t623 h614 fun t624=>
 ob (Option.casesOn (motive:=fun _=>Option (Option (Nat×Nat))) (ob (GV.asP t623) fun p=>some p.1) (some none) fun k626=>ob (GH.ver h614 k626) fun k627=>some (some (k626,k627))) fun e625=>
 ln 23 t624 fun t628=>
 kOR (vMake y 26 t628 t628 h614) fun t629 h630=>
 ob (pck h630 e620 (pck h630 e616 (some ()))) fun _=>
 bd 138 [(0,t615),(1,t619),(3,t629)] fun t631=>
 kOR (vBox t631 h630) fun t632 h633=>
 ob (some ()) fun _=>
 fd 25 1 t613 fun t634=>
 ld 23 t634 h633 fun t635=>
 ln 23 t635 fun t636=>
 jn (nB 0 (ql 5 [t613,t632,t635,t636,(i 0)] h633)) fun vs637 h638=>U1 vs637 fun a639=>oR [a639] h638
def L5 (c:CH) (ql:QH) (us:List GV) (H:GH):RS:=U5 us fun a640 a641 a642 a643 a644=>jn (bn .lss 3 a644 a643 fun t645=>
 ob (GV.asB t645) fun q646=>jn (bC q646 (oX 0 [a641] H) (oN [a640,a641,a642,a643,a644] H)) fun vs647 h648=>U5 vs647 fun a649 a650 a651 a652 a653=>jn (nB 1 (ix 23 a651 a653 fun t654=>
 ld 59 t654 h648 fun t655=>
 ob (GV.nilck a650) fun t656=>
 fd 138 2 t656 fun t657=>
 ld 3 t657 h648 fun t658=>
 fd 25 0 a649 fun t659=>
 ld 22 t659 h648 fun t660=>
 ix 22 t660 a653 fun t661=>
 ld 3 t661 h648 fun t662=>
 ob (vMax t658 t662) fun t663=>
 ob (GV.nilck a650) fun t664=>
 fd 138 2 t664 fun t665=>
 kOR (vStore y 3 t665 t663 h648) fun t666 h667=>
 ln 59 t655 fun t668=>
 jn (nB 2 (ql 6 [a649,a650,a653,a651,a652,a653,t655,t668,(i 0)] h667)) fun vs669 h670=>U5 vs669 fun a671 a672 a673 a674 a675=>oN [a671,a672,a673,a674,a675] h670)) fun vs676 h677=>U5 vs676 fun a678 a679 a680 a681 a682=>bn .add 3 a682 (i 1) fun t683=>
 oN [a678,a679,a680,a681,t683] h677) (ql 5)
def L6 (c:CH) (ql:QH) (us:List GV) (H:GH):RS:=U9 us fun a684 a685 a686 a687 a688 a689 a690 a691 a692=>jn (bn .lss 3 a692 a691 fun t693=>
 ob (GV.asB t693) fun q694=>jn (bC q694 (oX 2 [a684,a685,a687,a688,a689] H) (oN [a684,a685,a686,a687,a688,a689,a690,a691,a692] H)) fun vs695 h696=>U9 vs695 fun a697 a698 a699 a700 a701 a702 a703 a704 a705=>jn (nB 3 (ix 59 a703 a705 fun t706=>
 ld 51 t706 h696 fun t707=>
 kOR (vAlloc y 51 h696) fun t708 h709=>
 kOR (vStore y 51 t708 t707 h709) fun t710 h711=>
 ob (GV.nilck a698) fun t712=>
 fd 138 3 t712 fun t713=>
 ld 26 t713 h711 fun t714=>
 ob (Option.casesOn (motive:=fun _=>Option (Option (Nat×Nat))) (ob (GV.asP t713) fun p=>some p.1) (some none) fun k716=>ob (GH.ver h711 k716) fun k717=>some (some (k716,k717))) fun e715=>
 ob (GV.nilck a698) fun t718=>
 fd 138 3 t718 fun t719=>
 ld 26 t719 h711 fun t720=>
 ob (Option.casesOn (motive:=fun _=>Option (Option (Nat×Nat))) (ob (GV.asP t719) fun p=>some p.1) (some none) fun k722=>ob (GH.ver h711 k722) fun k723=>some (some (k722,k723))) fun e721=>
 ix 26 t720 a699 fun t724=>
 ld 22 t724 h711 fun t725=>
 ob (Option.casesOn (motive:=fun _=>Option (Option (Nat×Nat))) (ob (GV.asP t724) fun p=>some p.1) (some none) fun k727=>ob (GH.ver h711 k727) fun k728=>some (some (k727,k728))) fun e726=>
 ld 25 a697 h711 fun t729=>
 ob (Option.casesOn (motive:=fun _=>Option (Option (Nat×Nat))) (ob (GV.asP a697) fun p=>some p.1) (some none) fun k731=>ob (GH.ver h711 k731) fun k732=>some (some (k731,k732))) fun e730=>
 fd 51 0 t708 fun t733=>
 ld 3 t733 h711 fun t734=>
 ob (Option.casesOn (motive:=fun _=>Option (Option (Nat×Nat))) (ob (GV.asP t733) fun p=>some p.1) (some none) fun k736=>ob (GH.ver h711 k736) fun k737=>some (some (k736,k737))) fun e735=>
 K c 92 [t729,t734,a699] h711 fun t738 h739=>
 ob (pck h739 e726 (pck h739 e721 (pck h739 e715 (some ())))) fun _=>
 kOR (vBuildS y 22 1 [(0,t738)] h739) fun t740 h741=>
 ob (pck h741 e726 (pck h741 e721 (pck h741 e715 (some ())))) fun _=>
 kOR (vApp y 22 22 t725 t740 h741) fun t742 h743=>
 ob (pck h743 e715 (some ())) fun _=>
 ix 26 t714 a699 fun t744=>
 kOR (vStore y 22 t744 t742 h743) fun t745 h746=>
 ob (some ()) fun _=>
 oN [a697,a698,a699,a700,a701,a702,a703,a704,a705] h746)) fun vs747 h748=>U9 vs747 fun a749 a750 a751 a752 a753 a754 a755 a756 a757=>bn .add 3 a757 (i 1) fun t758=>
 oN [a749,a750,a751,a752,a753,a754,a755,a756,t758] h748) (ql 6)
def B70 (c:CH) (ql:QH) (us:List GV) (H:GH):RS:=U2 us fun x759 x760=>
 kOR (vBox x759 H) fun t761 h762=>
 kOR (vBox x760 h762) fun t763 h764=>
 fd 25 0 t763 fun t765=>
 ld 22 t765 h764 fun t766=>
 ln 22 t766 fun t767=>
 kOR (vMake y 106 t767 t767 h764) fun t768 h769=>
 ln 106 t768 fun t770=>
 jn (nB 0 (ql 7 [t761,t763,t768,t770,(i 0)] h769)) fun vs771 h772=>U1 vs771 fun a773=>oR [a773] h772
def L7 (c:CH) (ql:QH) (us:List GV) (H:GH):RS:=U5 us fun a774 a775 a776 a777 a778=>jn (bn .lss 3 a778 a777 fun t779=>
 ob (GV.asB t779) fun q780=>jn (bC q780 (oX 0 [a776] H) (oN [a774,a775,a776,a777,a778] H)) fun vs781 h782=>U5 vs781 fun a783 a784 a785 a786 a787=>jn (nB 1 (fd 42 1 a783 fun t788=>
 ld 36 t788 h782 fun t789=>
 ln 36 t789 fun t790=>
 kOR (vMake y 139 t790 t790 h782) fun t791 h792=>
 ix 106 a785 a787 fun t793=>
 kOR (vStore y 139 t793 t791 h792) fun t794 h795=>
 fd 42 1 a783 fun t796=>
 ld 36 t796 h795 fun t797=>
 ln 36 t797 fun t798=>
 jn (nB 2 (ql 8 [a783,a784,a785,a787,a786,a787,t797,t798,(i 0)] h795)) fun vs799 h800=>U5 vs799 fun a801 a802 a803 a804 a805=>oN [a801,a802,a803,a804,a805] h800)) fun vs806 h807=>U5 vs806 fun a808 a809 a810 a811 a812=>bn .add 3 a812 (i 1) fun t813=>
 oN [a808,a809,a810,a811,t813] h807) (ql 7)
def L8 (c:CH) (ql:QH) (us:List GV) (H:GH):RS:=U9 us fun a814 a815 a816 a817 a818 a819 a820 a821 a822=>jn (bn .lss 3 a822 a821 fun t823=>
 ob (GV.asB t823) fun q824=>jn (bC q824 (oX 2 [a814,a815,a816,a818,a819] H) (oN [a814,a815,a816,a817,a818,a819,a820,a821,a822] H)) fun vs825 h826=>U9 vs825 fun a827 a828 a829 a830 a831 a832 a833 a834 a835=>jn (nB 3 (ix 36 a833 a835 fun t836=>
 ld 62 t836 h826 fun t837=>
 kOR (vAlloc y 62 h826) fun t838 h839=>
 kOR (vStore y 62 t838 t837 h839) fun t840 h841=>
 ix 106 a829 a830 fun t842=>
 ld 139 t842 h841 fun t843=>
 ob (Option.casesOn (motive:=fun _=>Option (Option (Nat×Nat))) (ob (GV.asP t842) fun p=>some p.1) (some none) fun k845=>ob (GH.ver h841 k845) fun k846=>some (some (k845,k846))) fun e844=>
 ix 106 a829 a830 fun t847=>
 ld 139 t847 h841 fun t848=>
 ob (Option.casesOn (motive:=fun _=>Option (Option (Nat×Nat))) (ob (GV.asP t847) fun p=>some p.1) (some none) fun k850=>ob (GH.ver h841 k850) fun k851=>some (some (k850,k851))) fun e849=>
 ld 62 t838 h841 fun t852=>
 ob (Option.casesOn (motive:=fun _=>Option (Option (Nat×Nat))) (ob (GV.asP t838) fun p=>some p.1) (some none) fun k854=>ob (GH.ver h841 k854) fun k855=>some (some (k854,k855))) fun e853=>
 ld 25 a828 h841 fun t856=>
 ob (Option.casesOn (motive:=fun _=>Option (Option (Nat×Nat))) (ob (GV.asP a828) fun p=>some p.1) (some none) fun k858=>ob (GH.ver h841 k858) fun k859=>some (some (k858,k859))) fun e857=>
 K c 93 [t852,t856,a830] h841 fun t860 h861=>
 ob (pck h861 e849 (pck h861 e844 (some ()))) fun _=>
 ex 0 t860 fun t862=>
 ex 1 t860 fun t863=>
 ix 139 t843 a835 fun t864=>
 ix 97 t864 (i 0) fun t865=>
 kOR (vStore y 3 t865 t862 h861) fun t866 h867=>
 ob (some ()) fun _=>
 ix 139 t848 a835 fun t868=>
 ix 97 t868 (i 1) fun t869=>
 kOR (vStore y 3 t869 t863 h867) fun t870 h871=>
 ob (some ()) fun _=>
 oN [a827,a828,a829,a830,a831,a832,a833,a834,a835] h871)) fun vs872 h873=>U9 vs872 fun a874 a875 a876 a877 a878 a879 a880 a881 a882=>bn .add 3 a882 (i 1) fun t883=>
 oN [a874,a875,a876,a877,a878,a879,a880,a881,t883] h873) (ql 8)
def B71 (c:CH) (ql:QH) (us:List GV) (H:GH):RS:=U2 us fun x884 x885=>
 jn (nB 0 (ql 9 [x885,(.int .u32 (.ofNat 0)),x884,(i 0)] H)) fun vs886 h887=>U1 vs886 fun a888=>oR [a888] h887
def L9 (c:CH) (ql:QH) (us:List GV) (H:GH):RS:=U4 us fun a889 a890 a891 a892=>jn (bn .lss 3 a892 a891 fun t893=>
 ob (GV.asB t893) fun q894=>jn (bC q894 (oX 0 [a890] H) (oN [a889,a890,a891,a892] H)) fun vs895 h896=>U4 vs895 fun a897 a898 a899 a900=>jn (nB 1 (ob (GV.asF a897) fun p903=>kOR (c p903.1 (p903.2.1++[a900]++p903.2.2) h896) fun t901 h902=>
 ob (GV.asB t901) fun q904=>jn (bC q904 (oN [a897,a898,a899,a900] h902) (bn .shl 27 (.int .u32 (.ofNat 1)) a900 fun t905=>
 bn .or 27 a898 t905 fun t906=>
 oN [a897,t906,a899,a900] h902)) fun vs907 h908=>U4 vs907 fun a909 a910 a911 a912=>oN [a909,a910,a911,a912] h908)) fun vs913 h914=>U4 vs913 fun a915 a916 a917 a918=>bn .add 3 a918 (i 1) fun t919=>
 oN [a915,a916,a917,t919] h914) (ql 9)
def B72 (c:CH) (ql:QH) (us:List GV) (H:GH):RS:=U3 us fun x920 x921 x922=>
 ld 80 x921 H fun t923=>
 ld 26 x922 H fun t924=>
 K c 73 [t923,t924,x920] H fun t925 h926=>
 bn .geq 3 t925 (i 0) fun t927=>
 oR [t927] h926
def B73 (c:CH) (ql:QH) (us:List GV) (H:GH):RS:=U3 us fun x928 x929 x930=>
 ob (GV.nilck x928) fun t931=>
 fd 109 0 t931 fun t932=>
 fd 42 2 t932 fun t933=>
 ld 40 t933 H fun t934=>
 ln 40 t934 fun t935=>
 jn (nB 0 (ql 10 [x928,x929,x930,t935,(i 0)] H)) fun vs936 h937=>U0 vs936 (oR [(.int .i64 (.negSucc 0))] h937)
def L10 (c:CH) (ql:QH) (us:List GV) (H:GH):RS:=U5 us fun a938 a939 a940 a941 a942=>jn (bn .lss 3 a942 a941 fun t943=>
 ob (GV.asB t943) fun q944=>jn (bC q944 (oX 0 [] H) (oN [a938,a939,a940,a941,a942] H)) fun vs945 h946=>U5 vs945 fun a947 a948 a949 a950 a951=>jn (nB 1 (ob (GV.nilck a947) fun t952=>
 fd 109 1 t952 fun t953=>
 ld 104 t953 h946 fun t954=>
 K c 94 [t954,a948,a949,a951] h946 fun t955 h956=>
 ob (GV.asB t955) fun q957=>jn (bC q957 (oN [a947,a948,a949,a950,a951] h956) (oR [a951] h956)) fun vs958 h959=>U5 vs958 fun a960 a961 a962 a963 a964=>oN [a960,a961,a962,a963,a964] h959)) fun vs965 h966=>U5 vs965 fun a967 a968 a969 a970 a971=>bn .add 3 a971 (i 1) fun t972=>
 oN [a967,a968,a969,a970,t972] h966) (ql 10)
def B74 (c:CH) (ql:QH) (us:List GV) (H:GH):RS:=U2 us fun x973 x974=>
 jn (nB 0 (ql 11 [x973,x974] H)) fun vs975 h976=>U1 vs975 fun a977=>oR [a977] h976
def L11 (c:CH) (ql:QH) (us:List GV) (H:GH):RS:=U2 us fun a978 a979=>jn (ln 9 a978 fun t980=>
 bn .lss 3 a979 t980 fun t981=>
 ob (GV.asB t981) fun q982=>jn (bC q982 (oX 0 [a979] H) (oN [a978,a979] H)) fun vs983 h984=>U2 vs983 fun a985 a986=>jn (nB 1 (ob (vAt y 9 a985 a986) fun t987=>
 jn (nB 2 (bn .eql 5 t987 (.int .u8 (.ofNat 32)) fun t988=>
 ob (GV.asB t988) fun q989=>jn (bC q989 (bn .eql 5 t987 (.int .u8 (.ofNat 9)) fun t990=>
 ob (GV.asB t990) fun q991=>jn (bC q991 (bn .eql 5 t987 (.int .u8 (.ofNat 10)) fun t992=>
 ob (GV.asB t992) fun q993=>jn (bC q993 (bn .eql 5 t987 (.int .u8 (.ofNat 13)) fun t994=>
 oN [a985,a986,t987,t994] h984) (oN [a985,a986,t987,t992] h984)) fun vs995 h996=>U4 vs995 fun a997 a998 a999 a1000=>oN [a997,a998,a999,a1000] h996) (oN [a985,a986,t987,t990] h984)) fun vs1001 h1002=>U4 vs1001 fun a1003 a1004 a1005 a1006=>oN [a1003,a1004,a1005,a1006] h1002) (oN [a985,a986,t987,t988] h984)) fun vs1007 h1008=>U4 vs1007 fun a1009 a1010 a1011 a1012=>ob (GV.asB a1012) fun q1013=>jn (bC q1013 (bn .eql 5 a1011 (.int .u8 (.ofNat 35)) fun t1015=>
 ob (GV.asB t1015) fun q1016=>jn (bC q1016 (oR [a1010] h1008) (jn (nB 3 (ql 12 [a1009,a1010] h1008)) fun vs1017 h1018=>U2 vs1017 fun a1019 a1020=>oN [a1019,a1020] h1018)) fun vs1021 h1022=>U2 vs1021 fun a1023 a1024=>oN [a1023,a1024] h1022) (bn .add 3 a1010 (i 1) fun t1014=>
 oN [a1009,t1014] h1008)) fun vs1025 h1026=>U2 vs1025 fun a1027 a1028=>oN [a1027,a1028] h1026)) fun vs1029 h1030=>U2 vs1029 fun a1031 a1032=>oN [a1031,a1032] h1030)) fun vs1033 h1034=>U2 vs1033 fun a1035 a1036=>oN [a1035,a1036] h1034) (ql 11)
def L12 (c:CH) (ql:QH) (us:List GV) (H:GH):RS:=U2 us fun a1037 a1038=>jn (ln 9 a1037 fun t1039=>
 bn .lss 3 a1038 t1039 fun t1040=>
 kOR (rG t1040 true H (some (a1037,H))) fun t1041 h1042=>
 kOR (rG t1040 true h1042 (some (a1038,h1042))) fun t1043 h1044=>
 kOR (rG t1040 true h1044 (ob (vAt y 9 t1041 t1043) fun g1045=>some (g1045,h1044))) fun t1046 h1047=>
 kOR (rG t1040 true h1047 (ob (vBin y .neq 5 t1046 (.int .u8 (.ofNat 10))) fun g1048=>some (g1048,h1047))) fun t1049 h1050=>
 ob (vPick t1040 t1049 (.bool false)) fun t1051=>
 ob (GV.asB t1051) fun q1052=>jn (bC q1052 (oX 3 [a1037,a1038] h1050) (oN [a1037,a1038] h1050)) fun vs1053 h1054=>U2 vs1053 fun a1055 a1056=>jn (nB 4 (bn .add 3 a1056 (i 1) fun t1057=>
 oN [a1055,t1057] h1054)) fun vs1058 h1059=>U2 vs1058 fun a1060 a1061=>oN [a1060,a1061] h1059) (ql 12)
def B75 (c:CH) (ql:QH) (us:List GV) (H:GH):RS:=U2 us fun x1062 x1063=>
 kOR (vBox x1062 H) fun t1064 h1065=>
 kOR (vBox x1063 h1065) fun t1066 h1067=>
 kOR (vAlloc y 115 h1067) fun t1068 h1069=>
 ld 9 t1064 h1069 fun t1070=>
 ld 3 t1066 h1069 fun t1071=>
 ob (vAt y 9 t1070 t1071) fun t1072=>
 jn (nB 0 (K c 96 [t1072] h1069 fun t1073 h1074=>
 ob (GV.asB t1073) fun q1075=>jn (bC q1075 (K c 98 [t1072] h1074 fun t1099 h1100=>
 ob (GV.asB t1099) fun q1101=>jn (bC q1101 (oN [t1064,t1066,t1068] h1100) (ob (GV.asF (.fn 95 [] [t1066,t1064])) fun p1104=>kOR (c p1104.1 (p1104.2.1++[(.fn 98 [] [])]++p1104.2.2) h1100) fun t1102 h1103=>
 ld 9 t1064 h1103 fun t1105=>
 ld 3 t1066 h1103 fun t1106=>
 ob (vSlice y 9 t1105 (some t1106) (some t1102) h1103) fun t1107=>
 K c 99 [t1107] h1103 fun t1108 h1109=>
 ex 0 t1108 fun t1110=>
 ex 1 t1108 fun t1111=>
 ob (vUn .not t1111) fun t1112=>
 ob (GV.asB t1112) fun q1113=>jn (bC q1113 (oN [t1066,t1068,t1102,t1110] h1109) (bd 115 [] fun t1114=>
 kOR (vStore y 115 t1068 t1114 h1109) fun t1115 h1116=>
 ob (ob (vLoad y 115 t1068 h1116) fun r1117=>some [r1117,(i 2)]) fun vs1118=>oR vs1118 h1116)) fun vs1119 h1120=>U4 vs1119 fun a1121 a1122 a1123 a1124=>ld 3 a1121 h1120 fun t1125=>
 bd 115 [(0,(i 2)),(1,t1125),(2,a1123),(3,a1124)] fun t1126=>
 kOR (vStore y 115 a1122 t1126 h1120) fun t1127 h1128=>
 ob (ob (vLoad y 115 a1122 h1128) fun r1129=>some [r1129,(i 0)]) fun vs1130=>oR vs1130 h1128)) fun vs1131 h1132=>U3 vs1131 fun a1133 a1134 a1135=>oN [a1133,a1134,a1135] h1132) (ob (GV.asF (.fn 95 [] [t1066,t1064])) fun p1078=>kOR (c p1078.1 (p1078.2.1++[(.fn 97 [] [])]++p1078.2.2) h1074) fun t1076 h1077=>
 ld 3 t1066 h1077 fun t1079=>
 bn .sub 3 t1076 t1079 fun t1080=>
 bn .gtr 3 t1080 (i 24) fun t1081=>
 ob (GV.asB t1081) fun q1082=>jn (bC q1082 (oN [t1066,t1068,t1076] h1077) (bd 115 [] fun t1083=>
 kOR (vStore y 115 t1068 t1083 h1077) fun t1084 h1085=>
 ob (ob (vLoad y 115 t1068 h1085) fun r1086=>some [r1086,(i 5)]) fun vs1087=>oR vs1087 h1085)) fun vs1088 h1089=>U3 vs1088 fun a1090 a1091 a1092=>ld 3 a1090 h1089 fun t1093=>
 bd 115 [(0,(i 1)),(1,t1093),(2,a1092)] fun t1094=>
 kOR (vStore y 115 a1091 t1094 h1089) fun t1095 h1096=>
 ob (ob (vLoad y 115 a1091 h1096) fun r1097=>some [r1097,(i 0)]) fun vs1098=>oR vs1098 h1096)) fun vs1136 h1137=>U3 vs1136 fun a1138 a1139 a1140=>oN [a1138,a1139,a1140] h1137)) fun vs1141 h1142=>U3 vs1141 fun a1143 a1144 a1145=>ld 9 a1143 h1142 fun t1146=>
 ld 3 a1144 h1142 fun t1147=>
 ob (vSlice y 9 t1146 (some t1147) none h1142) fun t1148=>
 K c 100 [t1148] h1142 fun t1149 h1150=>
 bn .eql 3 t1149 (i 0) fun t1151=>
 ob (GV.asB t1151) fun q1152=>jn (bC q1152 (oN [a1144,a1145,t1149] h1150) (bd 115 [] fun t1153=>
 kOR (vStore y 115 a1145 t1153 h1150) fun t1154 h1155=>
 ob (ob (vLoad y 115 a1145 h1155) fun r1156=>some [r1156,(i 4)]) fun vs1157=>oR vs1157 h1155)) fun vs1158 h1159=>U3 vs1158 fun a1160 a1161 a1162=>ld 3 a1160 h1159 fun t1163=>
 ld 3 a1160 h1159 fun t1164=>
 bn .add 3 t1164 a1162 fun t1165=>
 bd 115 [(0,(i 3)),(1,t1163),(2,t1165)] fun t1166=>
 kOR (vStore y 115 a1161 t1166 h1159) fun t1167 h1168=>
 ob (ob (vLoad y 115 a1161 h1168) fun r1169=>some [r1169,(i 0)]) fun vs1170=>oR vs1170 h1168
def B78 (c:CH) (ql:QH) (us:List GV) (H:GH):RS:=U2 us fun x1171 x1172=>
 K c 101 [x1171,x1172] H fun t1173 h1174=>
 ob (vUn .not t1173) fun t1175=>
 ob (GV.asB t1175) fun q1176=>jn (bC q1176 (oN [] h1174) (K c 84 [x1171,(i 4)] h1174 fun t1177 h1178=>
 oN [] h1178)) fun vs1179 h1180=>U0 vs1179 (oR [] h1180)
def B79 (c:CH) (ql:QH) (us:List GV) (H:GH):RS:=U2 us fun x1181 x1182=>
 ob (GV.nilck x1181) fun t1183=>
 fd 91 0 t1183 fun t1184=>
 K c 102 [t1184] H fun t1185 h1186=>
 ob (GV.nilck x1181) fun t1187=>
 fd 91 0 t1187 fun t1188=>
 K c 103 [t1188] h1186 fun t1189 h1190=>
 bn .neq 3 t1189 (i 1) fun t1191=>
 kOR (rG t1191 false h1190 (some (t1185,h1190))) fun t1192 h1193=>
 kOR (rG t1191 false h1193 (kOR (c 104 [t1192] h1193) orK)) fun t1194 h1195=>
 kOR (rG t1191 false h1195 (ob (vUn .not t1194) fun g1196=>some (g1196,h1195))) fun t1197 h1198=>
 ob (vPick t1191 (.bool true) t1197) fun t1199=>
 ob (GV.asB t1199) fun q1200=>jn (bC q1200 (oN [x1181,x1182,t1185] h1198) (ob (GV.nilck x1181) fun t1201=>
 fd 91 0 t1201 fun t1202=>
 K c 84 [t1202,(i 4)] h1198 fun t1203 h1204=>
 oN [x1181,x1182,t1185] h1204)) fun vs1205 h1206=>U3 vs1205 fun a1207 a1208 a1209=>ln 87 a1208 fun t1210=>
 jn (nB 0 (ql 13 [a1207,a1209,a1208,t1210,(i 0)] h1206)) fun vs1211 h1212=>U2 vs1211 fun a1213 a1214=>ob (GV.nilck a1213) fun t1215=>
 fd 91 0 t1215 fun t1216=>
 K c 105 [t1216] h1212 fun t1217 h1218=>
 oR [a1214] h1218
def L13 (c:CH) (ql:QH) (us:List GV) (H:GH):RS:=U5 us fun a1219 a1220 a1221 a1222 a1223=>jn (bn .lss 3 a1223 a1222 fun t1224=>
 ob (GV.asB t1224) fun q1225=>jn (bC q1225 (oX 0 [a1219,a1220] H) (oN [a1219,a1220,a1221,a1222,a1223] H)) fun vs1226 h1227=>U5 vs1226 fun a1228 a1229 a1230 a1231 a1232=>jn (nB 1 (ix 87 a1230 a1232 fun t1233=>
 ld 9 t1233 h1227 fun t1234=>
 bn .eql 9 t1234 a1229 fun t1235=>
 ob (GV.asB t1235) fun q1236=>jn (bC q1236 (oN [a1228,a1229,a1230,a1231,a1232] h1227) (ob (GV.nilck a1228) fun t1237=>
 fd 91 0 t1237 fun t1238=>
 K c 84 [t1238,(i 5)] h1227 fun t1239 h1240=>
 oN [a1228,a1229,a1230,a1231,a1232] h1240)) fun vs1241 h1242=>U5 vs1241 fun a1243 a1244 a1245 a1246 a1247=>oN [a1243,a1244,a1245,a1246,a1247] h1242)) fun vs1248 h1249=>U5 vs1248 fun a1250 a1251 a1252 a1253 a1254=>bn .add 3 a1254 (i 1) fun t1255=>
 oN [a1250,a1251,a1252,a1253,t1255] h1249) (ql 13)
def B80 (c:CH) (ql:QH) (us:List GV) (H:GH):RS:=U4 us fun x1256 x1257 x1258 x1259=>
 jn (nB 0 (ql 14 [x1256,x1257,x1258,x1259,(i 0)] H)) fun vs1260 h1261=>U0 vs1260 (oR [] h1261)
def L14 (c:CH) (ql:QH) (us:List GV) (H:GH):RS:=U5 us fun a1262 a1263 a1264 a1265 a1266=>jn (ob (GV.nilck a1262) fun t1267=>
 fd 91 0 t1267 fun t1268=>
 K c 102 [t1268] H fun t1269 h1270=>
 bn .eql 9 t1269 a1263 fun t1271=>
 ob (GV.asB t1271) fun q1272=>jn (bC q1272 (oX 0 [] h1270) (oN [a1262,a1263,a1264,a1265,a1266] h1270)) fun vs1273 h1274=>U5 vs1273 fun a1275 a1276 a1277 a1278 a1279=>jn (nB 1 (bn .eql 3 a1279 a1277 fun t1280=>
 ob (GV.asB t1280) fun q1281=>jn (bC q1281 (oN [a1275,a1276,a1277,a1278,a1279] h1274) (ob (GV.nilck a1275) fun t1282=>
 fd 91 0 t1282 fun t1283=>
 K c 84 [t1283,(i 3)] h1274 fun t1284 h1285=>
 oN [a1275,a1276,a1277,a1278,a1279] h1285)) fun vs1286 h1287=>U5 vs1286 fun a1288 a1289 a1290 a1291 a1292=>ob (GV.nilck a1288) fun t1293=>
 fd 91 0 t1293 fun t1294=>
 K c 105 [t1294] h1287 fun t1295 h1296=>
 ob (GV.asF a1291) fun p1299=>kOR (c p1299.1 (p1299.2.1++[]++p1299.2.2) h1296) fun t1297 h1298=>
 oN [a1288,a1289,a1290,a1291,a1292] h1298)) fun vs1300 h1301=>U5 vs1300 fun a1302 a1303 a1304 a1305 a1306=>bn .add 3 a1306 (i 1) fun t1307=>
 oN [a1302,a1303,a1304,a1305,t1307] h1301) (ql 14)
def B81 (c:CH) (ql:QH) (us:List GV) (H:GH):RS:=U1 us fun x1308=>
 ob (GV.nilck x1308) fun t1309=>
 fd 91 0 t1309 fun t1310=>
 fd 89 2 t1310 fun t1311=>
 ld 87 t1311 H fun t1312=>
 K c 79 [x1308,t1312] H fun t1313 h1314=>
 bd 62 [(0,t1313)] fun t1315=>
 kOR (vAlloc y 62 h1314) fun t1316 h1317=>
 kOR (vStore y 62 t1316 t1315 h1317) fun t1318 h1319=>
 ob (GV.nilck x1308) fun t1320=>
 fd 91 0 t1320 fun t1321=>
 K c 78 [t1321,(.str 58 1)] h1319 fun t1322 h1323=>
 jn (nB 0 (ob (GV.nilck x1308) fun t1324=>
 fd 91 0 t1324 fun t1325=>
 K c 101 [t1325,(.str 1819242338 4)] h1323 fun t1326 h1327=>
 ob (GV.asB t1326) fun q1328=>jn (bC q1328 (ob (GV.nilck x1308) fun t1332=>
 fd 91 0 t1332 fun t1333=>
 K c 101 [t1333,(.str 1953656688 4)] h1327 fun t1334 h1335=>
 ob (GV.asB t1334) fun q1336=>jn (bC q1336 (fd 62 1 t1316 fun t1340=>
 kOR (vStore y 3 t1340 (i 1) h1335) fun t1341 h1342=>
 K c 106 [x1308,(i 0),(i 4096)] h1342 fun t1343 h1344=>
 fd 62 2 t1316 fun t1345=>
 kOR (vStore y 3 t1345 t1343 h1344) fun t1346 h1347=>
 ob (GV.nilck x1308) fun t1348=>
 fd 91 0 t1348 fun t1349=>
 K c 78 [t1349,(.str 11822 2)] h1347 fun t1350 h1351=>
 K c 107 [x1308,t1316] h1351 fun t1352 h1353=>
 oN [x1308,t1316] h1353) (fd 62 1 t1316 fun t1337=>
 kOR (vStore y 3 t1337 (i 3) h1335) fun t1338 h1339=>
 oN [x1308,t1316] h1339)) fun vs1354 h1355=>U2 vs1354 fun a1356 a1357=>oN [a1356,a1357] h1355) (fd 62 1 t1316 fun t1329=>
 kOR (vStore y 3 t1329 (i 2) h1327) fun t1330 h1331=>
 oN [x1308,t1316] h1331)) fun vs1358 h1359=>U2 vs1358 fun a1360 a1361=>oN [a1360,a1361] h1359)) fun vs1362 h1363=>U2 vs1362 fun a1364 a1365=>ob (GV.nilck a1364) fun t1366=>
 fd 91 0 t1366 fun t1367=>
 K c 78 [t1367,(.str 59 1)] h1363 fun t1368 h1369=>
 ob (GV.nilck a1364) fun t1370=>
 fd 91 0 t1370 fun t1371=>
 fd 89 2 t1371 fun t1372=>
 ld 87 t1372 h1369 fun t1373=>
 ob (Option.casesOn (motive:=fun _=>Option (Option (Nat×Nat))) (ob (GV.asP t1372) fun p=>some p.1) (some none) fun k1375=>ob (GH.ver h1369 k1375) fun k1376=>some (some (k1375,k1376))) fun e1374=>
 fd 62 0 a1365 fun t1377=>
 ld 9 t1377 h1369 fun t1378=>
 ob (Option.casesOn (motive:=fun _=>Option (Option (Nat×Nat))) (ob (GV.asP t1377) fun p=>some p.1) (some none) fun k1380=>ob (GH.ver h1369 k1380) fun k1381=>some (some (k1380,k1381))) fun e1379=>
 kOR (vBuildS y 87 1 [(0,t1378)] h1369) fun t1382 h1383=>
 ob (pck h1383 e1374 (some ())) fun _=>
 kOR (vApp y 87 87 t1373 t1382 h1383) fun t1384 h1385=>
 ob (some ()) fun _=>
 ob (GV.nilck a1364) fun t1386=>
 fd 91 0 t1386 fun t1387=>
 fd 89 2 t1387 fun t1388=>
 kOR (vStore y 87 t1388 t1384 h1385) fun t1389 h1390=>
 ob (some ()) fun _=>
 ob (GV.nilck a1364) fun t1391=>
 fd 91 1 t1391 fun t1392=>
 fd 42 1 t1392 fun t1393=>
 ld 36 t1393 h1390 fun t1394=>
 ob (Option.casesOn (motive:=fun _=>Option (Option (Nat×Nat))) (ob (GV.asP t1393) fun p=>some p.1) (some none) fun k1396=>ob (GH.ver h1390 k1396) fun k1397=>some (some (k1396,k1397))) fun e1395=>
 ld 62 a1365 h1390 fun t1398=>
 ob (Option.casesOn (motive:=fun _=>Option (Option (Nat×Nat))) (ob (GV.asP a1365) fun p=>some p.1) (some none) fun k1400=>ob (GH.ver h1390 k1400) fun k1401=>some (some (k1400,k1401))) fun e1399=>
 kOR (vBuildS y 36 1 [(0,t1398)] h1390) fun t1402 h1403=>
 ob (pck h1403 e1395 (some ())) fun _=>
 kOR (vApp y 36 36 t1394 t1402 h1403) fun t1404 h1405=>
 ob (some ()) fun _=>
 ob (GV.nilck a1364) fun t1406=>
 fd 91 1 t1406 fun t1407=>
 fd 42 1 t1407 fun t1408=>
 kOR (vStore y 36 t1408 t1404 h1405) fun t1409 h1410=>
 ob (some ()) fun _=>
 oR [] h1410
def B82 (c:CH) (ql:QH) (us:List GV) (H:GH):RS:=U1 us fun x1411=>
 ob (GV.nilck x1411) fun t1412=>
 fd 91 2 t1412 fun t1413=>
 ld 87 t1413 H fun t1414=>
 K c 79 [x1411,t1414] H fun t1415 h1416=>
 bd 131 [(0,t1415)] fun t1417=>
 kOR (vAlloc y 131 h1416) fun t1418 h1419=>
 kOR (vStore y 131 t1418 t1417 h1419) fun t1420 h1421=>
 ob (GV.nilck x1411) fun t1422=>
 fd 91 2 t1422 fun t1423=>
 ld 87 t1423 h1421 fun t1424=>
 ob (Option.casesOn (motive:=fun _=>Option (Option (Nat×Nat))) (ob (GV.asP t1423) fun p=>some p.1) (some none) fun k1426=>ob (GH.ver h1421 k1426) fun k1427=>some (some (k1426,k1427))) fun e1425=>
 fd 131 0 t1418 fun t1428=>
 ld 9 t1428 h1421 fun t1429=>
 ob (Option.casesOn (motive:=fun _=>Option (Option (Nat×Nat))) (ob (GV.asP t1428) fun p=>some p.1) (some none) fun k1431=>ob (GH.ver h1421 k1431) fun k1432=>some (some (k1431,k1432))) fun e1430=>
 kOR (vBuildS y 87 1 [(0,t1429)] h1421) fun t1433 h1434=>
 ob (pck h1434 e1425 (some ())) fun _=>
 kOR (vApp y 87 87 t1424 t1433 h1434) fun t1435 h1436=>
 ob (some ()) fun _=>
 ob (GV.nilck x1411) fun t1437=>
 fd 91 2 t1437 fun t1438=>
 kOR (vStore y 87 t1438 t1435 h1436) fun t1439 h1440=>
 ob (some ()) fun _=>
 ob (GV.nilck x1411) fun t1441=>
 fd 91 0 t1441 fun t1442=>
 K c 78 [t1442,(.str 58 1)] h1440 fun t1443 h1444=>
 ob (GV.nilck x1411) fun t1445=>
 fd 91 0 t1445 fun t1446=>
 K c 108 [t1446] h1444 fun t1447 h1448=>
 fd 131 1 t1418 fun t1449=>
 kOR (vStore y 128 t1449 t1447 h1448) fun t1450 h1451=>
 ob (GV.nilck x1411) fun t1452=>
 fd 91 0 t1452 fun t1453=>
 K c 78 [t1453,(.str 15917 2)] h1451 fun t1454 h1455=>
 jn (nB 0 (ql 15 [x1411,t1418] h1455)) fun vs1456 h1457=>U2 vs1456 fun a1458 a1459=>ob (GV.nilck a1458) fun t1460=>
 fd 91 0 t1460 fun t1461=>
 K c 78 [t1461,(.str 59 1)] h1457 fun t1462 h1463=>
 ob (GV.nilck a1458) fun t1464=>
 fd 91 1 t1464 fun t1465=>
 fd 42 2 t1465 fun t1466=>
 ld 40 t1466 h1463 fun t1467=>
 ob (Option.casesOn (motive:=fun _=>Option (Option (Nat×Nat))) (ob (GV.asP t1466) fun p=>some p.1) (some none) fun k1469=>ob (GH.ver h1463 k1469) fun k1470=>some (some (k1469,k1470))) fun e1468=>
 ld 131 a1459 h1463 fun t1471=>
 ob (Option.casesOn (motive:=fun _=>Option (Option (Nat×Nat))) (ob (GV.asP a1459) fun p=>some p.1) (some none) fun k1473=>ob (GH.ver h1463 k1473) fun k1474=>some (some (k1473,k1474))) fun e1472=>
 kOR (vBuildS y 40 1 [(0,t1471)] h1463) fun t1475 h1476=>
 ob (pck h1476 e1468 (some ())) fun _=>
 kOR (vApp y 40 40 t1467 t1475 h1476) fun t1477 h1478=>
 ob (some ()) fun _=>
 ob (GV.nilck a1458) fun t1479=>
 fd 91 1 t1479 fun t1480=>
 fd 42 2 t1480 fun t1481=>
 kOR (vStore y 40 t1481 t1477 h1478) fun t1482 h1483=>
 ob (some ()) fun _=>
 oR [] h1483
def L15 (c:CH) (ql:QH) (us:List GV) (H:GH):RS:=U2 us fun a1484 a1485=>jn (jn (nB 1 (ob (GV.nilck a1484) fun t1486=>
 fd 91 0 t1486 fun t1487=>
 K c 109 [t1487] H fun t1488 h1489=>
 bd 155 [(0,t1488)] fun t1490=>
 kOR (vAlloc y 155 h1489) fun t1491 h1492=>
 kOR (vStore y 155 t1491 t1490 h1492) fun t1493 h1494=>
 ob (GV.nilck a1484) fun t1495=>
 fd 91 0 t1495 fun t1496=>
 K c 78 [t1496,(.str 15674 2)] h1494 fun t1497 h1498=>
 ob (GV.nilck a1484) fun t1499=>
 fd 91 0 t1499 fun t1500=>
 K c 108 [t1500] h1498 fun t1501 h1502=>
 fd 155 1 t1491 fun t1503=>
 kOR (vStore y 128 t1503 t1501 h1502) fun t1504 h1505=>
 fd 131 2 a1485 fun t1506=>
 ld 129 t1506 h1505 fun t1507=>
 ld 155 t1491 h1505 fun t1508=>
 kOR (vBuildS y 129 1 [(0,t1508)] h1505) fun t1509 h1510=>
 kOR (vApp y 129 129 t1507 t1509 h1510) fun t1511 h1512=>
 fd 131 2 a1485 fun t1513=>
 kOR (vStore y 129 t1513 t1511 h1512) fun t1514 h1515=>
 ob (GV.nilck a1484) fun t1516=>
 fd 91 0 t1516 fun t1517=>
 K c 101 [t1517,(.str 44 1)] h1515 fun t1518 h1519=>
 ob (vUn .not t1518) fun t1520=>
 ob (GV.asB t1520) fun q1521=>jn (bC q1521 (oN [a1484,a1485] h1519) (oX 0 [a1484,a1485] h1519)) fun vs1522 h1523=>U2 vs1522 fun a1524 a1525=>oN [a1524,a1525] h1523)) fun vs1526 h1527=>U2 vs1526 fun a1528 a1529=>oN [a1528,a1529] h1527) (ql 15)
def B83 (c:CH) (ql:QH) (us:List GV) (H:GH):RS:=U1 us fun x1530=>
 ob (GV.nilck x1530) fun t1531=>
 fd 89 1 t1531 fun t1532=>
 ld 83 t1532 H fun t1533=>
 ln 83 t1533 fun t1534=>
 bn .eql 3 t1534 (i 0) fun t1535=>
 oR [t1535] H
def B84 (c:CH) (ql:QH) (us:List GV) (H:GH):RS:=U2 us fun x1536 x1537=>
 ob (GV.nilck x1536) fun t1538=>
 fd 89 0 t1538 fun t1539=>
 ld 9 t1539 H fun t1540=>
 ln 9 t1540 fun t1541=>
 ob (GV.nilck x1536) fun t1542=>
 fd 89 1 t1542 fun t1543=>
 ld 83 t1543 H fun t1544=>
 ln 83 t1544 fun t1545=>
 bn .gtr 3 t1545 (i 0) fun t1546=>
 ob (GV.asB t1546) fun q1547=>jn (bC q1547 (oN [x1537,t1541] H) (ob (GV.nilck x1536) fun t1548=>
 fd 89 1 t1548 fun t1549=>
 ld 83 t1549 H fun t1550=>
 ix 83 t1550 (i 0) fun t1551=>
 fd 115 1 t1551 fun t1552=>
 ld 3 t1552 H fun t1553=>
 oN [x1537,t1553] H)) fun vs1554 h1555=>U2 vs1554 fun a1556 a1557=>bd 119 [(0,a1557),(1,a1556)] fun t1558=>
 none
def B85 (c:CH) (ql:QH) (us:List GV) (H:GH):RS:=U1 us fun x1559=>
 kOR (vBox x1559 H) fun t1560 h1561=>
 fd 42 0 t1560 fun t1562=>
 ld 9 t1562 h1561 fun t1563=>
 K c 104 [t1563] h1561 fun t1564 h1565=>
 ob (vUn .not t1564) fun t1566=>
 ob (GV.asB t1566) fun q1567=>jn (bC q1567 (oN [t1560] h1565) (oR [(.bool false)] h1565)) fun vs1568 h1569=>U1 vs1568 fun a1570=>kOR (vMakeMap h1569) fun t1571 h1572=>
 fd 42 1 a1570 fun t1573=>
 ld 36 t1573 h1572 fun t1574=>
 ln 36 t1574 fun t1575=>
 jn (nB 0 (ql 16 [a1570,t1571,t1574,t1575,(i 0)] h1572)) fun vs1576 h1577=>U1 vs1576 fun a1578=>kOR (vMakeMap h1577) fun t1579 h1580=>
 fd 42 2 a1578 fun t1581=>
 ld 40 t1581 h1580 fun t1582=>
 ln 40 t1582 fun t1583=>
 jn (nB 2 (ql 17 [t1579,t1582,t1583,(i 0)] h1580)) fun vs1584 h1585=>U0 vs1584 (oR [(.bool true)] h1585)
def L16 (c:CH) (ql:QH) (us:List GV) (H:GH):RS:=U5 us fun a1586 a1587 a1588 a1589 a1590=>jn (bn .lss 3 a1590 a1589 fun t1591=>
 ob (GV.asB t1591) fun q1592=>jn (bC q1592 (oX 0 [a1586] H) (oN [a1586,a1587,a1588,a1589,a1590] H)) fun vs1593 h1594=>U5 vs1593 fun a1595 a1596 a1597 a1598 a1599=>jn (nB 1 (ix 36 a1597 a1599 fun t1600=>
 ld 62 t1600 h1594 fun t1601=>
 kOR (vAlloc y 62 h1594) fun t1602 h1603=>
 kOR (vStore y 62 t1602 t1601 h1603) fun t1604 h1605=>
 fd 62 0 t1602 fun t1606=>
 ld 9 t1606 h1605 fun t1607=>
 K c 104 [t1607] h1605 fun t1608 h1609=>
 ob (vUn .not t1608) fun t1610=>
 kOR (rG t1610 false h1609 (some (a1596,h1609))) fun t1611 h1612=>
 kOR (rG t1610 false h1612 (ob (vField y 62 0 t1602) fun g1613=>some (g1613,h1612))) fun t1614 h1615=>
 kOR (rG t1610 false h1615 (ob (vLoad y 9 t1614 h1615) fun g1616=>some (g1616,h1615))) fun t1617 h1618=>
 kOR (rG t1610 false h1618 (ob (vLook y 156 false t1611 t1617 h1618) fun g1619=>some (g1619,h1618))) fun t1620 h1621=>
 ob (vPick t1610 (.bool true) t1620) fun t1622=>
 ob (GV.asB t1622) fun q1623=>jn (bC q1623 (oN [a1595,a1596,t1602,a1597,a1598,a1599] h1621) (oR [(.bool false)] h1621)) fun vs1624 h1625=>U6 vs1624 fun a1626 a1627 a1628 a1629 a1630 a1631=>fd 62 0 a1628 fun t1632=>
 ld 9 t1632 h1625 fun t1633=>
 kOR (vMapUp y 156 a1627 t1633 (.bool true) h1625) fun t1634 h1635=>
 oN [a1626,a1627,a1629,a1630,a1631] h1635)) fun vs1636 h1637=>U5 vs1636 fun a1638 a1639 a1640 a1641 a1642=>bn .add 3 a1642 (i 1) fun t1643=>
 oN [a1638,a1639,a1640,a1641,t1643] h1637) (ql 16)
def L17 (c:CH) (ql:QH) (us:List GV) (H:GH):RS:=U4 us fun a1644 a1645 a1646 a1647=>jn (bn .lss 3 a1647 a1646 fun t1648=>
 ob (GV.asB t1648) fun q1649=>jn (bC q1649 (oX 2 [] H) (oN [a1644,a1645,a1646,a1647] H)) fun vs1650 h1651=>U4 vs1650 fun a1652 a1653 a1654 a1655=>jn (nB 3 (ix 40 a1653 a1655 fun t1656=>
 ld 131 t1656 h1651 fun t1657=>
 kOR (vAlloc y 131 h1651) fun t1658 h1659=>
 kOR (vStore y 131 t1658 t1657 h1659) fun t1660 h1661=>
 fd 131 0 t1658 fun t1662=>
 ld 9 t1662 h1661 fun t1663=>
 K c 104 [t1663] h1661 fun t1664 h1665=>
 ob (vUn .not t1664) fun t1666=>
 kOR (rG t1666 false h1665 (some (a1652,h1665))) fun t1667 h1668=>
 kOR (rG t1666 false h1668 (ob (vField y 131 0 t1658) fun g1669=>some (g1669,h1668))) fun t1670 h1671=>
 kOR (rG t1666 false h1671 (ob (vLoad y 9 t1670 h1671) fun g1672=>some (g1672,h1671))) fun t1673 h1674=>
 kOR (rG t1666 false h1674 (ob (vLook y 156 false t1667 t1673 h1674) fun g1675=>some (g1675,h1674))) fun t1676 h1677=>
 ob (vPick t1666 (.bool true) t1676) fun t1678=>
 ob (GV.asB t1678) fun q1679=>jn (bC q1679 (oN [a1652,t1658,a1653,a1654,a1655] h1677) (oR [(.bool false)] h1677)) fun vs1680 h1681=>U5 vs1680 fun a1682 a1683 a1684 a1685 a1686=>fd 131 0 a1683 fun t1687=>
 ld 9 t1687 h1681 fun t1688=>
 kOR (vMapUp y 156 a1682 t1688 (.bool true) h1681) fun t1689 h1690=>
 oN [a1682,a1684,a1685,a1686] h1690)) fun vs1691 h1692=>U4 vs1691 fun a1693 a1694 a1695 a1696=>bn .add 3 a1696 (i 1) fun t1697=>
 oN [a1693,a1694,a1695,t1697] h1692) (ql 17)
def B86 (c:CH) (ql:QH) (us:List GV) (H:GH):RS:=U1 us fun x1698=>
 kOR (vBox x1698 H) fun t1699 h1700=>
 fd 62 1 t1699 fun t1701=>
 ld 3 t1701 h1700 fun t1702=>
 K c 110 [t1702] h1700 fun t1703 h1704=>
 ob (vUn .not t1703) fun t1705=>
 ob (GV.asB t1705) fun q1706=>jn (bC q1706 (oN [t1699] h1704) (oR [(.bool false)] h1704)) fun vs1707 h1708=>U1 vs1707 fun a1709=>fd 62 1 a1709 fun t1710=>
 ld 3 t1710 h1708 fun t1711=>
 bn .neq 3 t1711 (i 1) fun t1712=>
 ob (GV.asB t1712) fun q1713=>jn (bC q1713 (oN [a1709] h1708) (fd 62 2 a1709 fun t1714=>
 ld 3 t1714 h1708 fun t1715=>
 bn .eql 3 t1715 (i 0) fun t1716=>
 kOR (rG t1716 true h1708 (ob (vField y 62 3 a1709) fun g1717=>some (g1717,h1708))) fun t1718 h1719=>
 kOR (rG t1716 true h1719 (ob (vLoad y 3 t1718 h1719) fun g1720=>some (g1720,h1719))) fun t1721 h1722=>
 kOR (rG t1716 true h1722 (ob (vBin y .eql 3 t1721 (i 0)) fun g1723=>some (g1723,h1722))) fun t1724 h1725=>
 ob (vPick t1716 t1724 (.bool false)) fun t1726=>
 kOR (rG t1726 true h1725 (ob (vField y 62 4 a1709) fun g1727=>some (g1727,h1725))) fun t1728 h1729=>
 kOR (rG t1726 true h1729 (ob (vLoad y 3 t1728 h1729) fun g1730=>some (g1730,h1729))) fun t1731 h1732=>
 kOR (rG t1726 true h1732 (ob (vBin y .eql 3 t1731 (i 0)) fun g1733=>some (g1733,h1732))) fun t1734 h1735=>
 ob (vPick t1726 t1734 (.bool false)) fun t1736=>
 kOR (rG t1736 true h1735 (ob (vField y 62 5 a1709) fun g1737=>some (g1737,h1735))) fun t1738 h1739=>
 kOR (rG t1736 true h1739 (ob (vLoad y 3 t1738 h1739) fun g1740=>some (g1740,h1739))) fun t1741 h1742=>
 kOR (rG t1736 true h1742 (ob (vBin y .eql 3 t1741 (i 0)) fun g1743=>some (g1743,h1742))) fun t1744 h1745=>
 ob (vPick t1736 t1744 (.bool false)) fun t1746=>
 oR [t1746] h1745)) fun vs1747 h1748=>U1 vs1747 fun a1749=>fd 62 2 a1749 fun t1750=>
 ld 3 t1750 h1748 fun t1751=>
 K c 111 [t1751,(i 0),(i 4096)] h1748 fun t1752 h1753=>
 ob (vUn .not t1752) fun t1754=>
 kOR (rG t1754 false h1753 (ob (vField y 62 4 a1749) fun g1755=>some (g1755,h1753))) fun t1756 h1757=>
 kOR (rG t1754 false h1757 (ob (vLoad y 3 t1756 h1757) fun g1758=>some (g1758,h1757))) fun t1759 h1760=>
 kOR (rG t1754 false h1760 (kOR (c 111 [t1759,(i 0),(i 255)] h1760) orK)) fun t1761 h1762=>
 kOR (rG t1754 false h1762 (ob (vUn .not t1761) fun g1763=>some (g1763,h1762))) fun t1764 h1765=>
 ob (vPick t1754 (.bool true) t1764) fun t1766=>
 kOR (rG t1766 false h1765 (ob (vField y 62 5 a1749) fun g1767=>some (g1767,h1765))) fun t1768 h1769=>
 kOR (rG t1766 false h1769 (ob (vLoad y 3 t1768 h1769) fun g1770=>some (g1770,h1769))) fun t1771 h1772=>
 kOR (rG t1766 false h1772 (kOR (c 111 [t1771,(i 0),(i 255)] h1772) orK)) fun t1773 h1774=>
 kOR (rG t1766 false h1774 (ob (vUn .not t1773) fun g1775=>some (g1775,h1774))) fun t1776 h1777=>
 ob (vPick t1766 (.bool true) t1776) fun t1778=>
 ob (GV.asB t1778) fun q1779=>jn (bC q1779 (oN [a1749] h1777) (oR [(.bool false)] h1777)) fun vs1780 h1781=>U1 vs1780 fun a1782=>fd 62 4 a1782 fun t1783=>
 ld 3 t1783 h1781 fun t1784=>
 bn .eql 3 t1784 (i 0) fun t1785=>
 kOR (rG t1785 true h1781 (ob (vField y 62 5 a1782) fun g1786=>some (g1786,h1781))) fun t1787 h1788=>
 kOR (rG t1785 true h1788 (ob (vLoad y 3 t1787 h1788) fun g1789=>some (g1789,h1788))) fun t1790 h1791=>
 kOR (rG t1785 true h1791 (ob (vBin y .eql 3 t1790 (i 0)) fun g1792=>some (g1792,h1791))) fun t1793 h1794=>
 ob (vPick t1785 t1793 (.bool false)) fun t1795=>
 ob (GV.asB t1795) fun q1796=>jn (bC q1796 (oN [a1782] h1794) (fd 62 3 a1782 fun t1797=>
 ld 3 t1797 h1794 fun t1798=>
 K c 111 [t1798,(i 0),(i 4096)] h1794 fun t1799 h1800=>
 oR [t1799] h1800)) fun vs1801 h1802=>U1 vs1801 fun a1803=>fd 62 4 a1803 fun t1804=>
 ld 3 t1804 h1802 fun t1805=>
 bn .eql 3 t1805 (i 0) fun t1806=>
 kOR (rG t1806 false h1802 (ob (vField y 62 5 a1803) fun g1807=>some (g1807,h1802))) fun t1808 h1809=>
 kOR (rG t1806 false h1809 (ob (vLoad y 3 t1808 h1809) fun g1810=>some (g1810,h1809))) fun t1811 h1812=>
 kOR (rG t1806 false h1812 (ob (vBin y .eql 3 t1811 (i 0)) fun g1813=>some (g1813,h1812))) fun t1814 h1815=>
 ob (vPick t1806 (.bool true) t1814) fun t1816=>
 kOR (rG t1816 true h1815 (ob (vField y 62 3 a1803) fun g1817=>some (g1817,h1815))) fun t1818 h1819=>
 kOR (rG t1816 true h1819 (ob (vLoad y 3 t1818 h1819) fun g1820=>some (g1820,h1819))) fun t1821 h1822=>
 kOR (rG t1816 true h1822 (kOR (c 111 [t1821,(.int .i64 (.negSucc 4095)),(i 4096)] h1822) orK)) fun t1823 h1824=>
 ob (vPick t1816 t1823 (.bool false)) fun t1825=>
 oR [t1825] h1824
def B87 (c:CH) (ql:QH) (us:List GV) (H:GH):RS:=U2 us fun x1826 x1827=>
 kOR (vBox x1826 H) fun t1828 h1829=>
 fd 131 2 t1828 fun t1830=>
 ld 129 t1830 h1829 fun t1831=>
 ln 129 t1831 fun t1832=>
 bn .eql 3 t1832 (i 0) fun t1833=>
 kOR (rG t1833 false h1829 (ob (vField y 131 2 t1828) fun g1834=>some (g1834,h1829))) fun t1835 h1836=>
 kOR (rG t1833 false h1836 (ob (vLoad y 129 t1835 h1836) fun g1837=>some (g1837,h1836))) fun t1838 h1839=>
 kOR (rG t1833 false h1839 (ob (vLen y 129 t1838) fun g1840=>some (g1840,h1839))) fun t1841 h1842=>
 kOR (rG t1833 false h1842 (ob (vBin y .gtr 3 t1841 (i 6)) fun g1843=>some (g1843,h1842))) fun t1844 h1845=>
 ob (vPick t1833 (.bool true) t1844) fun t1846=>
 kOR (rG t1846 false h1845 (ob (vField y 131 1 t1828) fun g1847=>some (g1847,h1845))) fun t1848 h1849=>
 kOR (rG t1846 false h1849 (ob (vLoad y 128 t1848 h1849) fun g1850=>some (g1850,h1849))) fun t1851 h1852=>
 kOR (rG t1846 false h1852 (some (x1827,h1852))) fun t1853 h1854=>
 kOR (rG t1846 false h1854 (kOR (c 112 [t1851,t1853] h1854) orK)) fun t1855 h1856=>
 kOR (rG t1846 false h1856 (ob (vUn .not t1855) fun g1857=>some (g1857,h1856))) fun t1858 h1859=>
 ob (vPick t1846 (.bool true) t1858) fun t1860=>
 ob (GV.asB t1860) fun q1861=>jn (bC q1861 (oN [x1827,t1828] h1859) (oR [(.bool false)] h1859)) fun vs1862 h1863=>U2 vs1862 fun a1864 a1865=>kOR (vMakeMap h1863) fun t1866 h1867=>
 fd 131 2 a1865 fun t1868=>
 ld 129 t1868 h1867 fun t1869=>
 ln 129 t1869 fun t1870=>
 jn (nB 0 (ql 18 [a1864,t1866,t1869,t1870,(i 0)] h1867)) fun vs1871 h1872=>U0 vs1871 (oR [(.bool true)] h1872)
def L18 (c:CH) (ql:QH) (us:List GV) (H:GH):RS:=U5 us fun a1873 a1874 a1875 a1876 a1877=>jn (bn .lss 3 a1877 a1876 fun t1878=>
 ob (GV.asB t1878) fun q1879=>jn (bC q1879 (oX 0 [] H) (oN [a1873,a1874,a1875,a1876,a1877] H)) fun vs1880 h1881=>U5 vs1880 fun a1882 a1883 a1884 a1885 a1886=>jn (nB 1 (ix 129 a1884 a1886 fun t1887=>
 ld 155 t1887 h1881 fun t1888=>
 kOR (vAlloc y 155 h1881) fun t1889 h1890=>
 kOR (vStore y 155 t1889 t1888 h1890) fun t1891 h1892=>
 fd 155 0 t1889 fun t1893=>
 ld 3 t1893 h1892 fun t1894=>
 bn .sub 3 a1882 (i 1) fun t1895=>
 K c 111 [t1894,(i 0),t1895] h1892 fun t1896 h1897=>
 ob (vUn .not t1896) fun t1898=>
 kOR (rG t1898 false h1897 (some (a1883,h1897))) fun t1899 h1900=>
 kOR (rG t1898 false h1900 (ob (vField y 155 0 t1889) fun g1901=>some (g1901,h1900))) fun t1902 h1903=>
 kOR (rG t1898 false h1903 (ob (vLoad y 3 t1902 h1903) fun g1904=>some (g1904,h1903))) fun t1905 h1906=>
 kOR (rG t1898 false h1906 (ob (vLook y 158 false t1899 t1905 h1906) fun g1907=>some (g1907,h1906))) fun t1908 h1909=>
 ob (vPick t1898 (.bool true) t1908) fun t1910=>
 kOR (rG t1910 false h1909 (ob (vField y 155 1 t1889) fun g1911=>some (g1911,h1909))) fun t1912 h1913=>
 kOR (rG t1910 false h1913 (ob (vLoad y 128 t1912 h1913) fun g1914=>some (g1914,h1913))) fun t1915 h1916=>
 kOR (rG t1910 false h1916 (some (a1882,h1916))) fun t1917 h1918=>
 kOR (rG t1910 false h1918 (kOR (c 112 [t1915,t1917] h1918) orK)) fun t1919 h1920=>
 kOR (rG t1910 false h1920 (ob (vUn .not t1919) fun g1921=>some (g1921,h1920))) fun t1922 h1923=>
 ob (vPick t1910 (.bool true) t1922) fun t1924=>
 ob (GV.asB t1924) fun q1925=>jn (bC q1925 (oN [a1882,a1883,t1889,a1884,a1885,a1886] h1923) (oR [(.bool false)] h1923)) fun vs1926 h1927=>U6 vs1926 fun a1928 a1929 a1930 a1931 a1932 a1933=>fd 155 0 a1930 fun t1934=>
 ld 3 t1934 h1927 fun t1935=>
 kOR (vMapUp y 158 a1929 t1935 (.bool true) h1927) fun t1936 h1937=>
 oN [a1928,a1929,a1931,a1932,a1933] h1937)) fun vs1938 h1939=>U5 vs1938 fun a1940 a1941 a1942 a1943 a1944=>bn .add 3 a1944 (i 1) fun t1945=>
 oN [a1940,a1941,a1942,a1943,t1945] h1939) (ql 18)
def B88 (c:CH) (ql:QH) (us:List GV) (H:GH):RS:=U1 us fun x1946=>
 kOR (vBox x1946 H) fun t1947 h1948=>
 fd 42 1 t1947 fun t1949=>
 ld 36 t1949 h1948 fun t1950=>
 ln 36 t1950 fun t1951=>
 kOR (vMake y 22 t1951 t1951 h1948) fun t1952 h1953=>
 fd 42 1 t1947 fun t1954=>
 ld 36 t1954 h1953 fun t1955=>
 ln 36 t1955 fun t1956=>
 jn (nB 0 (ql 19 [t1952,t1955,t1956,(i 0)] h1953)) fun vs1957 h1958=>U1 vs1957 fun a1959=>oR [a1959] h1958
def L19 (c:CH) (ql:QH) (us:List GV) (H:GH):RS:=U4 us fun a1960 a1961 a1962 a1963=>jn (bn .lss 3 a1963 a1962 fun t1964=>
 ob (GV.asB t1964) fun q1965=>jn (bC q1965 (oX 0 [a1960] H) (oN [a1960,a1961,a1962,a1963] H)) fun vs1966 h1967=>U4 vs1966 fun a1968 a1969 a1970 a1971=>jn (nB 1 (ix 36 a1969 a1971 fun t1972=>
 ld 62 t1972 h1967 fun t1973=>
 kOR (vAlloc y 62 h1967) fun t1974 h1975=>
 kOR (vStore y 62 t1974 t1973 h1975) fun t1976 h1977=>
 fd 62 1 t1974 fun t1978=>
 ld 3 t1978 h1977 fun t1979=>
 ix 22 a1968 a1971 fun t1980=>
 kOR (vStore y 3 t1980 t1979 h1977) fun t1981 h1982=>
 oN [a1968,a1969,a1970,a1971] h1982)) fun vs1983 h1984=>U4 vs1983 fun a1985 a1986 a1987 a1988=>bn .add 3 a1988 (i 1) fun t1989=>
 oN [a1985,a1986,a1987,t1989] h1984) (ql 19)
def B89 (c:CH) (ql:QH) (us:List GV) (H:GH):RS:=U2 us fun x1990 x1991=>
 kOR (vBox x1990 H) fun t1992 h1993=>
 fd 131 1 t1992 fun t1994=>
 ld 128 t1994 h1993 fun t1995=>
 K c 113 [t1995,x1991,(.bool false)] h1993 fun t1996 h1997=>
 ex 0 t1996 fun t1998=>
 ex 1 t1996 fun t1999=>
 bn .neq 3 t1998 (i 2) fun t2000=>
 ob (GV.asB t2000) fun q2001=>jn (bC q2001 (oN [x1991,t1992] h1997) (oR [(.bool false)] h1997)) fun vs2002 h2003=>U2 vs2002 fun a2004 a2005=>fd 131 2 a2005 fun t2006=>
 ld 129 t2006 h2003 fun t2007=>
 ln 129 t2007 fun t2008=>
 jn (nB 0 (ql 20 [a2004,t2007,t2008,(i 0)] h2003)) fun vs2009 h2010=>U0 vs2009 (oR [(.bool true)] h2010)
def L20 (c:CH) (ql:QH) (us:List GV) (H:GH):RS:=U4 us fun a2011 a2012 a2013 a2014=>jn (bn .lss 3 a2014 a2013 fun t2015=>
 ob (GV.asB t2015) fun q2016=>jn (bC q2016 (oX 0 [] H) (oN [a2011,a2012,a2013,a2014] H)) fun vs2017 h2018=>U4 vs2017 fun a2019 a2020 a2021 a2022=>jn (nB 1 (ix 129 a2020 a2022 fun t2023=>
 ld 155 t2023 h2018 fun t2024=>
 kOR (vAlloc y 155 h2018) fun t2025 h2026=>
 kOR (vStore y 155 t2025 t2024 h2026) fun t2027 h2028=>
 fd 155 1 t2025 fun t2029=>
 ld 128 t2029 h2028 fun t2030=>
 K c 113 [t2030,a2019,(.bool false)] h2028 fun t2031 h2032=>
 ex 0 t2031 fun t2033=>
 ex 1 t2031 fun t2034=>
 fd 155 0 t2025 fun t2035=>
 ld 3 t2035 h2032 fun t2036=>
 ix 22 a2019 t2036 fun t2037=>
 ld 3 t2037 h2032 fun t2038=>
 bn .neq 3 t2033 t2038 fun t2039=>
 ob (GV.asB t2039) fun q2040=>jn (bC q2040 (oN [a2019,a2020,a2021,a2022] h2032) (oR [(.bool false)] h2032)) fun vs2041 h2042=>U4 vs2041 fun a2043 a2044 a2045 a2046=>oN [a2043,a2044,a2045,a2046] h2042)) fun vs2047 h2048=>U4 vs2047 fun a2049 a2050 a2051 a2052=>bn .add 3 a2052 (i 1) fun t2053=>
 oN [a2049,a2050,a2051,t2053] h2048) (ql 20)
def B90 (c:CH) (ql:QH) (us:List GV) (H:GH):RS:=U2 us fun x2054 x2055=>
 kOR (vBox x2054 H) fun t2056 h2057=>
 kOR (vBox x2055 h2057) fun t2058 h2059=>
 ld 42 t2056 h2059 fun t2060=>
 K c 114 [t2060] h2059 fun t2061 h2062=>
 ob (vUn .not t2061) fun t2063=>
 ob (GV.asB t2063) fun q2064=>jn (bC q2064 (oN [t2056,t2058] h2062) (oR [(i 8)] h2062)) fun vs2065 h2066=>U2 vs2065 fun a2067 a2068=>ld 25 a2068 h2066 fun t2069=>
 K c 22 [t2069] h2066 fun t2070 h2071=>
 ob (vUn .not t2070) fun t2072=>
 ob (GV.asB t2072) fun q2073=>jn (bC q2073 (oN [a2067,a2068] h2071) (oR [(i 1)] h2071)) fun vs2074 h2075=>U2 vs2074 fun a2076 a2077=>fd 42 1 a2076 fun t2078=>
 ld 36 t2078 h2075 fun t2079=>
 ln 36 t2079 fun t2080=>
 jn (nB 0 (ql 21 [a2077,t2079,t2080,(i 0)] h2075)) fun vs2081 h2082=>U0 vs2081 (oR [(i 0)] h2082)
def L21 (c:CH) (ql:QH) (us:List GV) (H:GH):RS:=U4 us fun a2083 a2084 a2085 a2086=>jn (bn .lss 3 a2086 a2085 fun t2087=>
 ob (GV.asB t2087) fun q2088=>jn (bC q2088 (oX 0 [] H) (oN [a2083,a2084,a2085,a2086] H)) fun vs2089 h2090=>U4 vs2089 fun a2091 a2092 a2093 a2094=>jn (nB 1 (ix 36 a2092 a2094 fun t2095=>
 ld 62 t2095 h2090 fun t2096=>
 kOR (vAlloc y 62 h2090) fun t2097 h2098=>
 kOR (vStore y 62 t2097 t2096 h2098) fun t2099 h2100=>
 fd 62 1 t2097 fun t2101=>
 ld 3 t2101 h2100 fun t2102=>
 bn .neq 3 t2102 (i 1) fun t2103=>
 ob (GV.asB t2103) fun q2104=>jn (bC q2104 (oN [a2091,t2097,a2092,a2093,a2094] h2100) (oX 1 [a2091,a2092,a2093,a2094] h2100)) fun vs2105 h2106=>U5 vs2105 fun a2107 a2108 a2109 a2110 a2111=>ld 62 a2108 h2106 fun t2112=>
 ld 25 a2107 h2106 fun t2113=>
 K c 93 [t2112,t2113,(i 0)] h2106 fun t2114 h2115=>
 ex 0 t2114 fun t2116=>
 ex 1 t2114 fun t2117=>
 bn .lss 3 t2117 t2116 fun t2118=>
 kOR (rG t2118 false h2115 (some (t2117,h2115))) fun t2119 h2120=>
 kOR (rG t2118 false h2120 (some (t2116,h2120))) fun t2121 h2122=>
 kOR (rG t2118 false h2122 (ob (vBin y .sub 3 t2119 t2121) fun g2123=>some (g2123,h2122))) fun t2124 h2125=>
 kOR (rG t2118 false h2125 (ob (vBin y .add 3 t2124 (i 1)) fun g2126=>some (g2126,h2125))) fun t2127 h2128=>
 kOR (rG t2118 false h2128 (ob (vBin y .gtr 3 t2127 (i 4096)) fun g2129=>some (g2129,h2128))) fun t2130 h2131=>
 ob (vPick t2118 (.bool true) t2130) fun t2132=>
 ob (GV.asB t2132) fun q2133=>jn (bC q2133 (oN [a2107,a2109,a2110,a2111] h2131) (oR [(i 9)] h2131)) fun vs2134 h2135=>U4 vs2134 fun a2136 a2137 a2138 a2139=>oN [a2136,a2137,a2138,a2139] h2135)) fun vs2140 h2141=>U4 vs2140 fun a2142 a2143 a2144 a2145=>bn .add 3 a2145 (i 1) fun t2146=>
 oN [a2142,a2143,a2144,t2146] h2141) (ql 21)
def B91 (c:CH) (ql:QH) (us:List GV) (H:GH):RS:=U2 us fun x2147 x2148=>
 ln 26 x2148 fun t2149=>
 ln 106 x2147 fun t2150=>
 bn .neq 3 t2149 t2150 fun t2151=>
 ob (GV.asB t2151) fun q2152=>jn (bC q2152 (oN [x2147,x2148] H) (oR [(.bool false)] H)) fun vs2153 h2154=>U2 vs2153 fun a2155 a2156=>ln 106 a2155 fun t2157=>
 jn (nB 0 (ql 22 [a2156,a2155,t2157,(i 0)] h2154)) fun vs2158 h2159=>U0 vs2158 (oR [(.bool true)] h2159)
def L22 (c:CH) (ql:QH) (us:List GV) (H:GH):RS:=U4 us fun a2160 a2161 a2162 a2163=>jn (bn .lss 3 a2163 a2162 fun t2164=>
 ob (GV.asB t2164) fun q2165=>jn (bC q2165 (oX 0 [] H) (oN [a2160,a2161,a2162,a2163] H)) fun vs2166 h2167=>U4 vs2166 fun a2168 a2169 a2170 a2171=>jn (nB 1 (ix 106 a2169 a2171 fun t2172=>
 ld 139 t2172 h2167 fun t2173=>
 ix 26 a2168 a2171 fun t2174=>
 ld 22 t2174 h2167 fun t2175=>
 K c 115 [t2173,t2175] h2167 fun t2176 h2177=>
 ob (vUn .not t2176) fun t2178=>
 ob (GV.asB t2178) fun q2179=>jn (bC q2179 (oN [a2168,a2169,a2170,a2171] h2177) (oR [(.bool false)] h2177)) fun vs2180 h2181=>U4 vs2180 fun a2182 a2183 a2184 a2185=>oN [a2182,a2183,a2184,a2185] h2181)) fun vs2186 h2187=>U4 vs2186 fun a2188 a2189 a2190 a2191=>bn .add 3 a2191 (i 1) fun t2192=>
 oN [a2188,a2189,a2190,t2192] h2187) (ql 22)
def B92 (c:CH) (ql:QH) (us:List GV) (H:GH):RS:=U3 us fun x2193 x2194 x2195=>
 kOR (vBox x2193 H) fun t2196 h2197=>
 fd 25 1 t2196 fun t2198=>
 ld 23 t2198 h2197 fun t2199=>
 ix 23 t2199 x2194 fun t2200=>
 ld 59 t2200 h2197 fun t2201=>
 ln 59 t2201 fun t2202=>
 jn (nB 0 (ql 23 [x2195,t2201,t2202,(i 0)] h2197)) fun vs2203 h2204=>U0 vs2203 (oR [(.int .i64 (.negSucc 0))] h2204)
def L23 (c:CH) (ql:QH) (us:List GV) (H:GH):RS:=U4 us fun a2205 a2206 a2207 a2208=>jn (bn .lss 3 a2208 a2207 fun t2209=>
 ob (GV.asB t2209) fun q2210=>jn (bC q2210 (oX 0 [] H) (oN [a2205,a2206,a2207,a2208] H)) fun vs2211 h2212=>U4 vs2211 fun a2213 a2214 a2215 a2216=>jn (nB 1 (ix 59 a2214 a2216 fun t2217=>
 ld 51 t2217 h2212 fun t2218=>
 kOR (vAlloc y 51 h2212) fun t2219 h2220=>
 kOR (vStore y 51 t2219 t2218 h2220) fun t2221 h2222=>
 fd 51 0 t2219 fun t2223=>
 ld 3 t2223 h2222 fun t2224=>
 bn .eql 3 t2224 a2213 fun t2225=>
 ob (GV.asB t2225) fun q2226=>jn (bC q2226 (oN [a2213,a2214,a2215,a2216] h2222) (oR [a2216] h2222)) fun vs2227 h2228=>U4 vs2227 fun a2229 a2230 a2231 a2232=>oN [a2229,a2230,a2231,a2232] h2228)) fun vs2233 h2234=>U4 vs2233 fun a2235 a2236 a2237 a2238=>bn .add 3 a2238 (i 1) fun t2239=>
 oN [a2235,a2236,a2237,t2239] h2234) (ql 23)
def B93 (c:CH) (ql:QH) (us:List GV) (H:GH):RS:=U3 us fun x2240 x2241 x2242=>
 kOR (vBox x2240 H) fun t2243 h2244=>
 kOR (vBox x2241 h2244) fun t2245 h2246=>
 bd 162 [(0,(i 1)),(1,(.fn 116 [] []))] fun t2247=>
 bd 162 [(0,(i 2)),(1,(.fn 118 [] []))] fun t2248=>
 bd 162 [(0,(i 3)),(1,(.fn 119 [] []))] fun t2249=>
 kOR (vBuildS y 163 3 [(0,t2247),(1,t2248),(2,t2249)] h2246) fun t2250 h2251=>
 ln 163 t2250 fun t2252=>
 jn (nB 0 (ql 24 [x2242,t2243,t2245,t2250,t2252,(i 0)] h2251)) fun vs2253 h2254=>U0 vs2253 (oR [(i 0),(.int .i64 (.negSucc 0))] h2254)
def L24 (c:CH) (ql:QH) (us:List GV) (H:GH):RS:=U6 us fun a2255 a2256 a2257 a2258 a2259 a2260=>jn (bn .lss 3 a2260 a2259 fun t2261=>
 ob (GV.asB t2261) fun q2262=>jn (bC q2262 (oX 0 [] H) (oN [a2255,a2256,a2257,a2258,a2259,a2260] H)) fun vs2263 h2264=>U6 vs2263 fun a2265 a2266 a2267 a2268 a2269 a2270=>jn (nB 1 (ix 163 a2268 a2270 fun t2271=>
 ld 162 t2271 h2264 fun t2272=>
 kOR (vAlloc y 162 h2264) fun t2273 h2274=>
 kOR (vStore y 162 t2273 t2272 h2274) fun t2275 h2276=>
 fd 162 0 t2273 fun t2277=>
 ld 3 t2277 h2276 fun t2278=>
 fd 62 1 a2266 fun t2279=>
 ld 3 t2279 h2276 fun t2280=>
 bn .eql 3 t2278 t2280 fun t2281=>
 ob (GV.asB t2281) fun q2282=>jn (bC q2282 (oN [a2265,a2266,a2267,a2268,a2269,a2270] h2276) (fd 162 1 t2273 fun t2283=>
 ld 141 t2283 h2276 fun t2284=>
 ld 62 a2266 h2276 fun t2285=>
 ld 25 a2267 h2276 fun t2286=>
 ob (GV.asF t2284) fun p2289=>kOR (c p2289.1 (p2289.2.1++[t2285,t2286,a2265]++p2289.2.2) h2276) fun t2287 h2288=>
 ex 0 t2287 fun t2290=>
 ex 1 t2287 fun t2291=>
 oR [t2290,t2291] h2288)) fun vs2292 h2293=>U6 vs2292 fun a2294 a2295 a2296 a2297 a2298 a2299=>oN [a2294,a2295,a2296,a2297,a2298,a2299] h2293)) fun vs2300 h2301=>U6 vs2300 fun a2302 a2303 a2304 a2305 a2306 a2307=>bn .add 3 a2307 (i 1) fun t2308=>
 oN [a2302,a2303,a2304,a2305,a2306,t2308] h2301) (ql 24)
def B94 (c:CH) (ql:QH) (us:List GV) (H:GH):RS:=U4 us fun x2309 x2310 x2311 x2312=>
 ob (GV.nilck x2309) fun t2313=>
 fd 138 0 t2313 fun t2314=>
 fd 42 2 t2314 fun t2315=>
 ld 40 t2315 H fun t2316=>
 ix 40 t2316 x2312 fun t2317=>
 fd 131 1 t2317 fun t2318=>
 ld 128 t2318 H fun t2319=>
 K c 120 [x2309,x2310,x2311,t2319] H fun t2320 h2321=>
 bn .neq 3 t2320 (i 0) fun t2322=>
 oR [t2322] h2321
def B95 (c:CH) (ql:QH) (us:List GV) (H:GH):RS:=U3 us fun x2323 x2324 x2325=>
 ld 3 x2324 H fun t2326=>
 jn (nB 0 (ql 25 [x2323,x2325,t2326] H)) fun vs2327 h2328=>U1 vs2327 fun a2329=>oR [a2329] h2328
def L25 (c:CH) (ql:QH) (us:List GV) (H:GH):RS:=U3 us fun a2330 a2331 a2332=>jn (ld 9 a2331 H fun t2333=>
 ln 9 t2333 fun t2334=>
 bn .lss 3 a2332 t2334 fun t2335=>
 kOR (rG t2335 true H (some (a2330,H))) fun t2336 h2337=>
 kOR (rG t2335 true h2337 (ob (vLoad y 9 a2331 h2337) fun g2338=>some (g2338,h2337))) fun t2339 h2340=>
 kOR (rG t2335 true h2340 (some (a2332,h2340))) fun t2341 h2342=>
 kOR (rG t2335 true h2342 (ob (vAt y 9 t2339 t2341) fun g2343=>some (g2343,h2342))) fun t2344 h2345=>
 kOR (rG t2335 true h2345 (ob (GV.asF t2336) fun p2346=>kOR (c p2346.1 (p2346.2.1++[t2344]++p2346.2.2) h2345) orK)) fun t2347 h2348=>
 ob (vPick t2335 t2347 (.bool false)) fun t2349=>
 ob (GV.asB t2349) fun q2350=>jn (bC q2350 (oX 0 [a2332] h2348) (oN [a2330,a2331,a2332] h2348)) fun vs2351 h2352=>U3 vs2351 fun a2353 a2354 a2355=>jn (nB 1 (bn .add 3 a2355 (i 1) fun t2356=>
 oN [a2353,a2354,t2356] h2352)) fun vs2357 h2358=>U3 vs2357 fun a2359 a2360 a2361=>oN [a2359,a2360,a2361] h2358) (ql 25)
def B96 (c:CH) (ql:QH) (us:List GV) (H:GH):RS:=U1 us fun x2362=>
 bn .geq 5 x2362 (.int .u8 (.ofNat 97)) fun t2363=>
 kOR (rG t2363 true H (some (x2362,H))) fun t2364 h2365=>
 kOR (rG t2363 true h2365 (ob (vBin y .leq 5 t2364 (.int .u8 (.ofNat 122))) fun g2366=>some (g2366,h2365))) fun t2367 h2368=>
 ob (vPick t2363 t2367 (.bool false)) fun t2369=>
 kOR (rG t2369 false h2368 (some (x2362,h2368))) fun t2370 h2371=>
 kOR (rG t2369 false h2371 (ob (vBin y .geq 5 t2370 (.int .u8 (.ofNat 65))) fun g2372=>some (g2372,h2371))) fun t2373 h2374=>
 kOR (rG t2369 false h2374 (some (t2373,h2374))) fun t2375 h2376=>
 kOR (rG t2375 true h2376 (some (x2362,h2376))) fun t2377 h2378=>
 kOR (rG t2375 true h2378 (ob (vBin y .leq 5 t2377 (.int .u8 (.ofNat 90))) fun g2379=>some (g2379,h2378))) fun t2380 h2381=>
 kOR (rG t2369 false h2381 (ob (vPick t2375 t2380 (.bool false)) fun g2382=>some (g2382,h2381))) fun t2383 h2384=>
 ob (vPick t2369 (.bool true) t2383) fun t2385=>
 oR [t2385] h2384
def B97 (c:CH) (ql:QH) (us:List GV) (H:GH):RS:=U1 us fun x2386=>
 K c 96 [x2386] H fun t2387 h2388=>
 kOR (rG t2387 false h2388 (some (x2386,h2388))) fun t2389 h2390=>
 kOR (rG t2387 false h2390 (kOR (c 98 [t2389] h2390) orK)) fun t2391 h2392=>
 ob (vPick t2387 (.bool true) t2391) fun t2393=>
 kOR (rG t2393 false h2392 (some (x2386,h2392))) fun t2394 h2395=>
 kOR (rG t2393 false h2395 (ob (vBin y .eql 5 t2394 (.int .u8 (.ofNat 95))) fun g2396=>some (g2396,h2395))) fun t2397 h2398=>
 ob (vPick t2393 (.bool true) t2397) fun t2399=>
 oR [t2399] h2398
def B98 (c:CH) (ql:QH) (us:List GV) (H:GH):RS:=U1 us fun x2400=>
 bn .geq 5 x2400 (.int .u8 (.ofNat 48)) fun t2401=>
 kOR (rG t2401 true H (some (x2400,H))) fun t2402 h2403=>
 kOR (rG t2401 true h2403 (ob (vBin y .leq 5 t2402 (.int .u8 (.ofNat 57))) fun g2404=>some (g2404,h2403))) fun t2405 h2406=>
 ob (vPick t2401 t2405 (.bool false)) fun t2407=>
 oR [t2407] h2406
def B99 (c:CH) (ql:QH) (us:List GV) (H:GH):RS:=U1 us fun x2408=>
 ob (vAt y 9 x2408 (i 0)) fun t2409=>
 bn .eql 5 t2409 (.int .u8 (.ofNat 48)) fun t2410=>
 kOR (rG t2410 true H (some (x2408,H))) fun t2411 h2412=>
 kOR (rG t2410 true h2412 (ob (vLen y 9 t2411) fun g2413=>some (g2413,h2412))) fun t2414 h2415=>
 kOR (rG t2410 true h2415 (ob (vBin y .gtr 3 t2414 (i 1)) fun g2416=>some (g2416,h2415))) fun t2417 h2418=>
 ob (vPick t2410 t2417 (.bool false)) fun t2419=>
 ob (GV.asB t2419) fun q2420=>jn (bC q2420 (oN [x2408] h2418) (oR [(i 0),(.bool false)] h2418)) fun vs2421 h2422=>U1 vs2421 fun a2423=>ln 9 a2423 fun t2424=>
 jn (nB 0 (ql 26 [a2423,(i 0),t2424,(i 0)] h2422)) fun vs2425 h2426=>U1 vs2425 fun a2427=>oR [a2427,(.bool true)] h2426
def L26 (c:CH) (ql:QH) (us:List GV) (H:GH):RS:=U4 us fun a2428 a2429 a2430 a2431=>jn (bn .lss 3 a2431 a2430 fun t2432=>
 ob (GV.asB t2432) fun q2433=>jn (bC q2433 (oX 0 [a2429] H) (oN [a2428,a2429,a2430,a2431] H)) fun vs2434 h2435=>U4 vs2434 fun a2436 a2437 a2438 a2439=>jn (nB 1 (bn .mul 3 (i 10) a2437 fun t2440=>
 ob (vAt y 9 a2436 a2439) fun t2441=>
 bn .sub 5 t2441 (.int .u8 (.ofNat 48)) fun t2442=>
 ob (vConv y 5 3 t2442) fun t2443=>
 bn .add 3 t2440 t2443 fun t2444=>
 bn .gtr 3 t2444 (i 1073741824) fun t2445=>
 ob (GV.asB t2445) fun q2446=>jn (bC q2446 (oN [a2436,t2444,a2438,a2439] h2435) (oR [(i 0),(.bool false)] h2435)) fun vs2447 h2448=>U4 vs2447 fun a2449 a2450 a2451 a2452=>oN [a2449,a2450,a2451,a2452] h2448)) fun vs2453 h2454=>U4 vs2453 fun a2455 a2456 a2457 a2458=>bn .add 3 a2458 (i 1) fun t2459=>
 oN [a2455,a2456,a2457,t2459] h2454) (ql 26)
def B100 (c:CH) (ql:QH) (us:List GV) (H:GH):RS:=U1 us fun x2460=>
 kOR (vBuildS y 87 9 [(0,(.str 11822 2)),(1,(.str 15917 2)),(2,(.str 15674 2)),(3,(.str 9766 2)),(4,(.str 31868 2)),(5,(.str 15677 2)),(6,(.str 15649 2)),(7,(.str 15676 2)),(8,(.str 15678 2))] H) fun t2461 h2462=>
 ln 87 t2461 fun t2463=>
 jn (nB 0 (ql 27 [x2460,t2461,t2463,(i 0)] h2462)) fun vs2464 h2465=>U1 vs2464 fun a2466=>ob (vAt y 9 a2466 (i 0)) fun t2467=>
 K c 122 [(.str 172099982263598878148345807877454395 15),t2467] h2465 fun t2468 h2469=>
 bn .geq 3 t2468 (i 0) fun t2470=>
 ob (GV.asB t2470) fun q2471=>jn (bC q2471 (oN [] h2469) (oR [(i 1)] h2469)) fun vs2472 h2473=>U0 vs2472 (oR [(i 0)] h2473)
def L27 (c:CH) (ql:QH) (us:List GV) (H:GH):RS:=U4 us fun a2474 a2475 a2476 a2477=>jn (bn .lss 3 a2477 a2476 fun t2478=>
 ob (GV.asB t2478) fun q2479=>jn (bC q2479 (oX 0 [a2474] H) (oN [a2474,a2475,a2476,a2477] H)) fun vs2480 h2481=>U4 vs2480 fun a2482 a2483 a2484 a2485=>jn (nB 1 (ix 87 a2483 a2485 fun t2486=>
 ld 9 t2486 h2481 fun t2487=>
 K c 121 [a2482,t2487] h2481 fun t2488 h2489=>
 ob (GV.asB t2488) fun q2490=>jn (bC q2490 (oN [a2482,a2483,a2484,a2485] h2489) (oR [(i 2)] h2489)) fun vs2491 h2492=>U4 vs2491 fun a2493 a2494 a2495 a2496=>oN [a2493,a2494,a2495,a2496] h2492)) fun vs2497 h2498=>U4 vs2497 fun a2499 a2500 a2501 a2502=>bn .add 3 a2502 (i 1) fun t2503=>
 oN [a2499,a2500,a2501,t2503] h2498) (ql 27)
def B101 (c:CH) (ql:QH) (us:List GV) (H:GH):RS:=U2 us fun x2504 x2505=>
 K c 102 [x2504] H fun t2506 h2507=>
 bn .neq 9 t2506 x2505 fun t2508=>
 ob (GV.asB t2508) fun q2509=>jn (bC q2509 (oN [x2504] h2507) (oR [(.bool false)] h2507)) fun vs2510 h2511=>U1 vs2510 fun a2512=>K c 105 [a2512] h2511 fun t2513 h2514=>
 oR [(.bool true)] h2514
def B102 (c:CH) (ql:QH) (us:List GV) (H:GH):RS:=U1 us fun x2515=>
 ob (GV.nilck x2515) fun t2516=>
 fd 89 1 t2516 fun t2517=>
 ld 83 t2517 H fun t2518=>
 ln 83 t2518 fun t2519=>
 bn .eql 3 t2519 (i 0) fun t2520=>
 ob (GV.asB t2520) fun q2521=>jn (bC q2521 (oN [x2515] H) (oR [(.str 0 0)] H)) fun vs2522 h2523=>U1 vs2522 fun a2524=>ob (GV.nilck a2524) fun t2525=>
 fd 89 0 t2525 fun t2526=>
 ld 9 t2526 h2523 fun t2527=>
 ob (GV.nilck a2524) fun t2528=>
 fd 89 1 t2528 fun t2529=>
 ld 83 t2529 h2523 fun t2530=>
 ix 83 t2530 (i 0) fun t2531=>
 fd 115 1 t2531 fun t2532=>
 ld 3 t2532 h2523 fun t2533=>
 ob (GV.nilck a2524) fun t2534=>
 fd 89 1 t2534 fun t2535=>
 ld 83 t2535 h2523 fun t2536=>
 ix 83 t2536 (i 0) fun t2537=>
 fd 115 2 t2537 fun t2538=>
 ld 3 t2538 h2523 fun t2539=>
 ob (vSlice y 9 t2527 (some t2533) (some t2539) h2523) fun t2540=>
 oR [t2540] h2523
def B103 (c:CH) (ql:QH) (us:List GV) (H:GH):RS:=U1 us fun x2541=>
 ob (GV.nilck x2541) fun t2542=>
 fd 89 1 t2542 fun t2543=>
 ld 83 t2543 H fun t2544=>
 ln 83 t2544 fun t2545=>
 bn .eql 3 t2545 (i 0) fun t2546=>
 ob (GV.asB t2546) fun q2547=>jn (bC q2547 (oN [x2541] H) (oR [(i 0)] H)) fun vs2548 h2549=>U1 vs2548 fun a2550=>ob (GV.nilck a2550) fun t2551=>
 fd 89 1 t2551 fun t2552=>
 ld 83 t2552 h2549 fun t2553=>
 ix 83 t2553 (i 0) fun t2554=>
 fd 115 0 t2554 fun t2555=>
 ld 3 t2555 h2549 fun t2556=>
 oR [t2556] h2549
def B104 (c:CH) (ql:QH) (us:List GV) (H:GH):RS:=U1 us fun x2557=>
 ln 9 x2557 fun t2558=>
 bn .lss 3 t2558 (i 1) fun t2559=>
 kOR (rG t2559 false H (some (x2557,H))) fun t2560 h2561=>
 kOR (rG t2559 false h2561 (ob (vLen y 9 t2560) fun g2562=>some (g2562,h2561))) fun t2563 h2564=>
 kOR (rG t2559 false h2564 (ob (vBin y .gtr 3 t2563 (i 24)) fun g2565=>some (g2565,h2564))) fun t2566 h2567=>
 ob (vPick t2559 (.bool true) t2566) fun t2568=>
 kOR (rG t2568 false h2567 (some (x2557,h2567))) fun t2569 h2570=>
 kOR (rG t2568 false h2570 (ob (vAt y 9 t2569 (i 0)) fun g2571=>some (g2571,h2570))) fun t2572 h2573=>
 kOR (rG t2568 false h2573 (kOR (c 96 [t2572] h2573) orK)) fun t2574 h2575=>
 kOR (rG t2568 false h2575 (ob (vUn .not t2574) fun g2576=>some (g2576,h2575))) fun t2577 h2578=>
 ob (vPick t2568 (.bool true) t2577) fun t2579=>
 ob (GV.asB t2579) fun q2580=>jn (bC q2580 (oN [x2557] h2578) (oR [(.bool false)] h2578)) fun vs2581 h2582=>U1 vs2581 fun a2583=>ln 9 a2583 fun t2584=>
 jn (nB 0 (ql 28 [a2583,t2584,(i 0)] h2582)) fun vs2585 h2586=>U1 vs2585 fun a2587=>K c 123 [a2587] h2586 fun t2588 h2589=>
 ob (vUn .not t2588) fun t2590=>
 oR [t2590] h2589
def L28 (c:CH) (ql:QH) (us:List GV) (H:GH):RS:=U3 us fun a2591 a2592 a2593=>jn (bn .lss 3 a2593 a2592 fun t2594=>
 ob (GV.asB t2594) fun q2595=>jn (bC q2595 (oX 0 [a2591] H) (oN [a2591,a2592,a2593] H)) fun vs2596 h2597=>U3 vs2596 fun a2598 a2599 a2600=>jn (nB 1 (ob (vAt y 9 a2598 a2600) fun t2601=>
 K c 97 [t2601] h2597 fun t2602 h2603=>
 ob (vUn .not t2602) fun t2604=>
 ob (GV.asB t2604) fun q2605=>jn (bC q2605 (oN [a2598,a2599,a2600] h2603) (oR [(.bool false)] h2603)) fun vs2606 h2607=>U3 vs2606 fun a2608 a2609 a2610=>oN [a2608,a2609,a2610] h2607)) fun vs2611 h2612=>U3 vs2611 fun a2613 a2614 a2615=>bn .add 3 a2615 (i 1) fun t2616=>
 oN [a2613,a2614,t2616] h2612) (ql 28)
def B105 (c:CH) (ql:QH) (us:List GV) (H:GH):RS:=U1 us fun x2617=>
 kOR (vAlloc y 115 H) fun t2618 h2619=>
 ob (GV.nilck x2617) fun t2620=>
 fd 89 1 t2620 fun t2621=>
 ld 83 t2621 h2619 fun t2622=>
 ln 83 t2622 fun t2623=>
 bn .eql 3 t2623 (i 0) fun t2624=>
 ob (GV.asB t2624) fun q2625=>jn (bC q2625 (oN [x2617,t2618] h2619) (K c 84 [x2617,(i 4)] h2619 fun t2626 h2627=>
 oN [x2617,t2618] h2627)) fun vs2628 h2629=>U2 vs2628 fun a2630 a2631=>ob (GV.nilck a2630) fun t2632=>
 fd 89 1 t2632 fun t2633=>
 ld 83 t2633 h2629 fun t2634=>
 ix 83 t2634 (i 0) fun t2635=>
 ld 115 t2635 h2629 fun t2636=>
 kOR (vAlloc y 115 h2629) fun t2637 h2638=>
 kOR (vStore y 115 t2637 t2636 h2638) fun t2639 h2640=>
 ob (GV.nilck a2630) fun t2641=>
 fd 89 1 t2641 fun t2642=>
 ld 83 t2642 h2640 fun t2643=>
 ob (vSlice y 83 t2643 (some (i 1)) none h2640) fun t2644=>
 ob (GV.nilck a2630) fun t2645=>
 fd 89 1 t2645 fun t2646=>
 kOR (vStore y 83 t2646 t2644 h2640) fun t2647 h2648=>
 ld 115 t2637 h2648 fun t2649=>
 kOR (vStore y 115 a2631 t2649 h2648) fun t2650 h2651=>
 ob (ob (vLoad y 115 a2631 h2651) fun r2652=>some [r2652]) fun vs2653=>oR vs2653 h2651
def B106 (c:CH) (ql:QH) (us:List GV) (H:GH):RS:=U3 us fun x2654 x2655 x2656=>
 ob (GV.nilck x2654) fun t2657=>
 fd 91 0 t2657 fun t2658=>
 K c 103 [t2658] H fun t2659 h2660=>
 bn .neq 3 t2659 (i 2) fun t2661=>
 ob (GV.asB t2661) fun q2662=>jn (bC q2662 (oN [x2654,x2655,x2656] h2660) (ob (GV.nilck x2654) fun t2663=>
 fd 91 0 t2663 fun t2664=>
 K c 84 [t2664,(i 4)] h2660 fun t2665 h2666=>
 oN [x2654,x2655,x2656] h2666)) fun vs2667 h2668=>U3 vs2667 fun a2669 a2670 a2671=>ob (GV.nilck a2669) fun t2672=>
 fd 91 0 t2672 fun t2673=>
 fd 89 1 t2673 fun t2674=>
 ld 83 t2674 h2668 fun t2675=>
 ix 83 t2675 (i 0) fun t2676=>
 fd 115 3 t2676 fun t2677=>
 ld 3 t2677 h2668 fun t2678=>
 bn .lss 3 t2678 a2670 fun t2679=>
 kOR (rG t2679 false h2668 (some (t2678,h2668))) fun t2680 h2681=>
 kOR (rG t2679 false h2681 (some (a2671,h2681))) fun t2682 h2683=>
 kOR (rG t2679 false h2683 (ob (vBin y .gtr 3 t2680 t2682) fun g2684=>some (g2684,h2683))) fun t2685 h2686=>
 ob (vPick t2679 (.bool true) t2685) fun t2687=>
 ob (GV.asB t2687) fun q2688=>jn (bC q2688 (oN [a2669] h2686) (ob (GV.nilck a2669) fun t2689=>
 fd 91 0 t2689 fun t2690=>
 K c 84 [t2690,(i 2)] h2686 fun t2691 h2692=>
 oN [a2669] h2692)) fun vs2693 h2694=>U1 vs2693 fun a2695=>ob (GV.nilck a2695) fun t2696=>
 fd 91 0 t2696 fun t2697=>
 K c 105 [t2697] h2694 fun t2698 h2699=>
 pt 115 3 t2698 fun t2700=>
 oR [t2700] h2699
def B107 (c:CH) (ql:QH) (us:List GV) (H:GH):RS:=U2 us fun x2701 x2702=>
 ob (GV.nilck x2701) fun t2703=>
 fd 91 0 t2703 fun t2704=>
 K c 103 [t2704] H fun t2705 h2706=>
 bn .eql 3 t2705 (i 2) fun t2707=>
 ob (GV.asB t2707) fun q2708=>jn (bC q2708 (oN [x2701,x2702,(i 1)] h2706) (K c 124 [x2701] h2706 fun t2709 h2710=>
 ob (GV.nilck x2701) fun t2711=>
 fd 91 0 t2711 fun t2712=>
 K c 101 [t2712,(.str 42 1)] h2710 fun t2713 h2714=>
 ob (vUn .not t2713) fun t2715=>
 ob (GV.asB t2715) fun q2716=>jn (bC q2716 (oN [x2701,x2702,t2709] h2714) (ob (GV.nilck x2702) fun t2717=>
 fd 62 3 t2717 fun t2718=>
 kOR (vStore y 3 t2718 t2709 h2714) fun t2719 h2720=>
 oR [] h2720)) fun vs2721 h2722=>U3 vs2721 fun a2723 a2724 a2725=>oN [a2723,a2724,a2725] h2722)) fun vs2726 h2727=>U3 vs2726 fun a2728 a2729 a2730=>jn (nB 0 (ob (GV.nilck a2728) fun t2731=>
 fd 91 0 t2731 fun t2732=>
 K c 101 [t2732,(.str 110 1)] h2727 fun t2733 h2734=>
 ob (GV.asB t2733) fun q2735=>jn (bC q2735 (ob (GV.nilck a2728) fun t2740=>
 fd 91 0 t2740 fun t2741=>
 K c 101 [t2741,(.str 7562345 3)] h2734 fun t2742 h2743=>
 ob (GV.asB t2742) fun q2744=>jn (bC q2744 (ob (GV.nilck a2728) fun t2749=>
 fd 91 0 t2749 fun t2750=>
 K c 84 [t2750,(i 4)] h2743 fun t2751 h2752=>
 oN [a2728,a2729] h2752) (ob (GV.nilck a2729) fun t2745=>
 fd 62 5 t2745 fun t2746=>
 kOR (vStore y 3 t2746 a2730 h2743) fun t2747 h2748=>
 oN [a2728,a2729] h2748)) fun vs2753 h2754=>U2 vs2753 fun a2755 a2756=>oN [a2755,a2756] h2754) (ob (GV.nilck a2729) fun t2736=>
 fd 62 4 t2736 fun t2737=>
 kOR (vStore y 3 t2737 a2730 h2734) fun t2738 h2739=>
 oN [a2728,a2729] h2739)) fun vs2757 h2758=>U2 vs2757 fun a2759 a2760=>oN [a2759,a2760] h2758)) fun vs2761 h2762=>U2 vs2761 fun a2763 a2764=>jn (nB 1 (ob (GV.nilck a2763) fun t2765=>
 fd 91 0 t2765 fun t2766=>
 K c 101 [t2766,(.str 43 1)] h2762 fun t2767 h2768=>
 ob (GV.asB t2767) fun q2769=>jn (bC q2769 (ob (GV.nilck a2763) fun t2776=>
 fd 91 0 t2776 fun t2777=>
 K c 101 [t2777,(.str 45 1)] h2768 fun t2778 h2779=>
 ob (GV.asB t2778) fun q2780=>jn (bC q2780 (oN [] h2779) (K c 106 [a2763,(i 0),(i 4096)] h2779 fun t2781 h2782=>
 ob (vUn .neg t2781) fun t2783=>
 ob (GV.nilck a2764) fun t2784=>
 fd 62 3 t2784 fun t2785=>
 kOR (vStore y 3 t2785 t2783 h2782) fun t2786 h2787=>
 oN [] h2787)) fun vs2788 h2789=>U0 vs2788 (oN [] h2789)) (K c 106 [a2763,(i 0),(i 4096)] h2768 fun t2770 h2771=>
 ob (GV.nilck a2764) fun t2772=>
 fd 62 3 t2772 fun t2773=>
 kOR (vStore y 3 t2773 t2770 h2771) fun t2774 h2775=>
 oN [] h2775)) fun vs2790 h2791=>U0 vs2790 (oN [] h2791))) fun vs2792 h2793=>U0 vs2792 (oR [] h2793)
def B108 (c:CH) (ql:QH) (us:List GV) (H:GH):RS:=U1 us fun x2794=>
 K c 125 [x2794,(i 1)] H fun t2795 h2796=>
 K c 101 [x2794,(.str 63 1)] h2796 fun t2797 h2798=>
 ob (vUn .not t2797) fun t2799=>
 ob (GV.asB t2799) fun q2800=>jn (bC q2800 (oN [x2794,t2795] h2798) (oR [t2795] h2798)) fun vs2801 h2802=>U2 vs2801 fun a2803 a2804=>K c 108 [a2803] h2802 fun t2805 h2806=>
 K c 78 [a2803,(.str 58 1)] h2806 fun t2807 h2808=>
 K c 108 [a2803] h2808 fun t2809 h2810=>
 kOR (vBuildS y 182 3 [(0,a2804),(1,t2805),(2,t2809)] h2810) fun t2811 h2812=>
 K c 126 [(i 43),t2811] h2812 fun t2813 h2814=>
 oR [t2813] h2814
def B109 (c:CH) (ql:QH) (us:List GV) (H:GH):RS:=U1 us fun x2815=>
 K c 102 [x2815] H fun t2816 h2817=>
 K c 103 [x2815] h2817 fun t2818 h2819=>
 bn .neq 3 t2818 (i 1) fun t2820=>
 kOR (rG t2820 false h2819 (some (t2816,h2819))) fun t2821 h2822=>
 kOR (rG t2820 false h2822 (kOR (c 104 [t2821] h2822) orK)) fun t2823 h2824=>
 kOR (rG t2820 false h2824 (ob (vUn .not t2823) fun g2825=>some (g2825,h2824))) fun t2826 h2827=>
 ob (vPick t2820 (.bool true) t2826) fun t2828=>
 ob (GV.asB t2828) fun q2829=>jn (bC q2829 (oN [x2815,t2816] h2827) (K c 84 [x2815,(i 4)] h2827 fun t2830 h2831=>
 oN [x2815,t2816] h2831)) fun vs2832 h2833=>U2 vs2832 fun a2834 a2835=>ob (GV.nilck a2834) fun t2836=>
 fd 89 2 t2836 fun t2837=>
 ld 87 t2837 h2833 fun t2838=>
 K c 127 [t2838,a2835] h2833 fun t2839 h2840=>
 bn .lss 3 t2839 (i 0) fun t2841=>
 ob (GV.asB t2841) fun q2842=>jn (bC q2842 (oN [a2834,t2839] h2840) (K c 84 [a2834,(i 5)] h2840 fun t2843 h2844=>
 oN [a2834,t2839] h2844)) fun vs2845 h2846=>U2 vs2845 fun a2847 a2848=>K c 105 [a2847] h2846 fun t2849 h2850=>
 oR [a2848] h2850
def B110 (c:CH) (ql:QH) (us:List GV) (H:GH):RS:=U1 us fun x2851=>
 bn .eql 3 x2851 (i 1) fun t2852=>
 kOR (rG t2852 false H (some (x2851,H))) fun t2853 h2854=>
 kOR (rG t2852 false h2854 (ob (vBin y .eql 3 t2853 (i 2)) fun g2855=>some (g2855,h2854))) fun t2856 h2857=>
 ob (vPick t2852 (.bool true) t2856) fun t2858=>
 kOR (rG t2858 false h2857 (some (x2851,h2857))) fun t2859 h2860=>
 kOR (rG t2858 false h2860 (ob (vBin y .eql 3 t2859 (i 3)) fun g2861=>some (g2861,h2860))) fun t2862 h2863=>
 ob (vPick t2858 (.bool true) t2862) fun t2864=>
 oR [t2864] h2863
def B111 (c:CH) (ql:QH) (us:List GV) (H:GH):RS:=U3 us fun x2865 x2866 x2867=>
 bn .geq 3 x2865 x2866 fun t2868=>
 kOR (rG t2868 true H (some (x2865,H))) fun t2869 h2870=>
 kOR (rG t2868 true h2870 (some (x2867,h2870))) fun t2871 h2872=>
 kOR (rG t2868 true h2872 (ob (vBin y .leq 3 t2869 t2871) fun g2873=>some (g2873,h2872))) fun t2874 h2875=>
 ob (vPick t2868 t2874 (.bool false)) fun t2876=>
 oR [t2876] h2875
def B112 (c:CH) (ql:QH) (us:List GV) (H:GH):RS:=U2 us fun x2877 x2878=>
 ln 128 x2877 fun t2879=>
 bn .gtr 3 t2879 (i 200) fun t2880=>
 kOR (rG t2880 false H (some (x2877,H))) fun t2881 h2882=>
 kOR (rG t2880 false h2882 (kOR (c 128 [t2881,(i 0)] h2882) orK)) fun t2883 h2884=>
 kOR (rG t2880 false h2884 (some (x2877,h2884))) fun t2885 h2886=>
 kOR (rG t2880 false h2886 (ob (vLen y 128 t2885) fun g2887=>some (g2887,h2886))) fun t2888 h2889=>
 kOR (rG t2880 false h2889 (ob (vBin y .neq 3 t2883 t2888) fun g2890=>some (g2890,h2889))) fun t2891 h2892=>
 ob (vPick t2880 (.bool true) t2891) fun t2893=>
 ob (GV.asB t2893) fun q2894=>jn (bC q2894 (oN [x2877,x2878] h2892) (oR [(.bool false)] h2892)) fun vs2895 h2896=>U2 vs2895 fun a2897 a2898=>ln 128 a2897 fun t2899=>
 jn (nB 0 (ql 29 [a2897,a2898,a2897,t2899,(i 0)] h2896)) fun vs2900 h2901=>U1 vs2900 fun a2902=>K c 130 [a2902] h2901 fun t2903 h2904=>
 bn .leq 3 t2903 (i 24) fun t2905=>
 kOR (rG t2905 true h2904 (some (a2902,h2904))) fun t2906 h2907=>
 kOR (rG t2905 true h2907 (kOR (c 131 [t2906] h2907) orK)) fun t2908 h2909=>
 kOR (rG t2905 true h2909 (ob (vBin y .leq 3 t2908 (i 2)) fun g2910=>some (g2910,h2909))) fun t2911 h2912=>
 ob (vPick t2905 t2911 (.bool false)) fun t2913=>
 oR [t2913] h2912
def L29 (c:CH) (ql:QH) (us:List GV) (H:GH):RS:=U5 us fun a2914 a2915 a2916 a2917 a2918=>jn (bn .lss 3 a2918 a2917 fun t2919=>
 ob (GV.asB t2919) fun q2920=>jn (bC q2920 (oX 0 [a2914] H) (oN [a2914,a2915,a2916,a2917,a2918] H)) fun vs2921 h2922=>U5 vs2921 fun a2923 a2924 a2925 a2926 a2927=>jn (nB 1 (ix 128 a2925 a2927 fun t2928=>
 ld 172 t2928 h2922 fun t2929=>
 kOR (vAlloc y 172 h2922) fun t2930 h2931=>
 kOR (vStore y 172 t2930 t2929 h2931) fun t2932 h2933=>
 ld 172 t2930 h2933 fun t2934=>
 K c 129 [t2934,a2924] h2933 fun t2935 h2936=>
 ob (vUn .not t2935) fun t2937=>
 ob (GV.asB t2937) fun q2938=>jn (bC q2938 (oN [a2923,a2924,a2925,a2926,a2927] h2936) (oR [(.bool false)] h2936)) fun vs2939 h2940=>U5 vs2939 fun a2941 a2942 a2943 a2944 a2945=>oN [a2941,a2942,a2943,a2944,a2945] h2940)) fun vs2946 h2947=>U5 vs2946 fun a2948 a2949 a2950 a2951 a2952=>bn .add 3 a2952 (i 1) fun t2953=>
 oN [a2948,a2949,a2950,a2951,t2953] h2947) (ql 29)
def B113 (c:CH) (ql:QH) (us:List GV) (H:GH):RS:=U3 us fun x2954 x2955 x2956=>
 ln 22 x2955 fun t2957=>
 bn .gtr 3 t2957 (i 6) fun t2958=>
 ob (GV.asB t2958) fun q2959=>jn (bC q2959 (oN [x2954,x2955,x2956] H) (oR [(i 0),(i 7)] H)) fun vs2960 h2961=>U3 vs2960 fun a2962 a2963 a2964=>ln 22 a2963 fun t2965=>
 jn (nB 0 (ql 30 [a2962,a2963,a2964,a2963,t2965,(i 0)] h2961)) fun vs2966 h2967=>U3 vs2966 fun a2968 a2969 a2970=>ln 22 a2969 fun t2971=>
 K c 112 [a2968,t2971] h2967 fun t2972 h2973=>
 ob (vUn .not t2972) fun t2974=>
 ob (GV.asB t2974) fun q2975=>jn (bC q2975 (oN [a2968,a2969,a2970] h2973) (oR [(i 0),(i 7)] h2973)) fun vs2976 h2977=>U3 vs2976 fun a2978 a2979 a2980=>bd 176 [(0,a2978),(1,a2979)] fun t2981=>
 kOR (vAlloc y 176 h2977) fun t2982 h2983=>
 kOR (vStore y 176 t2982 t2981 h2983) fun t2984 h2985=>
 ld 176 t2982 h2985 fun t2986=>
 K c 132 [t2986,(i 0),a2980] h2985 fun t2987 h2988=>
 ex 0 t2987 fun t2989=>
 ex 1 t2987 fun t2990=>
 bn .eql 3 t2989 (i 0) fun t2991=>
 ob (GV.asB t2991) fun q2992=>jn (bC q2992 (oN [t2989] h2988) (oR [(i 0),(i 6)] h2988)) fun vs2993 h2994=>U1 vs2993 fun a2995=>oR [a2995,(i 0)] h2994
def L30 (c:CH) (ql:QH) (us:List GV) (H:GH):RS:=U6 us fun a2996 a2997 a2998 a2999 a3000 a3001=>jn (bn .lss 3 a3001 a3000 fun t3002=>
 ob (GV.asB t3002) fun q3003=>jn (bC q3003 (oX 0 [a2996,a2997,a2998] H) (oN [a2996,a2997,a2998,a2999,a3000,a3001] H)) fun vs3004 h3005=>U6 vs3004 fun a3006 a3007 a3008 a3009 a3010 a3011=>jn (nB 1 (ix 22 a3009 a3011 fun t3012=>
 ld 3 t3012 h3005 fun t3013=>
 K c 110 [t3013] h3005 fun t3014 h3015=>
 ob (vUn .not t3014) fun t3016=>
 ob (GV.asB t3016) fun q3017=>jn (bC q3017 (oN [a3006,a3007,a3008,a3009,a3010,a3011] h3015) (oR [(i 0),(i 7)] h3015)) fun vs3018 h3019=>U6 vs3018 fun a3020 a3021 a3022 a3023 a3024 a3025=>oN [a3020,a3021,a3022,a3023,a3024,a3025] h3019)) fun vs3026 h3027=>U6 vs3026 fun a3028 a3029 a3030 a3031 a3032 a3033=>bn .add 3 a3033 (i 1) fun t3034=>
 oN [a3028,a3029,a3030,a3031,a3032,t3034] h3027) (ql 30)
def B114 (c:CH) (ql:QH) (us:List GV) (H:GH):RS:=U1 us fun x3035=>
 kOR (vBox x3035 H) fun t3036 h3037=>
 ld 42 t3036 h3037 fun t3038=>
 K c 62 [t3038] h3037 fun t3039 h3040=>
 bn .eql 69 t3039 (i 0) fun t3041=>
 oR [t3041] h3040
def B115 (c:CH) (ql:QH) (us:List GV) (H:GH):RS:=U2 us fun x3042 x3043=>
 ln 22 x3043 fun t3044=>
 ln 139 x3042 fun t3045=>
 bn .neq 3 t3044 t3045 fun t3046=>
 ob (GV.asB t3046) fun q3047=>jn (bC q3047 (oN [x3042,x3043] H) (oR [(.bool false)] H)) fun vs3048 h3049=>U2 vs3048 fun a3050 a3051=>ln 22 a3051 fun t3052=>
 jn (nB 0 (ql 31 [a3050,a3051,t3052,(i 0)] h3049)) fun vs3053 h3054=>U0 vs3053 (oR [(.bool true)] h3054)
def L31 (c:CH) (ql:QH) (us:List GV) (H:GH):RS:=U4 us fun a3055 a3056 a3057 a3058=>jn (bn .lss 3 a3058 a3057 fun t3059=>
 ob (GV.asB t3059) fun q3060=>jn (bC q3060 (oX 0 [] H) (oN [a3055,a3056,a3057,a3058] H)) fun vs3061 h3062=>U4 vs3061 fun a3063 a3064 a3065 a3066=>jn (nB 1 (ix 22 a3064 a3066 fun t3067=>
 ld 3 t3067 h3062 fun t3068=>
 ix 139 a3063 a3066 fun t3069=>
 ix 97 t3069 (i 0) fun t3070=>
 ld 3 t3070 h3062 fun t3071=>
 bn .lss 3 t3068 t3071 fun t3072=>
 kOR (rG t3072 false h3062 (some (t3068,h3062))) fun t3073 h3074=>
 kOR (rG t3072 false h3074 (some (a3063,h3074))) fun t3075 h3076=>
 kOR (rG t3072 false h3076 (some (a3066,h3076))) fun t3077 h3078=>
 kOR (rG t3072 false h3078 (ob (vIndex y 139 t3075 t3077) fun g3079=>some (g3079,h3078))) fun t3080 h3081=>
 kOR (rG t3072 false h3081 (ob (vIndex y 97 t3080 (i 1)) fun g3082=>some (g3082,h3081))) fun t3083 h3084=>
 kOR (rG t3072 false h3084 (ob (vLoad y 3 t3083 h3084) fun g3085=>some (g3085,h3084))) fun t3086 h3087=>
 kOR (rG t3072 false h3087 (ob (vBin y .gtr 3 t3073 t3086) fun g3088=>some (g3088,h3087))) fun t3089 h3090=>
 ob (vPick t3072 (.bool true) t3089) fun t3091=>
 ob (GV.asB t3091) fun q3092=>jn (bC q3092 (oN [a3063,a3064,a3065,a3066] h3090) (oR [(.bool false)] h3090)) fun vs3093 h3094=>U4 vs3093 fun a3095 a3096 a3097 a3098=>oN [a3095,a3096,a3097,a3098] h3094)) fun vs3099 h3100=>U4 vs3099 fun a3101 a3102 a3103 a3104=>bn .add 3 a3104 (i 1) fun t3105=>
 oN [a3101,a3102,a3103,t3105] h3100) (ql 31)
def B116 (c:CH) (ql:QH) (us:List GV) (H:GH):RS:=U3 us fun x3106 x3107 x3108=>
 kOR (vBox x3106 H) fun t3109 h3110=>
 kOR (vBox x3107 h3110) fun t3111 h3112=>
 fd 62 2 t3109 fun t3113=>
 ld 3 t3113 h3112 fun t3114=>
 ob (Option.casesOn (motive:=fun _=>Option (Option (Nat×Nat))) (ob (GV.asP t3113) fun p=>some p.1) (some none) fun k3116=>ob (GH.ver h3112 k3116) fun k3117=>some (some (k3116,k3117))) fun e3115=>
 fd 62 3 t3109 fun t3118=>
 ld 3 t3118 h3112 fun t3119=>
 ob (Option.casesOn (motive:=fun _=>Option (Option (Nat×Nat))) (ob (GV.asP t3118) fun p=>some p.1) (some none) fun k3121=>ob (GH.ver h3112 k3121) fun k3122=>some (some (k3121,k3122))) fun e3120=>
 fd 62 4 t3109 fun t3123=>
 ld 3 t3123 h3112 fun t3124=>
 ob (Option.casesOn (motive:=fun _=>Option (Option (Nat×Nat))) (ob (GV.asP t3123) fun p=>some p.1) (some none) fun k3126=>ob (GH.ver h3112 k3126) fun k3127=>some (some (k3126,k3127))) fun e3125=>
 fd 25 0 t3111 fun t3128=>
 ld 22 t3128 h3112 fun t3129=>
 ob (Option.casesOn (motive:=fun _=>Option (Option (Nat×Nat))) (ob (GV.asP t3128) fun p=>some p.1) (some none) fun k3131=>ob (GH.ver h3112 k3131) fun k3132=>some (some (k3131,k3132))) fun e3130=>
 ln 22 t3129 fun t3133=>
 bn .mul 3 t3124 t3133 fun t3134=>
 bn .add 3 t3119 t3134 fun t3135=>
 fd 62 5 t3109 fun t3136=>
 ld 3 t3136 h3112 fun t3137=>
 ob (Option.casesOn (motive:=fun _=>Option (Option (Nat×Nat))) (ob (GV.asP t3136) fun p=>some p.1) (some none) fun k3139=>ob (GH.ver h3112 k3139) fun k3140=>some (some (k3139,k3140))) fun e3138=>
 fd 25 0 t3111 fun t3141=>
 ld 22 t3141 h3112 fun t3142=>
 ob (Option.casesOn (motive:=fun _=>Option (Option (Nat×Nat))) (ob (GV.asP t3141) fun p=>some p.1) (some none) fun k3144=>ob (GH.ver h3112 k3144) fun k3145=>some (some (k3144,k3145))) fun e3143=>
 K c 117 [t3142] h3112 fun t3146 h3147=>
 ob (pck h3147 e3138 (pck h3147 e3130 (pck h3147 e3125 (pck h3147 e3120 (pck h3147 e3115 (some ())))))) fun _=>
 bn .mul 3 t3137 t3146 fun t3148=>
 bn .add 3 t3135 t3148 fun t3149=>
 oR [t3114,t3149] h3147
def B117 (c:CH) (ql:QH) (us:List GV) (H:GH):RS:=U1 us fun x3150=>
 ln 22 x3150 fun t3151=>
 bn .lss 3 t3151 (i 1) fun t3152=>
 ob (GV.asB t3152) fun q3153=>jn (bC q3153 (oN [x3150] H) (none)) fun vs3154 h3155=>U1 vs3154 fun a3156=>ix 22 a3156 (i 0) fun t3157=>
 ld 3 t3157 h3155 fun t3158=>
 jn (nB 0 (ql 32 [a3156,t3158,(i 1)] h3155)) fun vs3159 h3160=>U1 vs3159 fun a3161=>oR [a3161] h3160
def L32 (c:CH) (ql:QH) (us:List GV) (H:GH):RS:=U3 us fun a3162 a3163 a3164=>jn (ln 22 a3162 fun t3165=>
 bn .lss 3 a3164 t3165 fun t3166=>
 ob (GV.asB t3166) fun q3167=>jn (bC q3167 (oX 0 [a3163] H) (oN [a3162,a3163,a3164] H)) fun vs3168 h3169=>U3 vs3168 fun a3170 a3171 a3172=>jn (nB 1 (ix 22 a3170 a3172 fun t3173=>
 ld 3 t3173 h3169 fun t3174=>
 ob (vMax a3171 t3174) fun t3175=>
 oN [a3170,t3175,a3172] h3169)) fun vs3176 h3177=>U3 vs3176 fun a3178 a3179 a3180=>bn .add 3 a3180 (i 1) fun t3181=>
 oN [a3178,a3179,t3181] h3177) (ql 32)
def B118 (c:CH) (ql:QH) (us:List GV) (H:GH):RS:=U3 us fun x3182 x3183 x3184=>
 kOR (vBox x3182 H) fun t3185 h3186=>
 kOR (vBox x3183 h3186) fun t3187 h3188=>
 oR [(i 0),(i 1)] h3188
def B119 (c:CH) (ql:QH) (us:List GV) (H:GH):RS:=U3 us fun x3189 x3190 x3191=>
 kOR (vBox x3189 H) fun t3192 h3193=>
 kOR (vBox x3190 h3193) fun t3194 h3195=>
 fd 25 1 t3194 fun t3196=>
 ld 23 t3196 h3195 fun t3197=>
 ix 23 t3197 x3191 fun t3198=>
 ld 59 t3198 h3195 fun t3199=>
 ln 59 t3199 fun t3200=>
 bn .sub 3 t3200 (i 1) fun t3201=>
 oR [(.int .i64 (.negSucc 0)),t3201] h3195
def B120 (c:CH) (ql:QH) (us:List GV) (H:GH):RS:=U4 us fun x3202 x3203 x3204 x3205=>
 bd 179 [(0,x3202),(1,x3203),(2,x3204),(3,x3205)] fun t3206=>
 kOR (vAlloc y 179 H) fun t3207 h3208=>
 kOR (vStore y 179 t3207 t3206 h3208) fun t3209 h3210=>
 K c 133 [t3207,(i 0),(.int .i64 (.negSucc 0))] h3210 fun t3211 h3212=>
 ex 0 t3211 fun t3213=>
 ex 1 t3211 fun t3214=>
 oR [t3213] h3212
def B121 (c:CH) (ql:QH) (us:List GV) (H:GH):RS:=U2 us fun x3215 x3216=>
 K c 134 [x3215,x3216] H fun t3217 h3218=>
 oR [t3217] h3218
def B122 (c:CH) (ql:QH) (us:List GV) (H:GH):RS:=U2 us fun x3219 x3220=>
 K c 135 [x3219,x3220] H fun t3221 h3222=>
 oR [t3221] h3222
def B123 (c:CH) (ql:QH) (us:List GV) (H:GH):RS:=U1 us fun x3223=>
 jn (nB 0 (bn .eql 9 x3223 (.str 30787916450984560 7) fun t3224=>
 ob (GV.asB t3224) fun q3225=>jn (bC q3225 (bn .eql 9 x3223 (.str 7496054 3) fun t3226=>
 ob (GV.asB t3226) fun q3227=>jn (bC q3227 (bn .eql 9 x3223 (.str 1701606770 4) fun t3228=>
 ob (GV.asB t3228) fun q3229=>jn (bC q3229 (bn .eql 9 x3223 (.str 1819242338 4) fun t3230=>
 ob (GV.asB t3230) fun q3231=>jn (bC q3231 (bn .eql 9 x3223 (.str 1953656688 4) fun t3232=>
 ob (GV.asB t3232) fun q3233=>jn (bC q3233 (bn .eql 9 x3223 (.str 1702195828 4) fun t3234=>
 ob (GV.asB t3234) fun q3235=>jn (bC q3235 (bn .eql 9 x3223 (.str 435728179558 5) fun t3236=>
 ob (GV.asB t3236) fun q3237=>jn (bC q3237 (bn .eql 9 x3223 (.str 1701736302 4) fun t3238=>
 oN [x3223,t3238] H) (oN [x3223,t3236] H)) fun vs3239 h3240=>U2 vs3239 fun a3241 a3242=>oN [a3241,a3242] h3240) (oN [x3223,t3234] H)) fun vs3243 h3244=>U2 vs3243 fun a3245 a3246=>oN [a3245,a3246] h3244) (oN [x3223,t3232] H)) fun vs3247 h3248=>U2 vs3247 fun a3249 a3250=>oN [a3249,a3250] h3248) (oN [x3223,t3230] H)) fun vs3251 h3252=>U2 vs3251 fun a3253 a3254=>oN [a3253,a3254] h3252) (oN [x3223,t3228] H)) fun vs3255 h3256=>U2 vs3255 fun a3257 a3258=>oN [a3257,a3258] h3256) (oN [x3223,t3226] H)) fun vs3259 h3260=>U2 vs3259 fun a3261 a3262=>oN [a3261,a3262] h3260) (oN [x3223,t3224] H)) fun vs3263 h3264=>U2 vs3263 fun a3265 a3266=>ob (GV.asB a3266) fun q3267=>jn (bC q3267 (bn .eql 9 a3265 (.str 110 1) fun t3268=>
 ob (GV.asB t3268) fun q3269=>jn (bC q3269 (bn .eql 9 a3265 (.str 7562345 3) fun t3270=>
 ob (GV.asB t3270) fun q3271=>jn (bC q3271 (bn .eql 9 a3265 (.str 25705 2) fun t3272=>
 ob (GV.asB t3272) fun q3273=>jn (bC q3273 (bn .eql 9 a3265 (.str 6776164 3) fun t3274=>
 ob (GV.asB t3274) fun q3275=>jn (bC q3275 (bn .eql 9 a3265 (.str 1953460082 4) fun t3276=>
 ob (GV.asB t3276) fun q3277=>jn (bC q3277 (bn .eql 9 a3265 (.str 113 1) fun t3278=>
 ob (GV.asB t3278) fun q3279=>jn (bC q3279 (bn .eql 9 a3265 (.str 127991760381303 6) fun t3280=>
 ob (GV.asB t3280) fun q3281=>jn (bC q3281 (bn .eql 9 a3265 (.str 1801675106 4) fun t3282=>
 oN [a3265,t3282] h3264) (oN [a3265,t3280] h3264)) fun vs3283 h3284=>U2 vs3283 fun a3285 a3286=>oN [a3285,a3286] h3284) (oN [a3265,t3278] h3264)) fun vs3287 h3288=>U2 vs3287 fun a3289 a3290=>oN [a3289,a3290] h3288) (oN [a3265,t3276] h3264)) fun vs3291 h3292=>U2 vs3291 fun a3293 a3294=>oN [a3293,a3294] h3292) (oN [a3265,t3274] h3264)) fun vs3295 h3296=>U2 vs3295 fun a3297 a3298=>oN [a3297,a3298] h3296) (oN [a3265,t3272] h3264)) fun vs3299 h3300=>U2 vs3299 fun a3301 a3302=>oN [a3301,a3302] h3300) (oN [a3265,t3270] h3264)) fun vs3303 h3304=>U2 vs3303 fun a3305 a3306=>oN [a3305,a3306] h3304) (oN [a3265,t3268] h3264)) fun vs3307 h3308=>U2 vs3307 fun a3309 a3310=>ob (GV.asB a3310) fun q3311=>jn (bC q3311 (bn .eql 9 a3309 (.str 7105633 3) fun t3312=>
 ob (GV.asB t3312) fun q3313=>jn (bC q3313 (bn .eql 9 a3309 (.str 1701670771 4) fun t3314=>
 ob (GV.asB t3314) fun q3315=>jn (bC q3315 (bn .eql 9 a3309 (.str 500069396323 5) fun t3316=>
 ob (GV.asB t3316) fun q3317=>jn (bC q3317 (bn .eql 9 a3309 (.str 500153084262 5) fun t3318=>
 ob (GV.asB t3318) fun q3319=>jn (bC q3319 (bn .eql 9 a3309 (.str 7235949 3) fun t3320=>
 ob (GV.asB t3320) fun q3321=>jn (bC q3321 (bn .eql 9 a3309 (.str 7889261 3) fun t3322=>
 ob (GV.asB t3322) fun q3323=>jn (bC q3323 (bn .eql 9 a3309 (.str 7173491 3) fun t3324=>
 ob (GV.asB t3324) fun q3325=>jn (bC q3325 (bn .eql 9 a3309 (.str 7890285 3) fun t3326=>
 ob (GV.asB t3326) fun q3327=>jn (bC q3327 (bn .eql 9 a3309 (.str 110425477965171 6) fun t3328=>
 ob (GV.asB t3328) fun q3329=>jn (bC q3329 (bn .eql 9 a3309 (.str 1684104552 4) fun t3330=>
 oN [t3330] h3308) (oN [t3328] h3308)) fun vs3331 h3332=>U1 vs3331 fun a3333=>oN [a3333] h3332) (oN [t3326] h3308)) fun vs3334 h3335=>U1 vs3334 fun a3336=>oN [a3336] h3335) (oN [t3324] h3308)) fun vs3337 h3338=>U1 vs3337 fun a3339=>oN [a3339] h3338) (oN [t3322] h3308)) fun vs3340 h3341=>U1 vs3340 fun a3342=>oN [a3342] h3341) (oN [t3320] h3308)) fun vs3343 h3344=>U1 vs3343 fun a3345=>oN [a3345] h3344) (oN [t3318] h3308)) fun vs3346 h3347=>U1 vs3346 fun a3348=>oN [a3348] h3347) (oN [t3316] h3308)) fun vs3349 h3350=>U1 vs3349 fun a3351=>oN [a3351] h3350) (oN [t3314] h3308)) fun vs3352 h3353=>U1 vs3352 fun a3354=>oN [a3354] h3353) (oN [t3312] h3308)) fun vs3355 h3356=>U1 vs3355 fun a3357=>ob (GV.asB a3357) fun q3358=>jn (bC q3358 (oN [] h3356) (oR [(.bool true)] h3356)) fun vs3359 h3360=>U0 vs3359 (oN [] h3360)) (oR [(.bool true)] h3308)) fun vs3361 h3362=>U0 vs3361 (oN [] h3362)) (oR [(.bool true)] h3264)) fun vs3363 h3364=>U0 vs3363 (oN [] h3364))) fun vs3365 h3366=>U0 vs3365 (oR [(.bool false)] h3366)
def B124 (c:CH) (ql:QH) (us:List GV) (H:GH):RS:=U1 us fun x3367=>
 K c 136 [x3367] H fun t3368 h3369=>
 ob (GV.asB t3368) fun q3370=>jn (bC q3370 (oN [x3367] h3369) (K c 106 [x3367,(i 1),(i 255)] h3369 fun t3371 h3372=>
 oR [t3371] h3372)) fun vs3373 h3374=>U1 vs3373 fun a3375=>K c 106 [a3375,(i 0),(i 4096)] h3374 fun t3376 h3377=>
 oR [t3376] h3377
def B125 (c:CH) (ql:QH) (us:List GV) (H:GH):RS:=U2 us fun x3378 x3379=>
 bn .eql 3 x3379 (i 6) fun t3380=>
 ob (GV.asB t3380) fun q3381=>jn (bC q3381 (oN [x3378,x3379] H) (K c 137 [x3378] H fun t3382 h3383=>
 oR [t3382] h3383)) fun vs3384 h3385=>U2 vs3384 fun a3386 a3387=>bn .add 3 a3387 (i 1) fun t3388=>
 K c 125 [a3386,t3388] h3385 fun t3389 h3390=>
 jn (nB 0 (ql 33 [a3386,a3387,t3389] h3390)) fun vs3391 h3392=>U1 vs3391 fun a3393=>oR [a3393] h3392
def L33 (c:CH) (ql:QH) (us:List GV) (H:GH):RS:=U3 us fun a3394 a3395 a3396=>jn (jn (nB 1 (K c 102 [a3394] H fun t3397 h3398=>
 K c 138 [t3397] h3398 fun t3399 h3400=>
 bn .eql 3 t3399 (i 0) fun t3401=>
 kOR (rG t3401 false h3400 (some (t3399,h3400))) fun t3402 h3403=>
 kOR (rG t3401 false h3403 (kOR (c 139 [t3402] h3403) orK)) fun t3404 h3405=>
 kOR (rG t3401 false h3405 (some (a3395,h3405))) fun t3406 h3407=>
 kOR (rG t3401 false h3407 (ob (vBin y .neq 3 t3404 t3406) fun g3408=>some (g3408,h3407))) fun t3409 h3410=>
 ob (vPick t3401 (.bool true) t3409) fun t3411=>
 ob (GV.asB t3411) fun q3412=>jn (bC q3412 (oN [a3394,a3395,a3396,t3399] h3410) (oR [a3396] h3410)) fun vs3413 h3414=>U4 vs3413 fun a3415 a3416 a3417 a3418=>K c 105 [a3415] h3414 fun t3419 h3420=>
 bn .add 3 a3416 (i 1) fun t3421=>
 K c 125 [a3415,t3421] h3420 fun t3422 h3423=>
 kOR (vBuildS y 182 2 [(0,a3417),(1,t3422)] h3423) fun t3424 h3425=>
 K c 126 [a3418,t3424] h3425 fun t3426 h3427=>
 bn .eql 3 a3416 (i 3) fun t3428=>
 ob (GV.asB t3428) fun q3429=>jn (bC q3429 (oN [a3415,a3416,t3426] h3427) (oR [t3426] h3427)) fun vs3430 h3431=>U3 vs3430 fun a3432 a3433 a3434=>oN [a3432,a3433,a3434] h3431)) fun vs3435 h3436=>U3 vs3435 fun a3437 a3438 a3439=>oN [a3437,a3438,a3439] h3436) (ql 33)
def B126 (c:CH) (ql:QH) (us:List GV) (H:GH):RS:=U2 us fun x3440 x3441=>
 K c 140 [x3440,(i 0)] H fun t3442 h3443=>
 ln 182 x3441 fun t3444=>
 jn (nB 0 (ql 34 [t3442,x3441,t3444,(i 0)] h3443)) fun vs3445 h3446=>U1 vs3445 fun a3447=>oR [a3447] h3446
def L34 (c:CH) (ql:QH) (us:List GV) (H:GH):RS:=U4 us fun a3448 a3449 a3450 a3451=>jn (bn .lss 3 a3451 a3450 fun t3452=>
 ob (GV.asB t3452) fun q3453=>jn (bC q3453 (oX 0 [a3448] H) (oN [a3448,a3449,a3450,a3451] H)) fun vs3454 h3455=>U4 vs3454 fun a3456 a3457 a3458 a3459=>jn (nB 1 (ix 182 a3457 a3459 fun t3460=>
 ld 128 t3460 h3455 fun t3461=>
 kOR (vApp y 128 128 a3456 t3461 h3455) fun t3462 h3463=>
 oN [t3462,a3457,a3458,a3459] h3463)) fun vs3464 h3465=>U4 vs3464 fun a3466 a3467 a3468 a3469=>bn .add 3 a3469 (i 1) fun t3470=>
 oN [a3466,a3467,a3468,t3470] h3465) (ql 34)
def B127 (c:CH) (ql:QH) (us:List GV) (H:GH):RS:=U2 us fun x3471 x3472=>
 ln 87 x3471 fun t3473=>
 jn (nB 0 (ql 35 [x3471,x3472,t3473,(i 0)] H)) fun vs3474 h3475=>U0 vs3474 (oR [(.int .i64 (.negSucc 0))] h3475)
def L35 (c:CH) (ql:QH) (us:List GV) (H:GH):RS:=U4 us fun a3476 a3477 a3478 a3479=>jn (bn .lss 3 a3479 a3478 fun t3480=>
 ob (GV.asB t3480) fun q3481=>jn (bC q3481 (oX 0 [] H) (oN [a3476,a3477,a3478,a3479] H)) fun vs3482 h3483=>U4 vs3482 fun a3484 a3485 a3486 a3487=>jn (nB 1 (ix 87 a3484 a3487 fun t3488=>
 ld 9 t3488 h3483 fun t3489=>
 bn .eql 9 a3485 t3489 fun t3490=>
 ob (GV.asB t3490) fun q3491=>jn (bC q3491 (oN [a3484,a3485,a3486,a3487] h3483) (oR [a3487] h3483)) fun vs3492 h3493=>U4 vs3492 fun a3494 a3495 a3496 a3497=>oN [a3494,a3495,a3496,a3497] h3493)) fun vs3498 h3499=>U4 vs3498 fun a3500 a3501 a3502 a3503=>bn .add 3 a3503 (i 1) fun t3504=>
 oN [a3500,a3501,a3502,t3504] h3499) (ql 35)
def B128 (c:CH) (ql:QH) (us:List GV) (H:GH):RS:=U2 us fun x3505 x3506=>
 bn .lss 3 x3506 (i 0) fun t3507=>
 kOR (rG t3507 false H (some (x3506,H))) fun t3508 h3509=>
 kOR (rG t3507 false h3509 (some (x3505,h3509))) fun t3510 h3511=>
 kOR (rG t3507 false h3511 (ob (vLen y 128 t3510) fun g3512=>some (g3512,h3511))) fun t3513 h3514=>
 kOR (rG t3507 false h3514 (ob (vBin y .geq 3 t3508 t3513) fun g3515=>some (g3515,h3514))) fun t3516 h3517=>
 ob (vPick t3507 (.bool true) t3516) fun t3518=>
 ob (GV.asB t3518) fun q3519=>jn (bC q3519 (oN [x3505,x3506] h3517) (oR [(.int .i64 (.negSucc 0))] h3517)) fun vs3520 h3521=>U2 vs3520 fun a3522 a3523=>jn (nB 0 (ql 36 [a3522,a3523,(i 1)] h3521)) fun vs3524 h3525=>U0 vs3524 (oR [(.int .i64 (.negSucc 0))] h3525)
def L36 (c:CH) (ql:QH) (us:List GV) (H:GH):RS:=U3 us fun a3526 a3527 a3528=>jn (ln 128 a3526 fun t3529=>
 bn .lss 3 a3527 t3529 fun t3530=>
 ob (GV.asB t3530) fun q3531=>jn (bC q3531 (oX 0 [] H) (oN [a3526,a3527,a3528] H)) fun vs3532 h3533=>U3 vs3532 fun a3534 a3535 a3536=>jn (nB 1 (ix 128 a3534 a3535 fun t3537=>
 fd 172 0 t3537 fun t3538=>
 ld 3 t3538 h3533 fun t3539=>
 K c 141 [t3539] h3533 fun t3540 h3541=>
 bn .lss 3 t3540 (i 0) fun t3542=>
 ob (GV.asB t3542) fun q3543=>jn (bC q3543 (oN [a3534,a3535,a3536,t3540] h3541) (oR [(.int .i64 (.negSucc 0))] h3541)) fun vs3544 h3545=>U4 vs3544 fun a3546 a3547 a3548 a3549=>bn .sub 3 a3549 (i 1) fun t3550=>
 bn .add 3 a3548 t3550 fun t3551=>
 bn .eql 3 t3551 (i 0) fun t3552=>
 ob (GV.asB t3552) fun q3553=>jn (bC q3553 (oN [a3546,a3547,t3551] h3545) (bn .add 3 a3547 (i 1) fun t3554=>
 oR [t3554] h3545)) fun vs3555 h3556=>U3 vs3555 fun a3557 a3558 a3559=>oN [a3557,a3558,a3559] h3556)) fun vs3560 h3561=>U3 vs3560 fun a3562 a3563 a3564=>bn .add 3 a3563 (i 1) fun t3565=>
 oN [a3562,t3565,a3564] h3561) (ql 36)
def B129 (c:CH) (ql:QH) (us:List GV) (H:GH):RS:=U2 us fun x3566 x3567=>
 kOR (vBox x3566 H) fun t3568 h3569=>
 fd 172 0 t3568 fun t3570=>
 ld 3 t3570 h3569 fun t3571=>
 jn (nB 0 (bn .eql 3 t3571 (i 1) fun t3572=>
 ob (GV.asB t3572) fun q3573=>jn (bC q3573 (bn .eql 3 t3571 (i 5) fun t3587=>
 ob (GV.asB t3587) fun q3588=>jn (bC q3588 (bn .eql 3 t3571 (i 12) fun t3589=>
 oN [x3567,t3568,t3589] h3569) (oN [x3567,t3568,t3587] h3569)) fun vs3590 h3591=>U3 vs3590 fun a3592 a3593 a3594=>ob (GV.asB a3594) fun q3595=>jn (bC q3595 (oN [a3593] h3591) (fd 172 1 a3593 fun t3596=>
 ld 3 t3596 h3591 fun t3597=>
 bn .geq 3 t3597 (i 0) fun t3598=>
 kOR (rG t3598 true h3591 (ob (vField y 172 1 a3593) fun g3599=>some (g3599,h3591))) fun t3600 h3601=>
 kOR (rG t3598 true h3601 (ob (vLoad y 3 t3600 h3601) fun g3602=>some (g3602,h3601))) fun t3603 h3604=>
 kOR (rG t3598 true h3604 (some (a3592,h3604))) fun t3605 h3606=>
 kOR (rG t3598 true h3606 (ob (vBin y .lss 3 t3603 t3605) fun g3607=>some (g3607,h3606))) fun t3608 h3609=>
 ob (vPick t3598 t3608 (.bool false)) fun t3610=>
 oR [t3610] h3609)) fun vs3611 h3612=>U1 vs3611 fun a3613=>oN [a3613] h3612) (fd 172 1 t3568 fun t3574=>
 ld 3 t3574 h3569 fun t3575=>
 bn .geq 3 t3575 (i 0) fun t3576=>
 kOR (rG t3576 true h3569 (ob (vField y 172 1 t3568) fun g3577=>some (g3577,h3569))) fun t3578 h3579=>
 kOR (rG t3576 true h3579 (ob (vLoad y 3 t3578 h3579) fun g3580=>some (g3580,h3579))) fun t3581 h3582=>
 kOR (rG t3576 true h3582 (ob (vBin y .leq 3 t3581 (i 1073741824)) fun g3583=>some (g3583,h3582))) fun t3584 h3585=>
 ob (vPick t3576 t3584 (.bool false)) fun t3586=>
 oR [t3586] h3585)) fun vs3614 h3615=>U1 vs3614 fun a3616=>oN [a3616] h3615)) fun vs3617 h3618=>U1 vs3617 fun a3619=>fd 172 1 a3619 fun t3620=>
 ld 3 t3620 h3618 fun t3621=>
 bn .eql 3 t3621 (i 0) fun t3622=>
 oR [t3622] h3618
def B130 (c:CH) (ql:QH) (us:List GV) (H:GH):RS:=U1 us fun x3623=>
 K c 142 [x3623,(.fn 143 [] [])] H fun t3624 h3625=>
 ex 0 t3624 fun t3626=>
 ex 1 t3624 fun t3627=>
 oR [t3626] h3625
def B131 (c:CH) (ql:QH) (us:List GV) (H:GH):RS:=U1 us fun x3628=>
 K c 142 [x3628,(.fn 144 [] [])] H fun t3629 h3630=>
 ex 0 t3629 fun t3631=>
 ex 1 t3629 fun t3632=>
 oR [t3631] h3630
def B132 (c:CH) (ql:QH) (us:List GV) (H:GH):RS:=U3 us fun x3633 x3634 x3635=>
 kOR (vBox x3633 H) fun t3636 h3637=>
 fd 176 0 t3636 fun t3638=>
 ld 128 t3638 h3637 fun t3639=>
 ix 128 t3639 x3634 fun t3640=>
 ld 172 t3640 h3637 fun t3641=>
 kOR (vAlloc y 172 h3637) fun t3642 h3643=>
 kOR (vStore y 172 t3642 t3641 h3643) fun t3644 h3645=>
 bn .add 3 x3634 (i 1) fun t3646=>
 fd 172 0 t3642 fun t3647=>
 ld 3 t3647 h3645 fun t3648=>
 K c 141 [t3648] h3645 fun t3649 h3650=>
 bn .eql 3 t3649 (i 0) fun t3651=>
 ob (GV.asB t3651) fun q3652=>jn (bC q3652 (oN [x3635,t3636,t3646,t3642] h3650) (fd 172 0 t3642 fun t3653=>
 ld 3 t3653 h3650 fun t3654=>
 K c 146 [t3654] h3650 fun t3655 h3656=>
 kOR (rG t3655 true h3656 (some (x3635,h3656))) fun t3657 h3658=>
 kOR (rG t3655 true h3658 (ob (vUn .not t3657) fun g3659=>some (g3659,h3658))) fun t3660 h3661=>
 ob (vPick t3655 t3660 (.bool false)) fun t3662=>
 ob (GV.asB t3662) fun q3663=>jn (bC q3663 (oN [t3636,t3646,t3642] h3661) (oR [(i 0),t3646] h3661)) fun vs3664 h3665=>U3 vs3664 fun a3666 a3667 a3668=>ld 176 a3666 h3665 fun t3669=>
 ld 172 a3668 h3665 fun t3670=>
 K c 147 [t3669,t3670] h3665 fun t3671 h3672=>
 oR [t3671,a3667] h3672)) fun vs3673 h3674=>U4 vs3673 fun a3675 a3676 a3677 a3678=>kOR (rG a3675 false h3674 (ob (vField y 172 0 a3678) fun g3679=>some (g3679,h3674))) fun t3680 h3681=>
 kOR (rG a3675 false h3681 (ob (vLoad y 3 t3680 h3681) fun g3682=>some (g3682,h3681))) fun t3683 h3684=>
 kOR (rG a3675 false h3684 (kOR (c 145 [t3683] h3684) orK)) fun t3685 h3686=>
 ob (vPick a3675 (.bool true) t3685) fun t3687=>
 kOR (vAlloc y 186 h3686) fun t3688 h3689=>
 fd 172 0 a3678 fun t3690=>
 ld 3 t3690 h3689 fun t3691=>
 K c 141 [t3691] h3689 fun t3692 h3693=>
 jn (nB 0 (ql 37 [a3676,a3677,a3678,t3687,t3688,t3692,(i 0)] h3693)) fun vs3694 h3695=>U3 vs3694 fun a3696 a3697 a3698=>fd 172 0 a3697 fun t3699=>
 ld 3 t3699 h3695 fun t3700=>
 ld 186 a3698 h3695 fun t3701=>
 K c 148 [t3700,t3701] h3695 fun t3702 h3703=>
 oR [t3702,a3696] h3703
def L37 (c:CH) (ql:QH) (us:List GV) (H:GH):RS:=U7 us fun a3704 a3705 a3706 a3707 a3708 a3709 a3710=>jn (bn .lss 3 a3710 a3709 fun t3711=>
 ob (GV.asB t3711) fun q3712=>jn (bC q3712 (oX 0 [a3705,a3706,a3708] H) (oN [a3704,a3705,a3706,a3707,a3708,a3709,a3710] H)) fun vs3713 h3714=>U7 vs3713 fun a3715 a3716 a3717 a3718 a3719 a3720 a3721=>jn (nB 1 (ld 176 a3715 h3714 fun t3722=>
 K c 132 [t3722,a3716,a3718] h3714 fun t3723 h3724=>
 ex 0 t3723 fun t3725=>
 ex 1 t3723 fun t3726=>
 ix 186 a3719 a3721 fun t3727=>
 kOR (vStore y 3 t3727 t3725 h3724) fun t3728 h3729=>
 oN [a3715,t3726,a3717,a3718,a3719,a3720,a3721] h3729)) fun vs3730 h3731=>U7 vs3730 fun a3732 a3733 a3734 a3735 a3736 a3737 a3738=>bn .add 3 a3738 (i 1) fun t3739=>
 oN [a3732,a3733,a3734,a3735,a3736,a3737,t3739] h3731) (ql 37)
def B133 (c:CH) (ql:QH) (us:List GV) (H:GH):RS:=U3 us fun x3740 x3741 x3742=>
 ob (GV.nilck x3740) fun t3743=>
 fd 179 3 t3743 fun t3744=>
 ld 128 t3744 H fun t3745=>
 ix 128 t3745 x3741 fun t3746=>
 ld 172 t3746 H fun t3747=>
 kOR (vAlloc y 172 H) fun t3748 h3749=>
 kOR (vStore y 172 t3748 t3747 h3749) fun t3750 h3751=>
 jn (nB 0 (fd 172 0 t3748 fun t3752=>
 ld 3 t3752 h3751 fun t3753=>
 bn .leq 3 t3753 (i 17) fun t3754=>
 ob (GV.asB t3754) fun q3755=>jn (bC q3755 (fd 172 0 t3748 fun t3760=>
 ld 3 t3760 h3751 fun t3761=>
 bn .leq 3 t3761 (i 19) fun t3762=>
 ob (GV.asB t3762) fun q3763=>jn (bC q3763 (fd 172 0 t3748 fun t3773=>
 ld 3 t3773 h3751 fun t3774=>
 bn .leq 3 t3774 (i 29) fun t3775=>
 ob (GV.asB t3775) fun q3776=>jn (bC q3776 (fd 172 0 t3748 fun t3783=>
 ld 3 t3783 h3751 fun t3784=>
 bn .leq 3 t3784 (i 42) fun t3785=>
 ob (GV.asB t3785) fun q3786=>jn (bC q3786 (oN [x3740,x3741,x3742] h3751) (bn .add 3 x3741 (i 1) fun t3787=>
 K c 133 [x3740,t3787,x3742] h3751 fun t3788 h3789=>
 ex 0 t3788 fun t3790=>
 ex 1 t3788 fun t3791=>
 K c 133 [x3740,t3791,x3742] h3789 fun t3792 h3793=>
 ex 0 t3792 fun t3794=>
 ex 1 t3792 fun t3795=>
 fd 172 0 t3748 fun t3796=>
 ld 3 t3796 h3793 fun t3797=>
 K c 152 [t3797,t3790,t3794] h3793 fun t3798 h3799=>
 oR [t3798,t3795] h3799)) fun vs3800 h3801=>U3 vs3800 fun a3802 a3803 a3804=>oN [a3802,a3803,a3804] h3801) (fd 172 0 t3748 fun t3777=>
 ld 3 t3777 h3751 fun t3778=>
 K c 151 [x3740,t3778,x3741] h3751 fun t3779 h3780=>
 ex 0 t3779 fun t3781=>
 ex 1 t3779 fun t3782=>
 oR [t3781,t3782] h3780)) fun vs3805 h3806=>U3 vs3805 fun a3807 a3808 a3809=>oN [a3807,a3808,a3809] h3806) (bn .add 3 x3741 (i 1) fun t3764=>
 K c 133 [x3740,t3764,x3742] h3751 fun t3765 h3766=>
 ex 0 t3765 fun t3767=>
 ex 1 t3765 fun t3768=>
 fd 172 0 t3748 fun t3769=>
 ld 3 t3769 h3766 fun t3770=>
 K c 150 [t3770,t3767] h3766 fun t3771 h3772=>
 oR [t3771,t3768] h3772)) fun vs3810 h3811=>U3 vs3810 fun a3812 a3813 a3814=>oN [a3812,a3813,a3814] h3811) (ld 172 t3748 h3751 fun t3756=>
 K c 149 [x3740,t3756,x3742] h3751 fun t3757 h3758=>
 bn .add 3 x3741 (i 1) fun t3759=>
 oR [t3757,t3759] h3758)) fun vs3815 h3816=>U3 vs3815 fun a3817 a3818 a3819=>oN [a3817,a3818,a3819] h3816)) fun vs3820 h3821=>U3 vs3820 fun a3822 a3823 a3824=>bn .add 3 a3823 (i 1) fun t3825=>
 K c 133 [a3822,t3825,a3824] h3821 fun t3826 h3827=>
 ex 0 t3826 fun t3828=>
 ex 1 t3826 fun t3829=>
 K c 133 [a3822,t3829,a3824] h3827 fun t3830 h3831=>
 ex 0 t3830 fun t3832=>
 ex 1 t3830 fun t3833=>
 K c 133 [a3822,t3833,a3824] h3831 fun t3834 h3835=>
 ex 0 t3834 fun t3836=>
 ex 1 t3834 fun t3837=>
 bn .neq 3 t3828 (i 0) fun t3838=>
 ob (GV.asB t3838) fun q3839=>jn (bC q3839 (oN [t3837,t3836] h3835) (oR [t3832,t3837] h3835)) fun vs3840 h3841=>U2 vs3840 fun a3842 a3843=>oR [a3843,a3842] h3841
def B134 (c:CH) (ql:QH) (us:List GV) (H:GH):RS:=U2 us fun x3844 x3845=>
 ln 9 x3844 fun t3846=>
 ln 9 x3845 fun t3847=>
 bn .geq 3 t3846 t3847 fun t3848=>
 kOR (rG t3848 true H (some (x3844,H))) fun t3849 h3850=>
 kOR (rG t3848 true h3850 (some (x3845,h3850))) fun t3851 h3852=>
 kOR (rG t3848 true h3852 (ob (vLen y 9 t3851) fun g3853=>some (g3853,h3852))) fun t3854 h3855=>
 kOR (rG t3848 true h3855 (ob (vSlice y 9 t3849 none (some t3854) h3855) fun g3856=>some (g3856,h3855))) fun t3857 h3858=>
 kOR (rG t3848 true h3858 (some (x3845,h3858))) fun t3859 h3860=>
 kOR (rG t3848 true h3860 (ob (vBin y .eql 9 t3857 t3859) fun g3861=>some (g3861,h3860))) fun t3862 h3863=>
 ob (vPick t3848 t3862 (.bool false)) fun t3864=>
 oR [t3864] h3863
def B135 (c:CH) (ql:QH) (us:List GV) (H:GH):RS:=U2 us fun x3865 x3866=>
 K c 153 [x3865,x3866] H fun t3867 h3868=>
 oR [t3867] h3868
def B136 (c:CH) (ql:QH) (us:List GV) (H:GH):RS:=U1 us fun x3869=>
 ob (GV.nilck x3869) fun t3870=>
 fd 91 0 t3870 fun t3871=>
 fd 89 1 t3871 fun t3872=>
 ld 83 t3872 H fun t3873=>
 ln 83 t3873 fun t3874=>
 bn .gtr 3 t3874 (i 1) fun t3875=>
 kOR (rG t3875 true H (some (x3869,H))) fun t3876 h3877=>
 kOR (rG t3875 true h3877 (ob (GV.nilck t3876) fun g3878=>some (g3878,h3877))) fun t3879 h3880=>
 kOR (rG t3875 true h3880 (ob (vField y 91 0 t3879) fun g3881=>some (g3881,h3880))) fun t3882 h3883=>
 kOR (rG t3875 true h3883 (ob (vField y 89 0 t3882) fun g3884=>some (g3884,h3883))) fun t3885 h3886=>
 kOR (rG t3875 true h3886 (ob (vLoad y 9 t3885 h3886) fun g3887=>some (g3887,h3886))) fun t3888 h3889=>
 kOR (rG t3875 true h3889 (some (x3869,h3889))) fun t3890 h3891=>
 kOR (rG t3875 true h3891 (ob (GV.nilck t3890) fun g3892=>some (g3892,h3891))) fun t3893 h3894=>
 kOR (rG t3875 true h3894 (ob (vField y 91 0 t3893) fun g3895=>some (g3895,h3894))) fun t3896 h3897=>
 kOR (rG t3875 true h3897 (ob (vField y 89 1 t3896) fun g3898=>some (g3898,h3897))) fun t3899 h3900=>
 kOR (rG t3875 true h3900 (ob (vLoad y 83 t3899 h3900) fun g3901=>some (g3901,h3900))) fun t3902 h3903=>
 kOR (rG t3875 true h3903 (ob (vIndex y 83 t3902 (i 1)) fun g3904=>some (g3904,h3903))) fun t3905 h3906=>
 kOR (rG t3875 true h3906 (ob (vField y 115 1 t3905) fun g3907=>some (g3907,h3906))) fun t3908 h3909=>
 kOR (rG t3875 true h3909 (ob (vLoad y 3 t3908 h3909) fun g3910=>some (g3910,h3909))) fun t3911 h3912=>
 kOR (rG t3875 true h3912 (some (x3869,h3912))) fun t3913 h3914=>
 kOR (rG t3875 true h3914 (ob (GV.nilck t3913) fun g3915=>some (g3915,h3914))) fun t3916 h3917=>
 kOR (rG t3875 true h3917 (ob (vField y 91 0 t3916) fun g3918=>some (g3918,h3917))) fun t3919 h3920=>
 kOR (rG t3875 true h3920 (ob (vField y 89 1 t3919) fun g3921=>some (g3921,h3920))) fun t3922 h3923=>
 kOR (rG t3875 true h3923 (ob (vLoad y 83 t3922 h3923) fun g3924=>some (g3924,h3923))) fun t3925 h3926=>
 kOR (rG t3875 true h3926 (ob (vIndex y 83 t3925 (i 1)) fun g3927=>some (g3927,h3926))) fun t3928 h3929=>
 kOR (rG t3875 true h3929 (ob (vField y 115 2 t3928) fun g3930=>some (g3930,h3929))) fun t3931 h3932=>
 kOR (rG t3875 true h3932 (ob (vLoad y 3 t3931 h3932) fun g3933=>some (g3933,h3932))) fun t3934 h3935=>
 kOR (rG t3875 true h3935 (ob (vSlice y 9 t3888 (some t3911) (some t3934) h3935) fun g3936=>some (g3936,h3935))) fun t3937 h3938=>
 kOR (rG t3875 true h3938 (ob (vBin y .eql 9 t3937 (.str 42 1)) fun g3939=>some (g3939,h3938))) fun t3940 h3941=>
 ob (vPick t3875 t3940 (.bool false)) fun t3942=>
 oR [t3942] h3941
def B137 (c:CH) (ql:QH) (us:List GV) (H:GH):RS:=U1 us fun x3943=>
 jn (nB 0 (K c 101 [x3943,(.str 45 1)] H fun t3944 h3945=>
 ob (GV.asB t3944) fun q3946=>jn (bC q3946 (K c 101 [x3943,(.str 33 1)] h3945 fun t3953 h3954=>
 ob (GV.asB t3953) fun q3955=>jn (bC q3955 (oN [x3943] h3954) (K c 137 [x3943] h3954 fun t3956 h3957=>
 kOR (vBuildS y 182 1 [(0,t3956)] h3957) fun t3958 h3959=>
 K c 126 [(i 19),t3958] h3959 fun t3960 h3961=>
 oR [t3960] h3961)) fun vs3962 h3963=>U1 vs3962 fun a3964=>oN [a3964] h3963) (K c 137 [x3943] h3945 fun t3947 h3948=>
 kOR (vBuildS y 182 1 [(0,t3947)] h3948) fun t3949 h3950=>
 K c 126 [(i 18),t3949] h3950 fun t3951 h3952=>
 oR [t3951] h3952)) fun vs3965 h3966=>U1 vs3965 fun a3967=>oN [a3967] h3966)) fun vs3968 h3969=>U1 vs3968 fun a3970=>K c 154 [a3970] h3969 fun t3971 h3972=>
 oR [t3971] h3972
def B138 (c:CH) (ql:QH) (us:List GV) (H:GH):RS:=U1 us fun x3973=>
 K c 156 [] H fun t3974 h3975=>
 K c 155 [x3973,(i 30),t3974] h3975 fun t3976 h3977=>
 oR [t3976] h3977
def B139 (c:CH) (ql:QH) (us:List GV) (H:GH):RS:=U1 us fun x3978=>
 jn (nB 0 (bn .eql 3 x3978 (i 43) fun t3979=>
 ob (GV.asB t3979) fun q3980=>jn (bC q3980 (bn .eql 3 x3978 (i 42) fun t3981=>
 ob (GV.asB t3981) fun q3982=>jn (bC q3982 (bn .eql 3 x3978 (i 41) fun t3983=>
 ob (GV.asB t3983) fun q3984=>jn (bC q3984 (bn .eql 3 x3978 (i 35) fun t3985=>
 ob (GV.asB t3985) fun q3986=>jn (bC q3986 (bn .eql 3 x3978 (i 36) fun t3987=>
 ob (GV.asB t3987) fun q3988=>jn (bC q3988 (bn .eql 3 x3978 (i 37) fun t3989=>
 ob (GV.asB t3989) fun q3990=>jn (bC q3990 (bn .eql 3 x3978 (i 38) fun t3991=>
 ob (GV.asB t3991) fun q3992=>jn (bC q3992 (bn .eql 3 x3978 (i 39) fun t3993=>
 ob (GV.asB t3993) fun q3994=>jn (bC q3994 (bn .eql 3 x3978 (i 40) fun t3995=>
 oN [x3978,t3995] H) (oN [x3978,t3993] H)) fun vs3996 h3997=>U2 vs3996 fun a3998 a3999=>oN [a3998,a3999] h3997) (oN [x3978,t3991] H)) fun vs4000 h4001=>U2 vs4000 fun a4002 a4003=>oN [a4002,a4003] h4001) (oN [x3978,t3989] H)) fun vs4004 h4005=>U2 vs4004 fun a4006 a4007=>oN [a4006,a4007] h4005) (oN [x3978,t3987] H)) fun vs4008 h4009=>U2 vs4008 fun a4010 a4011=>oN [a4010,a4011] h4009) (oN [x3978,t3985] H)) fun vs4012 h4013=>U2 vs4012 fun a4014 a4015=>ob (GV.asB a4015) fun q4016=>jn (bC q4016 (bn .eql 3 a4014 (i 33) fun t4017=>
 ob (GV.asB t4017) fun q4018=>jn (bC q4018 (bn .eql 3 a4014 (i 34) fun t4019=>
 oN [a4014,t4019] h4013) (oN [a4014,t4017] h4013)) fun vs4020 h4021=>U2 vs4020 fun a4022 a4023=>ob (GV.asB a4023) fun q4024=>jn (bC q4024 (bn .eql 3 a4022 (i 30) fun t4025=>
 ob (GV.asB t4025) fun q4026=>jn (bC q4026 (bn .eql 3 a4022 (i 31) fun t4027=>
 ob (GV.asB t4027) fun q4028=>jn (bC q4028 (bn .eql 3 a4022 (i 32) fun t4029=>
 oN [a4022,t4029] h4021) (oN [a4022,t4027] h4021)) fun vs4030 h4031=>U2 vs4030 fun a4032 a4033=>oN [a4032,a4033] h4031) (oN [a4022,t4025] h4021)) fun vs4034 h4035=>U2 vs4034 fun a4036 a4037=>ob (GV.asB a4037) fun q4038=>jn (bC q4038 (bn .eql 3 a4036 (i 18) fun t4039=>
 ob (GV.asB t4039) fun q4040=>jn (bC q4040 (bn .eql 3 a4036 (i 19) fun t4041=>
 oN [t4041] h4035) (oN [t4039] h4035)) fun vs4042 h4043=>U1 vs4042 fun a4044=>ob (GV.asB a4044) fun q4045=>jn (bC q4045 (oN [] h4043) (oR [(i 6)] h4043)) fun vs4046 h4047=>U0 vs4046 (oN [] h4047)) (oR [(i 5)] h4035)) fun vs4048 h4049=>U0 vs4048 (oN [] h4049)) (oR [(i 4)] h4021)) fun vs4050 h4051=>U0 vs4050 (oN [] h4051)) (oR [(i 3)] h4013)) fun vs4052 h4053=>U0 vs4052 (oN [] h4053)) (oR [(i 2)] H)) fun vs4054 h4055=>U0 vs4054 (oN [] h4055)) (oR [(i 1)] H)) fun vs4056 h4057=>U0 vs4056 (oN [] h4057)) (oR [(i 0)] H)) fun vs4058 h4059=>U0 vs4058 (oN [] h4059))) fun vs4060 h4061=>U0 vs4060 (oR [(i 7)] h4061)
def B140 (c:CH) (ql:QH) (us:List GV) (H:GH):RS:=U2 us fun x4062 x4063=>
 bd 172 [(0,x4062),(1,x4063)] fun t4064=>
 kOR (vBuildS y 128 1 [(0,t4064)] H) fun t4065 h4066=>
 oR [t4065] h4066
def B141 (c:CH) (ql:QH) (us:List GV) (H:GH):RS:=U1 us fun x4067=>
 jn (nB 0 (bn .lss 3 x4067 (i 1) fun t4068=>
 kOR (rG t4068 false H (some (x4067,H))) fun t4069 h4070=>
 kOR (rG t4068 false h4070 (ob (vBin y .gtr 3 t4069 (i 43)) fun g4071=>some (g4071,h4070))) fun t4072 h4073=>
 ob (vPick t4068 (.bool true) t4072) fun t4074=>
 ob (GV.asB t4074) fun q4075=>jn (bC q4075 (bn .leq 3 x4067 (i 17) fun t4076=>
 ob (GV.asB t4076) fun q4077=>jn (bC q4077 (bn .leq 3 x4067 (i 29) fun t4078=>
 ob (GV.asB t4078) fun q4079=>jn (bC q4079 (bn .leq 3 x4067 (i 42) fun t4080=>
 ob (GV.asB t4080) fun q4081=>jn (bC q4081 (oN [] h4073) (oR [(i 2)] h4073)) fun vs4082 h4083=>U0 vs4082 (oN [] h4083)) (oR [(i 1)] h4073)) fun vs4084 h4085=>U0 vs4084 (oN [] h4085)) (oR [(i 0)] h4073)) fun vs4086 h4087=>U0 vs4086 (oN [] h4087)) (oR [(.int .i64 (.negSucc 0))] h4073)) fun vs4088 h4089=>U0 vs4088 (oN [] h4089))) fun vs4090 h4091=>U0 vs4090 (oR [(i 3)] h4091)
def B142 (c:CH) (ql:QH) (us:List GV) (H:GH):RS:=U2 us fun x4092 x4093=>
 K c 128 [x4092,(i 0)] H fun t4094 h4095=>
 ln 128 x4092 fun t4096=>
 bn .neq 3 t4094 t4096 fun t4097=>
 ob (GV.asB t4097) fun q4098=>jn (bC q4098 (oN [x4092,x4093] h4095) (oR [(i 0),(.bool false)] h4095)) fun vs4099 h4100=>U2 vs4099 fun a4101 a4102=>ln 128 a4101 fun t4103=>
 bn .sub 3 t4103 (i 1) fun t4104=>
 jn (nB 0 (ql 38 [a4101,a4102,.snil,t4104] h4100)) fun vs4105 h4106=>U1 vs4105 fun a4107=>ix 22 a4107 (i 0) fun t4108=>
 ld 3 t4108 h4106 fun t4109=>
 oR [t4109,(.bool true)] h4106
def L38 (c:CH) (ql:QH) (us:List GV) (H:GH):RS:=U4 us fun a4110 a4111 a4112 a4113=>jn (bn .geq 3 a4113 (i 0) fun t4114=>
 ob (GV.asB t4114) fun q4115=>jn (bC q4115 (oX 0 [a4112] H) (oN [a4110,a4111,a4112,a4113] H)) fun vs4116 h4117=>U4 vs4116 fun a4118 a4119 a4120 a4121=>jn (nB 1 (ln 22 a4120 fun t4122=>
 ix 128 a4118 a4121 fun t4123=>
 fd 172 0 t4123 fun t4124=>
 ld 3 t4124 h4117 fun t4125=>
 K c 141 [t4125] h4117 fun t4126 h4127=>
 bn .sub 3 t4122 t4126 fun t4128=>
 ob (vSlice y 22 a4120 (some t4128) none h4127) fun t4129=>
 ln 22 t4129 fun t4130=>
 jn (nB 2 (ql 39 [a4118,a4119,a4120,a4121,t4128,(i 0),t4129,t4130,(i 0)] h4127)) fun vs4131 h4132=>U6 vs4131 fun a4133 a4134 a4135 a4136 a4137 a4138=>ob (vSlice y 22 a4135 none (some a4137) h4132) fun t4139=>
 ix 128 a4133 a4136 fun t4140=>
 fd 172 0 t4140 fun t4141=>
 ld 3 t4141 h4132 fun t4142=>
 ob (GV.asF a4134) fun p4145=>kOR (c p4145.1 (p4145.2.1++[t4142,a4138]++p4145.2.2) h4132) fun t4143 h4144=>
 kOR (vBuildS y 22 1 [(0,t4143)] h4144) fun t4146 h4147=>
 kOR (vApp y 22 22 t4139 t4146 h4147) fun t4148 h4149=>
 oN [a4133,a4134,t4148,a4136] h4149)) fun vs4150 h4151=>U4 vs4150 fun a4152 a4153 a4154 a4155=>bn .sub 3 a4155 (i 1) fun t4156=>
 oN [a4152,a4153,a4154,t4156] h4151) (ql 38)
def L39 (c:CH) (ql:QH) (us:List GV) (H:GH):RS:=U9 us fun a4157 a4158 a4159 a4160 a4161 a4162 a4163 a4164 a4165=>jn (bn .lss 3 a4165 a4164 fun t4166=>
 ob (GV.asB t4166) fun q4167=>jn (bC q4167 (oX 2 [a4157,a4158,a4159,a4160,a4161,a4162] H) (oN [a4157,a4158,a4159,a4160,a4161,a4162,a4163,a4164,a4165] H)) fun vs4168 h4169=>U9 vs4168 fun a4170 a4171 a4172 a4173 a4174 a4175 a4176 a4177 a4178=>jn (nB 3 (ix 22 a4176 a4178 fun t4179=>
 ld 3 t4179 h4169 fun t4180=>
 ob (vMax a4175 t4180) fun t4181=>
 oN [a4170,a4171,a4172,a4173,a4174,t4181,a4176,a4177,a4178] h4169)) fun vs4182 h4183=>U9 vs4182 fun a4184 a4185 a4186 a4187 a4188 a4189 a4190 a4191 a4192=>bn .add 3 a4192 (i 1) fun t4193=>
 oN [a4184,a4185,a4186,a4187,a4188,a4189,a4190,a4191,t4193] h4183) (ql 39)
def B143 (c:CH) (ql:QH) (us:List GV) (H:GH):RS:=U2 us fun x4194 x4195=>
 bn .add 3 x4195 (i 1) fun t4196=>
 oR [t4196] H
def B144 (c:CH) (ql:QH) (us:List GV) (H:GH):RS:=U2 us fun x4197 x4198=>
 K c 145 [x4197] H fun t4199 h4200=>
 ob (GV.asB t4199) fun q4201=>jn (bC q4201 (oN [x4198] h4200) (bn .add 3 x4198 (i 1) fun t4202=>
 oR [t4202] h4200)) fun vs4203 h4204=>U1 vs4203 fun a4205=>oR [a4205] h4204
def B145 (c:CH) (ql:QH) (us:List GV) (H:GH):RS:=U1 us fun x4206=>
 bn .geq 3 x4206 (i 20) fun t4207=>
 kOR (rG t4207 true H (some (x4206,H))) fun t4208 h4209=>
 kOR (rG t4207 true h4209 (ob (vBin y .leq 3 t4208 (i 29)) fun g4210=>some (g4210,h4209))) fun t4211 h4212=>
 ob (vPick t4207 t4211 (.bool false)) fun t4213=>
 oR [t4213] h4212
def B146 (c:CH) (ql:QH) (us:List GV) (H:GH):RS:=U1 us fun x4214=>
 bn .geq 3 x4214 (i 11) fun t4215=>
 kOR (rG t4215 true H (some (x4214,H))) fun t4216 h4217=>
 kOR (rG t4215 true h4217 (ob (vBin y .leq 3 t4216 (i 17)) fun g4218=>some (g4218,h4217))) fun t4219 h4220=>
 ob (vPick t4215 t4219 (.bool false)) fun t4221=>
 oR [t4221] h4220
def B147 (c:CH) (ql:QH) (us:List GV) (H:GH):RS:=U2 us fun x4222 x4223=>
 kOR (vBox x4222 H) fun t4224 h4225=>
 kOR (vBox x4223 h4225) fun t4226 h4227=>
 fd 172 0 t4226 fun t4228=>
 ld 3 t4228 h4227 fun t4229=>
 jn (nB 0 (bn .eql 3 t4229 (i 2) fun t4230=>
 ob (GV.asB t4230) fun q4231=>jn (bC q4231 (bn .eql 3 t4229 (i 3) fun t4232=>
 ob (GV.asB t4232) fun q4233=>jn (bC q4233 (bn .eql 3 t4229 (i 10) fun t4234=>
 ob (GV.asB t4234) fun q4235=>jn (bC q4235 (bn .eql 3 t4229 (i 15) fun t4236=>
 oN [t4224,t4226,t4229,t4236] h4227) (oN [t4224,t4226,t4229,t4234] h4227)) fun vs4237 h4238=>U4 vs4237 fun a4239 a4240 a4241 a4242=>oN [a4239,a4240,a4241,a4242] h4238) (oN [t4224,t4226,t4229,t4232] h4227)) fun vs4243 h4244=>U4 vs4243 fun a4245 a4246 a4247 a4248=>oN [a4245,a4246,a4247,a4248] h4244) (oN [t4224,t4226,t4229,t4230] h4227)) fun vs4249 h4250=>U4 vs4249 fun a4251 a4252 a4253 a4254=>ob (GV.asB a4254) fun q4255=>jn (bC q4255 (bn .eql 3 a4253 (i 4) fun t4256=>
 ob (GV.asB t4256) fun q4257=>jn (bC q4257 (bn .eql 3 a4253 (i 11) fun t4258=>
 ob (GV.asB t4258) fun q4259=>jn (bC q4259 (bn .eql 3 a4253 (i 17) fun t4260=>
 oN [a4251,a4252,a4253,t4260] h4250) (oN [a4251,a4252,a4253,t4258] h4250)) fun vs4261 h4262=>U4 vs4261 fun a4263 a4264 a4265 a4266=>oN [a4263,a4264,a4265,a4266] h4262) (oN [a4251,a4252,a4253,t4256] h4250)) fun vs4267 h4268=>U4 vs4267 fun a4269 a4270 a4271 a4272=>ob (GV.asB a4272) fun q4273=>jn (bC q4273 (bn .eql 3 a4271 (i 5) fun t4274=>
 ob (GV.asB t4274) fun q4275=>jn (bC q4275 (bn .eql 3 a4271 (i 12) fun t4276=>
 oN [a4269,a4270,t4276] h4268) (oN [a4269,a4270,t4274] h4268)) fun vs4277 h4278=>U3 vs4277 fun a4279 a4280 a4281=>ob (GV.asB a4281) fun q4282=>jn (bC q4282 (oN [] h4278) (fd 176 1 a4279 fun t4283=>
 ld 22 t4283 h4278 fun t4284=>
 fd 172 1 a4280 fun t4285=>
 ld 3 t4285 h4278 fun t4286=>
 ix 22 t4284 t4286 fun t4287=>
 ld 3 t4287 h4278 fun t4288=>
 oR [t4288] h4278)) fun vs4289 h4290=>U0 vs4289 (oN [] h4290)) (oR [(i 3)] h4268)) fun vs4291 h4292=>U0 vs4291 (oN [] h4292)) (oR [(i 2)] h4250)) fun vs4293 h4294=>U0 vs4293 (oN [] h4294))) fun vs4295 h4296=>U0 vs4295 (oR [(i 1)] h4296)
def B148 (c:CH) (ql:QH) (us:List GV) (H:GH):RS:=U2 us fun x4297 x4298=>
 kOR (vBox x4298 H) fun t4299 h4300=>
 ix 186 t4299 (i 0) fun t4301=>
 ld 3 t4301 h4300 fun t4302=>
 ix 186 t4299 (i 1) fun t4303=>
 ld 3 t4303 h4300 fun t4304=>
 ix 186 t4299 (i 2) fun t4305=>
 ld 3 t4305 h4300 fun t4306=>
 jn (nB 0 (bn .eql 3 x4297 (i 18) fun t4307=>
 ob (GV.asB t4307) fun q4308=>jn (bC q4308 (bn .eql 3 x4297 (i 24) fun t4309=>
 ob (GV.asB t4309) fun q4310=>jn (bC q4310 (bn .eql 3 x4297 (i 25) fun t4311=>
 ob (GV.asB t4311) fun q4312=>jn (bC q4312 (bn .eql 3 x4297 (i 26) fun t4313=>
 ob (GV.asB t4313) fun q4314=>jn (bC q4314 (bn .eql 3 x4297 (i 27) fun t4315=>
 ob (GV.asB t4315) fun q4316=>jn (bC q4316 (bn .eql 3 x4297 (i 28) fun t4317=>
 ob (GV.asB t4317) fun q4318=>jn (bC q4318 (bn .eql 3 x4297 (i 29) fun t4319=>
 oN [t4302,t4304,t4306,x4297,t4319] h4300) (oN [t4302,t4304,t4306,x4297,t4317] h4300)) fun vs4320 h4321=>U5 vs4320 fun a4322 a4323 a4324 a4325 a4326=>oN [a4322,a4323,a4324,a4325,a4326] h4321) (oN [t4302,t4304,t4306,x4297,t4315] h4300)) fun vs4327 h4328=>U5 vs4327 fun a4329 a4330 a4331 a4332 a4333=>oN [a4329,a4330,a4331,a4332,a4333] h4328) (oN [t4302,t4304,t4306,x4297,t4313] h4300)) fun vs4334 h4335=>U5 vs4334 fun a4336 a4337 a4338 a4339 a4340=>oN [a4336,a4337,a4338,a4339,a4340] h4335) (oN [t4302,t4304,t4306,x4297,t4311] h4300)) fun vs4341 h4342=>U5 vs4341 fun a4343 a4344 a4345 a4346 a4347=>oN [a4343,a4344,a4345,a4346,a4347] h4342) (oN [t4302,t4304,t4306,x4297,t4309] h4300)) fun vs4348 h4349=>U5 vs4348 fun a4350 a4351 a4352 a4353 a4354=>oN [a4350,a4351,a4352,a4353,a4354] h4349) (oN [t4302,t4304,t4306,x4297,t4307] h4300)) fun vs4355 h4356=>U5 vs4355 fun a4357 a4358 a4359 a4360 a4361=>ob (GV.asB a4361) fun q4362=>jn (bC q4362 (bn .eql 3 a4360 (i 19) fun t4366=>
 ob (GV.asB t4366) fun q4367=>jn (bC q4367 (bn .eql 3 a4360 (i 20) fun t4368=>
 ob (GV.asB t4368) fun q4369=>jn (bC q4369 (bn .eql 3 a4360 (i 21) fun t4370=>
 oN [a4357,a4358,a4359,a4360,t4370] h4356) (oN [a4357,a4358,a4359,a4360,t4368] h4356)) fun vs4371 h4372=>U5 vs4371 fun a4373 a4374 a4375 a4376 a4377=>oN [a4373,a4374,a4375,a4376,a4377] h4372) (oN [a4357,a4358,a4359,a4360,t4366] h4356)) fun vs4378 h4379=>U5 vs4378 fun a4380 a4381 a4382 a4383 a4384=>ob (GV.asB a4384) fun q4385=>jn (bC q4385 (bn .eql 3 a4383 (i 22) fun t4389=>
 ob (GV.asB t4389) fun q4390=>jn (bC q4390 (bn .eql 3 a4383 (i 23) fun t4394=>
 ob (GV.asB t4394) fun q4395=>jn (bC q4395 (bn .eql 3 a4383 (i 30) fun t4399=>
 ob (GV.asB t4399) fun q4400=>jn (bC q4400 (bn .eql 3 a4383 (i 31) fun t4401=>
 ob (GV.asB t4401) fun q4402=>jn (bC q4402 (bn .eql 3 a4383 (i 32) fun t4403=>
 ob (GV.asB t4403) fun q4404=>jn (bC q4404 (bn .eql 3 a4383 (i 33) fun t4405=>
 ob (GV.asB t4405) fun q4406=>jn (bC q4406 (bn .eql 3 a4383 (i 34) fun t4407=>
 oN [a4380,a4381,a4382,a4383,t4407] h4379) (oN [a4380,a4381,a4382,a4383,t4405] h4379)) fun vs4408 h4409=>U5 vs4408 fun a4410 a4411 a4412 a4413 a4414=>oN [a4410,a4411,a4412,a4413,a4414] h4409) (oN [a4380,a4381,a4382,a4383,t4403] h4379)) fun vs4415 h4416=>U5 vs4415 fun a4417 a4418 a4419 a4420 a4421=>oN [a4417,a4418,a4419,a4420,a4421] h4416) (oN [a4380,a4381,a4382,a4383,t4401] h4379)) fun vs4422 h4423=>U5 vs4422 fun a4424 a4425 a4426 a4427 a4428=>oN [a4424,a4425,a4426,a4427,a4428] h4423) (oN [a4380,a4381,a4382,a4383,t4399] h4379)) fun vs4429 h4430=>U5 vs4429 fun a4431 a4432 a4433 a4434 a4435=>ob (GV.asB a4435) fun q4436=>jn (bC q4436 (bn .eql 3 a4434 (i 35) fun t4446=>
 ob (GV.asB t4446) fun q4447=>jn (bC q4447 (bn .eql 3 a4434 (i 36) fun t4448=>
 oN [a4431,a4432,a4433,a4434,t4448] h4430) (oN [a4431,a4432,a4433,a4434,t4446] h4430)) fun vs4449 h4450=>U5 vs4449 fun a4451 a4452 a4453 a4454 a4455=>ob (GV.asB a4455) fun q4456=>jn (bC q4456 (bn .eql 3 a4454 (i 37) fun t4466=>
 ob (GV.asB t4466) fun q4467=>jn (bC q4467 (bn .eql 3 a4454 (i 38) fun t4468=>
 ob (GV.asB t4468) fun q4469=>jn (bC q4469 (bn .eql 3 a4454 (i 39) fun t4470=>
 ob (GV.asB t4470) fun q4471=>jn (bC q4471 (bn .eql 3 a4454 (i 40) fun t4472=>
 oN [a4451,a4452,a4453,a4454,t4472] h4450) (oN [a4451,a4452,a4453,a4454,t4470] h4450)) fun vs4473 h4474=>U5 vs4473 fun a4475 a4476 a4477 a4478 a4479=>oN [a4475,a4476,a4477,a4478,a4479] h4474) (oN [a4451,a4452,a4453,a4454,t4468] h4450)) fun vs4480 h4481=>U5 vs4480 fun a4482 a4483 a4484 a4485 a4486=>oN [a4482,a4483,a4484,a4485,a4486] h4481) (oN [a4451,a4452,a4453,a4454,t4466] h4450)) fun vs4487 h4488=>U5 vs4487 fun a4489 a4490 a4491 a4492 a4493=>ob (GV.asB a4493) fun q4494=>jn (bC q4494 (bn .eql 3 a4492 (i 41) fun t4504=>
 ob (GV.asB t4504) fun q4505=>jn (bC q4505 (bn .eql 3 a4492 (i 42) fun t4506=>
 oN [a4489,a4490,a4491,t4506] h4488) (oN [a4489,a4490,a4491,t4504] h4488)) fun vs4507 h4508=>U4 vs4507 fun a4509 a4510 a4511 a4512=>ob (GV.asB a4512) fun q4513=>jn (bC q4513 (oN [a4509,a4510,a4511] h4508) (bn .eql 3 a4509 (i 2) fun t4514=>
 kOR (rG t4514 true h4508 (some (a4510,h4508))) fun t4515 h4516=>
 kOR (rG t4514 true h4516 (ob (vBin y .eql 3 t4515 (i 2)) fun g4517=>some (g4517,h4516))) fun t4518 h4519=>
 ob (vPick t4514 t4518 (.bool false)) fun t4520=>
 K c 157 [t4520,(i 2)] h4519 fun t4521 h4522=>
 oR [t4521] h4522)) fun vs4523 h4524=>U3 vs4523 fun a4525 a4526 a4527=>oN [a4525,a4526,a4527] h4524) (bn .eql 3 a4489 (i 1) fun t4495=>
 kOR (rG t4495 true h4488 (some (a4490,h4488))) fun t4496 h4497=>
 kOR (rG t4495 true h4497 (ob (vBin y .eql 3 t4496 (i 1)) fun g4498=>some (g4498,h4497))) fun t4499 h4500=>
 ob (vPick t4495 t4499 (.bool false)) fun t4501=>
 K c 157 [t4501,(i 2)] h4500 fun t4502 h4503=>
 oR [t4502] h4503)) fun vs4528 h4529=>U3 vs4528 fun a4530 a4531 a4532=>oN [a4530,a4531,a4532] h4529) (bn .eql 3 a4451 a4452 fun t4457=>
 kOR (rG t4457 true h4450 (some (a4451,h4450))) fun t4458 h4459=>
 kOR (rG t4457 true h4459 (ob (vBin y .neq 3 t4458 (i 0)) fun g4460=>some (g4460,h4459))) fun t4461 h4462=>
 ob (vPick t4457 t4461 (.bool false)) fun t4463=>
 K c 157 [t4463,(i 2)] h4462 fun t4464 h4465=>
 oR [t4464] h4465)) fun vs4533 h4534=>U3 vs4533 fun a4535 a4536 a4537=>oN [a4535,a4536,a4537] h4534) (bn .eql 3 a4431 (i 1) fun t4437=>
 kOR (rG t4437 true h4430 (some (a4432,h4430))) fun t4438 h4439=>
 kOR (rG t4437 true h4439 (ob (vBin y .eql 3 t4438 (i 1)) fun g4440=>some (g4440,h4439))) fun t4441 h4442=>
 ob (vPick t4437 t4441 (.bool false)) fun t4443=>
 K c 157 [t4443,(i 1)] h4442 fun t4444 h4445=>
 oR [t4444] h4445)) fun vs4538 h4539=>U3 vs4538 fun a4540 a4541 a4542=>oN [a4540,a4541,a4542] h4539) (bn .eql 3 a4380 (i 2) fun t4396=>
 K c 157 [t4396,(i 3)] h4379 fun t4397 h4398=>
 oR [t4397] h4398)) fun vs4543 h4544=>U3 vs4543 fun a4545 a4546 a4547=>oN [a4545,a4546,a4547] h4544) (bn .eql 3 a4380 (i 2) fun t4391=>
 K c 157 [t4391,(i 1)] h4379 fun t4392 h4393=>
 oR [t4392] h4393)) fun vs4548 h4549=>U3 vs4548 fun a4550 a4551 a4552=>oN [a4550,a4551,a4552] h4549) (bn .eql 3 a4380 (i 2) fun t4386=>
 K c 157 [t4386,(i 2)] h4379 fun t4387 h4388=>
 oR [t4387] h4388)) fun vs4553 h4554=>U3 vs4553 fun a4555 a4556 a4557=>oN [a4555,a4556,a4557] h4554) (bn .eql 3 a4357 (i 1) fun t4363=>
 K c 157 [t4363,(i 1)] h4356 fun t4364 h4365=>
 oR [t4364] h4365)) fun vs4558 h4559=>U3 vs4558 fun a4560 a4561 a4562=>oN [a4560,a4561,a4562] h4559)) fun vs4563 h4564=>U3 vs4563 fun a4565 a4566 a4567=>bn .eql 3 a4565 (i 2) fun t4568=>
 kOR (rG t4568 true h4564 (some (a4566,h4564))) fun t4569 h4570=>
 kOR (rG t4568 true h4570 (some (a4567,h4570))) fun t4571 h4572=>
 kOR (rG t4568 true h4572 (ob (vBin y .eql 3 t4569 t4571) fun g4573=>some (g4573,h4572))) fun t4574 h4575=>
 ob (vPick t4568 t4574 (.bool false)) fun t4576=>
 K c 157 [t4576,a4566] h4575 fun t4577 h4578=>
 oR [t4577] h4578
def B149 (c:CH) (ql:QH) (us:List GV) (H:GH):RS:=U3 us fun x4579 x4580 x4581=>
 kOR (vBox x4580 H) fun t4582 h4583=>
 fd 172 0 t4582 fun t4584=>
 ld 3 t4584 h4583 fun t4585=>
 jn (nB 0 (bn .eql 3 t4585 (i 1) fun t4586=>
 ob (GV.asB t4586) fun q4587=>jn (bC q4587 (bn .eql 3 t4585 (i 2) fun t4590=>
 ob (GV.asB t4590) fun q4591=>jn (bC q4591 (bn .eql 3 t4585 (i 3) fun t4592=>
 ob (GV.asB t4592) fun q4593=>jn (bC q4593 (bn .eql 3 t4585 (i 4) fun t4594=>
 ob (GV.asB t4594) fun q4595=>jn (bC q4595 (bn .eql 3 t4585 (i 5) fun t4596=>
 ob (GV.asB t4596) fun q4597=>jn (bC q4597 (bn .eql 3 t4585 (i 12) fun t4610=>
 ob (GV.asB t4610) fun q4611=>jn (bC q4611 (oN [x4579,x4581,t4582] h4583) (ob (GV.nilck x4579) fun t4612=>
 fd 179 1 t4612 fun t4613=>
 ld 26 t4613 h4583 fun t4614=>
 ob (GV.nilck x4579) fun t4615=>
 fd 179 0 t4615 fun t4616=>
 ld 104 t4616 h4583 fun t4617=>
 ob (GV.nilck t4617) fun t4618=>
 fd 138 1 t4618 fun t4619=>
 fd 25 1 t4619 fun t4620=>
 ld 23 t4620 h4583 fun t4621=>
 ob (GV.nilck x4579) fun t4622=>
 fd 179 2 t4622 fun t4623=>
 ld 3 t4623 h4583 fun t4624=>
 ix 23 t4621 t4624 fun t4625=>
 ld 59 t4625 h4583 fun t4626=>
 ix 59 t4626 x4581 fun t4627=>
 fd 51 0 t4627 fun t4628=>
 ld 3 t4628 h4583 fun t4629=>
 ix 26 t4614 t4629 fun t4630=>
 ld 22 t4630 h4583 fun t4631=>
 fd 172 1 t4582 fun t4632=>
 ld 3 t4632 h4583 fun t4633=>
 ix 22 t4631 t4633 fun t4634=>
 ld 3 t4634 h4583 fun t4635=>
 oR [t4635] h4583)) fun vs4636 h4637=>U3 vs4636 fun a4638 a4639 a4640=>oN [a4638,a4639,a4640] h4637) (ob (GV.nilck x4579) fun t4598=>
 fd 179 1 t4598 fun t4599=>
 ld 26 t4599 h4583 fun t4600=>
 ob (GV.nilck x4579) fun t4601=>
 fd 179 2 t4601 fun t4602=>
 ld 3 t4602 h4583 fun t4603=>
 ix 26 t4600 t4603 fun t4604=>
 ld 22 t4604 h4583 fun t4605=>
 fd 172 1 t4582 fun t4606=>
 ld 3 t4606 h4583 fun t4607=>
 ix 22 t4605 t4607 fun t4608=>
 ld 3 t4608 h4583 fun t4609=>
 oR [t4609] h4583)) fun vs4641 h4642=>U3 vs4641 fun a4643 a4644 a4645=>oN [a4643,a4644,a4645] h4642) (oR [(.int .i64 (.negSucc 0))] h4583)) fun vs4646 h4647=>U3 vs4646 fun a4648 a4649 a4650=>oN [a4648,a4649,a4650] h4647) (oR [(i 0)] h4583)) fun vs4651 h4652=>U3 vs4651 fun a4653 a4654 a4655=>oN [a4653,a4654,a4655] h4652) (oR [(i 1)] h4583)) fun vs4656 h4657=>U3 vs4656 fun a4658 a4659 a4660=>oN [a4658,a4659,a4660] h4657) (fd 172 1 t4582 fun t4588=>
 ld 3 t4588 h4583 fun t4589=>
 oR [t4589] h4583)) fun vs4661 h4662=>U3 vs4661 fun a4663 a4664 a4665=>oN [a4663,a4664,a4665] h4662)) fun vs4666 h4667=>U3 vs4666 fun a4668 a4669 a4670=>ob (GV.nilck a4668) fun t4671=>
 fd 179 0 t4671 fun t4672=>
 ld 104 t4672 h4667 fun t4673=>
 fd 172 0 a4670 fun t4674=>
 ld 3 t4674 h4667 fun t4675=>
 ob (GV.nilck a4668) fun t4676=>
 fd 179 2 t4676 fun t4677=>
 ld 3 t4677 h4667 fun t4678=>
 K c 158 [t4673,t4675,t4678,a4669] h4667 fun t4679 h4680=>
 oR [t4679] h4680
def B150 (c:CH) (ql:QH) (us:List GV) (H:GH):RS:=U2 us fun x4681 x4682=>
 bn .eql 3 x4681 (i 18) fun t4683=>
 ob (GV.asB t4683) fun q4684=>jn (bC q4684 (oN [x4682] H) (ob (vUn .neg x4682) fun t4685=>
 oR [t4685] H)) fun vs4686 h4687=>U1 vs4686 fun a4688=>bn .eql 3 a4688 (i 0) fun t4689=>
 K c 159 [t4689] h4687 fun t4690 h4691=>
 oR [t4690] h4691
def B151 (c:CH) (ql:QH) (us:List GV) (H:GH):RS:=U3 us fun x4692 x4693 x4694=>
 kOR (vAlloc y 195 H) fun t4695 h4696=>
 ob (GV.nilck x4692) fun t4697=>
 fd 179 0 t4697 fun t4698=>
 ld 104 t4698 h4696 fun t4699=>
 ob (GV.nilck t4699) fun t4700=>
 fd 138 1 t4700 fun t4701=>
 fd 25 1 t4701 fun t4702=>
 ld 23 t4702 h4696 fun t4703=>
 ob (GV.nilck x4692) fun t4704=>
 fd 179 2 t4704 fun t4705=>
 ld 3 t4705 h4696 fun t4706=>
 ix 23 t4703 t4706 fun t4707=>
 ld 59 t4707 h4696 fun t4708=>
 ln 59 t4708 fun t4709=>
 jn (nB 0 (ql 40 [x4692,x4693,x4694,(i 0),t4695,t4709,t4709,(i 0)] h4696)) fun vs4710 h4711=>U6 vs4710 fun a4712 a4713 a4714 a4715 a4716 a4717=>bn .eql 3 a4717 (i 0) fun t4718=>
 ob (GV.asB t4718) fun q4719=>jn (bC q4719 (oN [a4713,a4715,a4716,a4717] h4711) (ob (GV.nilck a4712) fun t4720=>
 fd 179 3 t4720 fun t4721=>
 ld 128 t4721 h4711 fun t4722=>
 K c 128 [t4722,a4714] h4711 fun t4723 h4724=>
 oN [a4713,t4723,a4716,a4717] h4724)) fun vs4725 h4726=>U4 vs4725 fun a4727 a4728 a4729 a4730=>ob (vSlice y 195 a4729 none (some a4730) h4726) fun t4731=>
 K c 160 [a4727,t4731] h4726 fun t4732 h4733=>
 oR [t4732,a4728] h4733
def L40 (c:CH) (ql:QH) (us:List GV) (H:GH):RS:=U8 us fun a4734 a4735 a4736 a4737 a4738 a4739 a4740 a4741=>jn (bn .lss 3 a4741 a4740 fun t4742=>
 ob (GV.asB t4742) fun q4743=>jn (bC q4743 (oX 0 [a4734,a4735,a4736,a4737,a4738,a4739] H) (oN [a4734,a4735,a4736,a4738,a4739,a4740,a4741] H)) fun vs4744 h4745=>U7 vs4744 fun a4746 a4747 a4748 a4749 a4750 a4751 a4752=>jn (nB 1 (bn .add 3 a4748 (i 1) fun t4753=>
 K c 133 [a4746,t4753,a4752] h4745 fun t4754 h4755=>
 ex 0 t4754 fun t4756=>
 ex 1 t4754 fun t4757=>
 ix 195 a4749 a4752 fun t4758=>
 kOR (vStore y 3 t4758 t4756 h4755) fun t4759 h4760=>
 oN [a4746,a4747,a4748,t4757,a4749,a4750,a4751,a4752] h4760)) fun vs4761 h4762=>U8 vs4761 fun a4763 a4764 a4765 a4766 a4767 a4768 a4769 a4770=>bn .add 3 a4770 (i 1) fun t4771=>
 oN [a4763,a4764,a4765,a4766,a4767,a4768,a4769,t4771] h4762) (ql 40)
def B152 (c:CH) (ql:QH) (us:List GV) (H:GH):RS:=U3 us fun x4772 x4773 x4774=>
 jn (nB 0 (bn .eql 3 x4772 (i 30) fun t4775=>
 ob (GV.asB t4775) fun q4776=>jn (bC q4776 (bn .eql 3 x4772 (i 31) fun t4780=>
 ob (GV.asB t4780) fun q4781=>jn (bC q4781 (bn .eql 3 x4772 (i 32) fun t4786=>
 ob (GV.asB t4786) fun q4787=>jn (bC q4787 (bn .eql 3 x4772 (i 33) fun t4800=>
 ob (GV.asB t4800) fun q4801=>jn (bC q4801 (bn .eql 3 x4772 (i 34) fun t4805=>
 ob (GV.asB t4805) fun q4806=>jn (bC q4806 (bn .eql 3 x4772 (i 41) fun t4810=>
 ob (GV.asB t4810) fun q4811=>jn (bC q4811 (bn .eql 3 x4772 (i 42) fun t4821=>
 ob (GV.asB t4821) fun q4822=>jn (bC q4822 (oN [x4772,x4773,x4774] H) (bn .neq 3 x4773 (i 0) fun t4823=>
 kOR (rG t4823 false H (some (x4774,H))) fun t4824 h4825=>
 kOR (rG t4823 false h4825 (ob (vBin y .neq 3 t4824 (i 0)) fun g4826=>some (g4826,h4825))) fun t4827 h4828=>
 ob (vPick t4823 (.bool true) t4827) fun t4829=>
 K c 159 [t4829] h4828 fun t4830 h4831=>
 oR [t4830] h4831)) fun vs4832 h4833=>U3 vs4832 fun a4834 a4835 a4836=>oN [a4834,a4835,a4836] h4833) (bn .neq 3 x4773 (i 0) fun t4812=>
 kOR (rG t4812 true H (some (x4774,H))) fun t4813 h4814=>
 kOR (rG t4812 true h4814 (ob (vBin y .neq 3 t4813 (i 0)) fun g4815=>some (g4815,h4814))) fun t4816 h4817=>
 ob (vPick t4812 t4816 (.bool false)) fun t4818=>
 K c 159 [t4818] h4817 fun t4819 h4820=>
 oR [t4819] h4820)) fun vs4837 h4838=>U3 vs4837 fun a4839 a4840 a4841=>oN [a4839,a4840,a4841] h4838) (bn .sub 3 x4773 x4774 fun t4807=>
 K c 161 [t4807] H fun t4808 h4809=>
 oR [t4808] h4809)) fun vs4842 h4843=>U3 vs4842 fun a4844 a4845 a4846=>oN [a4844,a4845,a4846] h4843) (bn .add 3 x4773 x4774 fun t4802=>
 K c 161 [t4802] H fun t4803 h4804=>
 oR [t4803] h4804)) fun vs4847 h4848=>U3 vs4847 fun a4849 a4850 a4851=>oN [a4849,a4850,a4851] h4848) (bn .eql 3 x4774 (i 0) fun t4788=>
 ob (GV.asB t4788) fun q4789=>jn (bC q4789 (oN [x4773,x4774] H) (oR [(i 0)] H)) fun vs4790 h4791=>U2 vs4790 fun a4792 a4793=>K c 162 [a4792,a4793] h4791 fun t4794 h4795=>
 bn .mul 3 a4793 t4794 fun t4796=>
 bn .sub 3 a4792 t4796 fun t4797=>
 K c 161 [t4797] h4795 fun t4798 h4799=>
 oR [t4798] h4799)) fun vs4852 h4853=>U3 vs4852 fun a4854 a4855 a4856=>oN [a4854,a4855,a4856] h4853) (K c 162 [x4773,x4774] H fun t4782 h4783=>
 K c 161 [t4782] h4783 fun t4784 h4785=>
 oR [t4784] h4785)) fun vs4857 h4858=>U3 vs4857 fun a4859 a4860 a4861=>oN [a4859,a4860,a4861] h4858) (bn .mul 3 x4773 x4774 fun t4777=>
 K c 161 [t4777] H fun t4778 h4779=>
 oR [t4778] h4779)) fun vs4862 h4863=>U3 vs4862 fun a4864 a4865 a4866=>oN [a4864,a4865,a4866] h4863)) fun vs4867 h4868=>U3 vs4867 fun a4869 a4870 a4871=>K c 163 [a4869,a4870,a4871] h4868 fun t4872 h4873=>
 K c 159 [t4872] h4873 fun t4874 h4875=>
 oR [t4874] h4875
def B154 (c:CH) (ql:QH) (us:List GV) (H:GH):RS:=U1 us fun x4876=>
 K c 102 [x4876] H fun t4877 h4878=>
 K c 103 [x4876] h4878 fun t4879 h4880=>
 bn .eql 3 t4879 (i 2) fun t4881=>
 ob (GV.asB t4881) fun q4882=>jn (bC q4882 (oN [x4876,t4877] h4880) (K c 105 [x4876] h4880 fun t4883 h4884=>
 pt 115 3 t4883 fun t4885=>
 K c 140 [(i 1),t4885] h4884 fun t4886 h4887=>
 oR [t4886] h4887)) fun vs4888 h4889=>U2 vs4888 fun a4890 a4891=>K c 101 [a4890,(.str 40 1)] h4889 fun t4892 h4893=>
 ob (GV.asB t4892) fun q4894=>jn (bC q4894 (oN [a4890,a4891] h4893) (K c 108 [a4890] h4893 fun t4895 h4896=>
 K c 78 [a4890,(.str 41 1)] h4896 fun t4897 h4898=>
 oR [t4895] h4898)) fun vs4899 h4900=>U2 vs4899 fun a4901 a4902=>K c 101 [a4901,(.str 113 1)] h4900 fun t4903 h4904=>
 ob (GV.asB t4903) fun q4905=>jn (bC q4905 (oN [a4901,a4902] h4904) (K c 164 [a4901] h4904 fun t4906 h4907=>
 oR [t4906] h4907)) fun vs4908 h4909=>U2 vs4908 fun a4910 a4911=>K c 165 [a4911] h4909 fun t4912 h4913=>
 bn .neq 3 t4912 (i 0) fun t4914=>
 ob (GV.asB t4914) fun q4915=>jn (bC q4915 (oN [a4910,a4911] h4913) (K c 105 [a4910] h4913 fun t4916 h4917=>
 K c 140 [t4912,(i 0)] h4917 fun t4918 h4919=>
 oR [t4918] h4919)) fun vs4920 h4921=>U2 vs4920 fun a4922 a4923=>K c 166 [a4923] h4921 fun t4924 h4925=>
 bn .neq 3 t4924 (i 0) fun t4926=>
 ob (GV.asB t4926) fun q4927=>jn (bC q4927 (oN [a4922] h4925) (K c 105 [a4922] h4925 fun t4928 h4929=>
 K c 78 [a4922,(.str 40 1)] h4929 fun t4930 h4931=>
 K c 108 [a4922] h4931 fun t4932 h4933=>
 K c 78 [a4922,(.str 41 1)] h4933 fun t4934 h4935=>
 kOR (vBuildS y 182 1 [(0,t4932)] h4935) fun t4936 h4937=>
 K c 126 [t4924,t4936] h4937 fun t4938 h4939=>
 oR [t4938] h4939)) fun vs4940 h4941=>U1 vs4940 fun a4942=>K c 109 [a4942] h4941 fun t4943 h4944=>
 K c 140 [(i 5),t4943] h4944 fun t4945 h4946=>
 oR [t4945] h4946
def B155 (c:CH) (ql:QH) (us:List GV) (H:GH):RS:=U3 us fun x4947 x4948 x4949=>
 bn .eql 9 x4947 (.str 0 0) fun t4950=>
 ob (GV.asB t4950) fun q4951=>jn (bC q4951 (oN [x4947,x4948,x4949] H) (oR [(i 0)] H)) fun vs4952 h4953=>U3 vs4952 fun a4954 a4955 a4956=>ln 87 a4956 fun t4957=>
 jn (nB 0 (ql 41 [a4954,a4955,a4956,t4957,(i 0)] h4953)) fun vs4958 h4959=>U0 vs4958 (oR [(i 0)] h4959)
def L41 (c:CH) (ql:QH) (us:List GV) (H:GH):RS:=U5 us fun a4960 a4961 a4962 a4963 a4964=>jn (bn .lss 3 a4964 a4963 fun t4965=>
 ob (GV.asB t4965) fun q4966=>jn (bC q4966 (oX 0 [] H) (oN [a4960,a4961,a4962,a4963,a4964] H)) fun vs4967 h4968=>U5 vs4967 fun a4969 a4970 a4971 a4972 a4973=>jn (nB 1 (ix 87 a4971 a4973 fun t4974=>
 ld 9 t4974 h4968 fun t4975=>
 bn .eql 9 t4975 a4969 fun t4976=>
 ob (GV.asB t4976) fun q4977=>jn (bC q4977 (oN [a4969,a4970,a4971,a4972,a4973] h4968) (bn .add 3 a4970 a4973 fun t4978=>
 oR [t4978] h4968)) fun vs4979 h4980=>U5 vs4979 fun a4981 a4982 a4983 a4984 a4985=>oN [a4981,a4982,a4983,a4984,a4985] h4980)) fun vs4986 h4987=>U5 vs4986 fun a4988 a4989 a4990 a4991 a4992=>bn .add 3 a4992 (i 1) fun t4993=>
 oN [a4988,a4989,a4990,a4991,t4993] h4987) (ql 41)
def B156 (c:CH) (ql:QH) (us:List GV) (H:GH):RS:=U0 us (kOR (vBuildS y 87 13 [(0,(.str 42 1)),(1,(.str 47 1)),(2,(.str 37 1)),(3,(.str 43 1)),(4,(.str 45 1)),(5,(.str 15677 2)),(6,(.str 15649 2)),(7,(.str 60 1)),(8,(.str 15676 2)),(9,(.str 62 1)),(10,(.str 15678 2)),(11,(.str 9766 2)),(12,(.str 31868 2))] H) fun t4994 h4995=>
 oR [t4994] h4995)
def B157 (c:CH) (ql:QH) (us:List GV) (H:GH):RS:=U2 us fun x4996 x4997=>
 ob (GV.asB x4996) fun q4998=>jn (bC q4998 (oN [] H) (oR [x4997] H)) fun vs4999 h5000=>U0 vs4999 (oR [(i 0)] h5000)
def B158 (c:CH) (ql:QH) (us:List GV) (H:GH):RS:=U4 us fun x5001 x5002 x5003 x5004=>
 jn (nB 0 (bn .eql 3 x5002 (i 6) fun t5005=>
 ob (GV.asB t5005) fun q5006=>jn (bC q5006 (bn .eql 3 x5002 (i 7) fun t5012=>
 ob (GV.asB t5012) fun q5013=>jn (bC q5013 (bn .eql 3 x5002 (i 8) fun t5017=>
 ob (GV.asB t5017) fun q5018=>jn (bC q5018 (bn .eql 3 x5002 (i 9) fun t5025=>
 ob (GV.asB t5025) fun q5026=>jn (bC q5026 (bn .eql 3 x5002 (i 10) fun t5034=>
 ob (GV.asB t5034) fun q5035=>jn (bC q5035 (bn .eql 3 x5002 (i 11) fun t5039=>
 ob (GV.asB t5039) fun q5040=>jn (bC q5040 (oN [x5001,x5002,x5003,x5004] H) (oR [x5004] H)) fun vs5041 h5042=>U4 vs5041 fun a5043 a5044 a5045 a5046=>oN [a5043,a5044,a5045,a5046] h5042) (bn .eql 3 x5003 (i 0) fun t5036=>
 K c 159 [t5036] H fun t5037 h5038=>
 oR [t5037] h5038)) fun vs5047 h5048=>U4 vs5047 fun a5049 a5050 a5051 a5052=>oN [a5049,a5050,a5051,a5052] h5048) (ob (GV.nilck x5001) fun t5027=>
 fd 138 1 t5027 fun t5028=>
 fd 25 1 t5028 fun t5029=>
 ld 23 t5029 H fun t5030=>
 ix 23 t5030 x5003 fun t5031=>
 ld 59 t5031 H fun t5032=>
 ln 59 t5032 fun t5033=>
 oR [t5033] H)) fun vs5053 h5054=>U4 vs5053 fun a5055 a5056 a5057 a5058=>oN [a5055,a5056,a5057,a5058] h5054) (ob (GV.nilck x5001) fun t5019=>
 fd 138 1 t5019 fun t5020=>
 fd 25 0 t5020 fun t5021=>
 ld 22 t5021 H fun t5022=>
 ix 22 t5022 x5003 fun t5023=>
 ld 3 t5023 H fun t5024=>
 oR [t5024] H)) fun vs5059 h5060=>U4 vs5059 fun a5061 a5062 a5063 a5064=>oN [a5061,a5062,a5063,a5064] h5060) (ob (GV.nilck x5001) fun t5014=>
 fd 138 2 t5014 fun t5015=>
 ld 3 t5015 H fun t5016=>
 oR [t5016] H)) fun vs5065 h5066=>U4 vs5065 fun a5067 a5068 a5069 a5070=>oN [a5067,a5068,a5069,a5070] h5066) (ob (GV.nilck x5001) fun t5007=>
 fd 138 1 t5007 fun t5008=>
 fd 25 0 t5008 fun t5009=>
 ld 22 t5009 H fun t5010=>
 ln 22 t5010 fun t5011=>
 oR [t5011] H)) fun vs5071 h5072=>U4 vs5071 fun a5073 a5074 a5075 a5076=>oN [a5073,a5074,a5075,a5076] h5072)) fun vs5077 h5078=>U4 vs5077 fun a5079 a5080 a5081 a5082=>ob (GV.nilck a5079) fun t5083=>
 fd 138 1 t5083 fun t5084=>
 fd 25 1 t5084 fun t5085=>
 ld 23 t5085 h5078 fun t5086=>
 ix 23 t5086 a5081 fun t5087=>
 ld 59 t5087 h5078 fun t5088=>
 ix 59 t5088 a5082 fun t5089=>
 ld 51 t5089 h5078 fun t5090=>
 kOR (vAlloc y 51 h5078) fun t5091 h5092=>
 kOR (vStore y 51 t5091 t5090 h5092) fun t5093 h5094=>
 jn (nB 1 (bn .eql 3 a5080 (i 13) fun t5095=>
 ob (GV.asB t5095) fun q5096=>jn (bC q5096 (bn .eql 3 a5080 (i 14) fun t5105=>
 ob (GV.asB t5105) fun q5106=>jn (bC q5106 (bn .eql 3 a5080 (i 15) fun t5116=>
 ob (GV.asB t5116) fun q5117=>jn (bC q5117 (bn .eql 3 a5080 (i 16) fun t5123=>
 ob (GV.asB t5123) fun q5124=>jn (bC q5124 (oN [a5079,a5081,a5082] h5094) (fd 51 1 t5091 fun t5125=>
 ld 3 t5125 h5094 fun t5126=>
 oR [t5126] h5094)) fun vs5127 h5128=>U3 vs5127 fun a5129 a5130 a5131=>oN [a5129,a5130,a5131] h5128) (fd 51 0 t5091 fun t5118=>
 ld 3 t5118 h5094 fun t5119=>
 bn .eql 3 t5119 (i 0) fun t5120=>
 K c 159 [t5120] h5094 fun t5121 h5122=>
 oR [t5121] h5122)) fun vs5132 h5133=>U3 vs5132 fun a5134 a5135 a5136=>oN [a5134,a5135,a5136] h5133) (ob (GV.nilck a5079) fun t5107=>
 fd 138 1 t5107 fun t5108=>
 fd 25 1 t5108 fun t5109=>
 ld 23 t5109 h5094 fun t5110=>
 fd 51 0 t5091 fun t5111=>
 ld 3 t5111 h5094 fun t5112=>
 ix 23 t5110 t5112 fun t5113=>
 ld 59 t5113 h5094 fun t5114=>
 ln 59 t5114 fun t5115=>
 oR [t5115] h5094)) fun vs5137 h5138=>U3 vs5137 fun a5139 a5140 a5141=>oN [a5139,a5140,a5141] h5138) (ob (GV.nilck a5079) fun t5097=>
 fd 138 1 t5097 fun t5098=>
 fd 25 0 t5098 fun t5099=>
 ld 22 t5099 h5094 fun t5100=>
 fd 51 0 t5091 fun t5101=>
 ld 3 t5101 h5094 fun t5102=>
 ix 22 t5100 t5102 fun t5103=>
 ld 3 t5103 h5094 fun t5104=>
 oR [t5104] h5094)) fun vs5142 h5143=>U3 vs5142 fun a5144 a5145 a5146=>oN [a5144,a5145,a5146] h5143)) fun vs5147 h5148=>U3 vs5147 fun a5149 a5150 a5151=>ob (GV.nilck a5149) fun t5152=>
 fd 138 3 t5152 fun t5153=>
 ld 26 t5153 h5148 fun t5154=>
 ix 26 t5154 a5150 fun t5155=>
 ld 22 t5155 h5148 fun t5156=>
 ix 22 t5156 a5151 fun t5157=>
 ld 3 t5157 h5148 fun t5158=>
 oR [t5158] h5148
def B159 (c:CH) (ql:QH) (us:List GV) (H:GH):RS:=U1 us fun x5159=>
 ob (GV.asB x5159) fun q5160=>jn (bC q5160 (oN [] H) (oR [(i 1)] H)) fun vs5161 h5162=>U0 vs5161 (oR [(i 0)] h5162)
def B160 (c:CH) (ql:QH) (us:List GV) (H:GH):RS:=U2 us fun x5163 x5164=>
 jn (nB 0 (bn .eql 3 x5163 (i 20) fun t5165=>
 ob (GV.asB t5165) fun q5166=>jn (bC q5166 (bn .eql 3 x5163 (i 21) fun t5173=>
 ob (GV.asB t5173) fun q5174=>jn (bC q5174 (bn .eql 3 x5163 (i 22) fun t5180=>
 ob (GV.asB t5180) fun q5181=>jn (bC q5181 (bn .eql 3 x5163 (i 23) fun t5184=>
 ob (GV.asB t5184) fun q5185=>jn (bC q5185 (bn .eql 3 x5163 (i 24) fun t5188=>
 ob (GV.asB t5188) fun q5189=>jn (bC q5189 (bn .eql 3 x5163 (i 25) fun t5194=>
 ob (GV.asB t5194) fun q5195=>jn (bC q5195 (bn .eql 3 x5163 (i 26) fun t5200=>
 ob (GV.asB t5200) fun q5201=>jn (bC q5201 (bn .eql 3 x5163 (i 27) fun t5208=>
 ob (GV.asB t5208) fun q5209=>jn (bC q5209 (bn .eql 3 x5163 (i 28) fun t5212=>
 ob (GV.asB t5212) fun q5213=>jn (bC q5213 (oN [x5164] H) (K c 170 [x5164] H fun t5214 h5215=>
 ex 0 t5214 fun t5216=>
 ex 1 t5214 fun t5217=>
 oR [t5217] h5215)) fun vs5218 h5219=>U1 vs5218 fun a5220=>oN [a5220] h5219) (K c 171 [x5164] H fun t5210 h5211=>
 oR [t5210] h5211)) fun vs5221 h5222=>U1 vs5221 fun a5223=>oN [a5223] h5222) (ln 22 x5164 fun t5202=>
 jn (nB 3 (ql 43 [(i 0),x5164,t5202,(i 0)] H)) fun vs5203 h5204=>U1 vs5203 fun a5205=>K c 161 [a5205] h5204 fun t5206 h5207=>
 oR [t5206] h5207)) fun vs5224 h5225=>U1 vs5224 fun a5226=>oN [a5226] h5225) (K c 170 [x5164] H fun t5196 h5197=>
 ex 0 t5196 fun t5198=>
 ex 1 t5196 fun t5199=>
 oR [t5198] h5197)) fun vs5227 h5228=>U1 vs5227 fun a5229=>oN [a5229] h5228) (ln 22 x5164 fun t5190=>
 jn (nB 1 (ql 42 [(i 1073741824),x5164,t5190,(i 0)] H)) fun vs5191 h5192=>U1 vs5191 fun a5193=>oR [a5193] h5192)) fun vs5230 h5231=>U1 vs5230 fun a5232=>oN [a5232] h5231) (K c 168 [x5164,(.fn 169 [] [])] H fun t5186 h5187=>
 oR [t5186] h5187)) fun vs5233 h5234=>U1 vs5233 fun a5235=>oN [a5235] h5234) (K c 167 [x5164] H fun t5182 h5183=>
 oR [t5182] h5183)) fun vs5236 h5237=>U1 vs5236 fun a5238=>oN [a5238] h5237) (K c 167 [x5164] H fun t5175 h5176=>
 bn .gtr 3 t5175 (i 0) fun t5177=>
 K c 159 [t5177] h5176 fun t5178 h5179=>
 oR [t5178] h5179)) fun vs5239 h5240=>U1 vs5239 fun a5241=>oN [a5241] h5240) (K c 167 [x5164] H fun t5167 h5168=>
 ln 22 x5164 fun t5169=>
 bn .eql 3 t5167 t5169 fun t5170=>
 K c 159 [t5170] h5168 fun t5171 h5172=>
 oR [t5171] h5172)) fun vs5242 h5243=>U1 vs5242 fun a5244=>oN [a5244] h5243)) fun vs5245 h5246=>U1 vs5245 fun a5247=>ln 22 a5247 fun t5248=>
 bn .eql 3 t5248 (i 0) fun t5249=>
 ob (GV.asB t5249) fun q5250=>jn (bC q5250 (oN [a5247] h5246) (oR [(i 0)] h5246)) fun vs5251 h5252=>U1 vs5251 fun a5253=>ix 22 a5253 (i 0) fun t5254=>
 ld 3 t5254 h5252 fun t5255=>
 oR [t5255] h5252
def L42 (c:CH) (ql:QH) (us:List GV) (H:GH):RS:=U4 us fun a5256 a5257 a5258 a5259=>jn (bn .lss 3 a5259 a5258 fun t5260=>
 ob (GV.asB t5260) fun q5261=>jn (bC q5261 (oX 1 [a5256] H) (oN [a5256,a5257,a5258,a5259] H)) fun vs5262 h5263=>U4 vs5262 fun a5264 a5265 a5266 a5267=>jn (nB 2 (ix 22 a5265 a5267 fun t5268=>
 ld 3 t5268 h5263 fun t5269=>
 ob (vMin a5264 t5269) fun t5270=>
 oN [t5270,a5265,a5266,a5267] h5263)) fun vs5271 h5272=>U4 vs5271 fun a5273 a5274 a5275 a5276=>bn .add 3 a5276 (i 1) fun t5277=>
 oN [a5273,a5274,a5275,t5277] h5272) (ql 42)
def L43 (c:CH) (ql:QH) (us:List GV) (H:GH):RS:=U4 us fun a5278 a5279 a5280 a5281=>jn (bn .lss 3 a5281 a5280 fun t5282=>
 ob (GV.asB t5282) fun q5283=>jn (bC q5283 (oX 3 [a5278] H) (oN [a5278,a5279,a5280,a5281] H)) fun vs5284 h5285=>U4 vs5284 fun a5286 a5287 a5288 a5289=>jn (nB 4 (ix 22 a5287 a5289 fun t5290=>
 ld 3 t5290 h5285 fun t5291=>
 bn .add 3 a5286 t5291 fun t5292=>
 oN [t5292,a5287,a5288,a5289] h5285)) fun vs5293 h5294=>U4 vs5293 fun a5295 a5296 a5297 a5298=>bn .add 3 a5298 (i 1) fun t5299=>
 oN [a5295,a5296,a5297,t5299] h5294) (ql 43)
def B161 (c:CH) (ql:QH) (us:List GV) (H:GH):RS:=U1 us fun x5300=>
 ob (vMin x5300 (i 1073741824)) fun t5301=>
 ob (vMax (.int .i64 (.negSucc 1073741823)) t5301) fun t5302=>
 oR [t5302] H
def B162 (c:CH) (ql:QH) (us:List GV) (H:GH):RS:=U2 us fun x5303 x5304=>
 bn .eql 3 x5304 (i 0) fun t5305=>
 ob (GV.asB t5305) fun q5306=>jn (bC q5306 (oN [x5303,x5304] H) (oR [(i 0)] H)) fun vs5307 h5308=>U2 vs5307 fun a5309 a5310=>bn .quo 3 a5309 a5310 fun t5311=>
 bn .rem 3 a5309 a5310 fun t5312=>
 bn .neq 3 t5312 (i 0) fun t5313=>
 kOR (rG t5313 true h5308 (some (a5309,h5308))) fun t5314 h5315=>
 kOR (rG t5313 true h5315 (ob (vBin y .lss 3 t5314 (i 0)) fun g5316=>some (g5316,h5315))) fun t5317 h5318=>
 kOR (rG t5313 true h5318 (some (a5310,h5318))) fun t5319 h5320=>
 kOR (rG t5313 true h5320 (ob (vBin y .lss 3 t5319 (i 0)) fun g5321=>some (g5321,h5320))) fun t5322 h5323=>
 kOR (rG t5313 true h5323 (ob (vBin y .neq 4 t5317 t5322) fun g5324=>some (g5324,h5323))) fun t5325 h5326=>
 ob (vPick t5313 t5325 (.bool false)) fun t5327=>
 ob (GV.asB t5327) fun q5328=>jn (bC q5328 (oN [t5311] h5326) (bn .sub 3 t5311 (i 1) fun t5329=>
 oN [t5329] h5326)) fun vs5330 h5331=>U1 vs5330 fun a5332=>oR [a5332] h5331
def B163 (c:CH) (ql:QH) (us:List GV) (H:GH):RS:=U3 us fun x5333 x5334 x5335=>
 jn (nB 0 (bn .eql 3 x5333 (i 35) fun t5336=>
 ob (GV.asB t5336) fun q5337=>jn (bC q5337 (bn .eql 3 x5333 (i 36) fun t5339=>
 ob (GV.asB t5339) fun q5340=>jn (bC q5340 (bn .eql 3 x5333 (i 37) fun t5342=>
 ob (GV.asB t5342) fun q5343=>jn (bC q5343 (bn .eql 3 x5333 (i 38) fun t5345=>
 ob (GV.asB t5345) fun q5346=>jn (bC q5346 (bn .eql 3 x5333 (i 39) fun t5348=>
 ob (GV.asB t5348) fun q5349=>jn (bC q5349 (oN [x5334,x5335] H) (bn .gtr 3 x5334 x5335 fun t5350=>
 oR [t5350] H)) fun vs5351 h5352=>U2 vs5351 fun a5353 a5354=>oN [a5353,a5354] h5352) (bn .leq 3 x5334 x5335 fun t5347=>
 oR [t5347] H)) fun vs5355 h5356=>U2 vs5355 fun a5357 a5358=>oN [a5357,a5358] h5356) (bn .lss 3 x5334 x5335 fun t5344=>
 oR [t5344] H)) fun vs5359 h5360=>U2 vs5359 fun a5361 a5362=>oN [a5361,a5362] h5360) (bn .neq 3 x5334 x5335 fun t5341=>
 oR [t5341] H)) fun vs5363 h5364=>U2 vs5363 fun a5365 a5366=>oN [a5365,a5366] h5364) (bn .eql 3 x5334 x5335 fun t5338=>
 oR [t5338] H)) fun vs5367 h5368=>U2 vs5367 fun a5369 a5370=>oN [a5369,a5370] h5368)) fun vs5371 h5372=>U2 vs5371 fun a5373 a5374=>bn .geq 3 a5373 a5374 fun t5375=>
 oR [t5375] h5372
def B164 (c:CH) (ql:QH) (us:List GV) (H:GH):RS:=U1 us fun x5376=>
 K c 101 [x5376,(.str 46 1)] H fun t5377 h5378=>
 ob (vUn .not t5377) fun t5379=>
 ob (GV.asB t5379) fun q5380=>jn (bC q5380 (oN [x5376] h5378) (K c 140 [(i 11),(i 0)] h5378 fun t5381 h5382=>
 oR [t5381] h5382)) fun vs5383 h5384=>U1 vs5383 fun a5385=>K c 102 [a5385] h5384 fun t5386 h5387=>
 K c 172 [t5386] h5387 fun t5388 h5389=>
 bn .neq 3 t5388 (i 0) fun t5390=>
 ob (GV.asB t5390) fun q5391=>jn (bC q5391 (oN [a5385] h5389) (K c 105 [a5385] h5389 fun t5392 h5393=>
 K c 140 [t5388,(i 0)] h5393 fun t5394 h5395=>
 oR [t5394] h5395)) fun vs5396 h5397=>U1 vs5396 fun a5398=>K c 109 [a5398] h5397 fun t5399 h5400=>
 K c 140 [(i 12),t5399] h5400 fun t5401 h5402=>
 oR [t5401] h5402
def B165 (c:CH) (ql:QH) (us:List GV) (H:GH):RS:=U1 us fun x5403=>
 K c 173 [] H fun t5404 h5405=>
 K c 155 [x5403,(i 2),t5404] h5405 fun t5406 h5407=>
 oR [t5406] h5407
def B166 (c:CH) (ql:QH) (us:List GV) (H:GH):RS:=U1 us fun x5408=>
 K c 174 [] H fun t5409 h5410=>
 K c 155 [x5408,(i 20),t5409] h5410 fun t5411 h5412=>
 oR [t5411] h5412
def B167 (c:CH) (ql:QH) (us:List GV) (H:GH):RS:=U1 us fun x5413=>
 ln 22 x5413 fun t5414=>
 jn (nB 0 (ql 44 [(i 0),x5413,t5414,(i 0)] H)) fun vs5415 h5416=>U1 vs5415 fun a5417=>oR [a5417] h5416
def L44 (c:CH) (ql:QH) (us:List GV) (H:GH):RS:=U4 us fun a5418 a5419 a5420 a5421=>jn (bn .lss 3 a5421 a5420 fun t5422=>
 ob (GV.asB t5422) fun q5423=>jn (bC q5423 (oX 0 [a5418] H) (oN [a5418,a5419,a5420,a5421] H)) fun vs5424 h5425=>U4 vs5424 fun a5426 a5427 a5428 a5429=>jn (nB 1 (ix 22 a5427 a5429 fun t5430=>
 ld 3 t5430 h5425 fun t5431=>
 bn .neq 3 t5431 (i 0) fun t5432=>
 ob (GV.asB t5432) fun q5433=>jn (bC q5433 (oN [a5426,a5427,a5428,a5429] h5425) (bn .add 3 a5426 (i 1) fun t5434=>
 oN [t5434,a5427,a5428,a5429] h5425)) fun vs5435 h5436=>U4 vs5435 fun a5437 a5438 a5439 a5440=>oN [a5437,a5438,a5439,a5440] h5436)) fun vs5441 h5442=>U4 vs5441 fun a5443 a5444 a5445 a5446=>bn .add 3 a5446 (i 1) fun t5447=>
 oN [a5443,a5444,a5445,t5447] h5442) (ql 44)
def B168 (c:CH) (ql:QH) (us:List GV) (H:GH):RS:=U2 us fun x5448 x5449=>
 ln 22 x5448 fun t5450=>
 jn (nB 0 (ql 45 [x5448,x5449,t5450,(i 0)] H)) fun vs5451 h5452=>U0 vs5451 (oR [(.int .i64 (.negSucc 0))] h5452)
def L45 (c:CH) (ql:QH) (us:List GV) (H:GH):RS:=U4 us fun a5453 a5454 a5455 a5456=>jn (bn .lss 3 a5456 a5455 fun t5457=>
 ob (GV.asB t5457) fun q5458=>jn (bC q5458 (oX 0 [] H) (oN [a5453,a5454,a5455,a5456] H)) fun vs5459 h5460=>U4 vs5459 fun a5461 a5462 a5463 a5464=>jn (nB 1 (ix 22 a5461 a5464 fun t5465=>
 ld 3 t5465 h5460 fun t5466=>
 ob (GV.asF a5462) fun p5469=>kOR (c p5469.1 (p5469.2.1++[t5466]++p5469.2.2) h5460) fun t5467 h5468=>
 ob (GV.asB t5467) fun q5470=>jn (bC q5470 (oN [a5461,a5462,a5463,a5464] h5468) (oR [a5464] h5468)) fun vs5471 h5472=>U4 vs5471 fun a5473 a5474 a5475 a5476=>oN [a5473,a5474,a5475,a5476] h5472)) fun vs5477 h5478=>U4 vs5477 fun a5479 a5480 a5481 a5482=>bn .add 3 a5482 (i 1) fun t5483=>
 oN [a5479,a5480,a5481,t5483] h5478) (ql 45)
def B169 (c:CH) (ql:QH) (us:List GV) (H:GH):RS:=U1 us fun x5484=>
 bn .neq 3 x5484 (i 0) fun t5485=>
 oR [t5485] H
def B170 (c:CH) (ql:QH) (us:List GV) (H:GH):RS:=U1 us fun x5486=>
 ln 22 x5486 fun t5487=>
 jn (nB 0 (ql 46 [(.int .i64 (.negSucc 1073741823)),(.int .i64 (.negSucc 1073741823)),x5486,t5487,(i 0)] H)) fun vs5488 h5489=>U2 vs5488 fun a5490 a5491=>oR [a5490,a5491] h5489
def L46 (c:CH) (ql:QH) (us:List GV) (H:GH):RS:=U5 us fun a5492 a5493 a5494 a5495 a5496=>jn (bn .lss 3 a5496 a5495 fun t5497=>
 ob (GV.asB t5497) fun q5498=>jn (bC q5498 (oX 0 [a5492,a5493] H) (oN [a5492,a5493,a5494,a5495,a5496] H)) fun vs5499 h5500=>U5 vs5499 fun a5501 a5502 a5503 a5504 a5505=>jn (nB 1 (ix 22 a5503 a5505 fun t5506=>
 ld 3 t5506 h5500 fun t5507=>
 bn .gtr 3 t5507 a5501 fun t5508=>
 ob (GV.asB t5508) fun q5509=>jn (bC q5509 (ob (vMax a5502 t5507) fun t5510=>
 oN [a5501,t5510,a5503,a5504,a5505] h5500) (oN [t5507,a5501,a5503,a5504,a5505] h5500)) fun vs5511 h5512=>U5 vs5511 fun a5513 a5514 a5515 a5516 a5517=>oN [a5513,a5514,a5515,a5516,a5517] h5512)) fun vs5518 h5519=>U5 vs5518 fun a5520 a5521 a5522 a5523 a5524=>bn .add 3 a5524 (i 1) fun t5525=>
 oN [a5520,a5521,a5522,a5523,t5525] h5519) (ql 46)
def B171 (c:CH) (ql:QH) (us:List GV) (H:GH):RS:=U1 us fun x5526=>
 jn (nB 0 (ql 47 [x5526,(i 0)] H)) fun vs5527 h5528=>U1 vs5527 fun a5529=>oR [a5529] h5528
def L47 (c:CH) (ql:QH) (us:List GV) (H:GH):RS:=U2 us fun a5530 a5531=>jn (K c 175 [a5530,a5531] H fun t5532 h5533=>
 ob (GV.asB t5532) fun q5534=>jn (bC q5534 (oX 0 [a5531] h5533) (oN [a5530,a5531] h5533)) fun vs5535 h5536=>U2 vs5535 fun a5537 a5538=>jn (nB 1 (bn .add 3 a5538 (i 1) fun t5539=>
 oN [a5537,t5539] h5536)) fun vs5540 h5541=>U2 vs5540 fun a5542 a5543=>oN [a5542,a5543] h5541) (ql 47)
def B172 (c:CH) (ql:QH) (us:List GV) (H:GH):RS:=U1 us fun x5544=>
 K c 176 [] H fun t5545 h5546=>
 K c 155 [x5544,(i 13),t5545] h5546 fun t5547 h5548=>
 oR [t5547] h5548
def B173 (c:CH) (ql:QH) (us:List GV) (H:GH):RS:=U0 us (kOR (vBuildS y 87 9 [(0,(.str 1702195828 4)),(1,(.str 435728179558 5)),(2,(.str 1701736302 4)),(3,(.str 0 0)),(4,(.str 110 1)),(5,(.str 7562345 3)),(6,(.str 25705 2)),(7,(.str 6776164 3)),(8,(.str 1953460082 4))] H) fun t5549 h5550=>
 oR [t5549] h5550)
def B174 (c:CH) (ql:QH) (us:List GV) (H:GH):RS:=U0 us (kOR (vBuildS y 87 10 [(0,(.str 7105633 3)),(1,(.str 1701670771 4)),(2,(.str 500069396323 5)),(3,(.str 500153084262 5)),(4,(.str 7235949 3)),(5,(.str 7889261 3)),(6,(.str 7173491 3)),(7,(.str 7890285 3)),(8,(.str 110425477965171 6)),(9,(.str 1684104552 4))] H) fun t5551 h5552=>
 oR [t5551] h5552)
def B175 (c:CH) (ql:QH) (us:List GV) (H:GH):RS:=U2 us fun x5553 x5554=>
 K c 177 [x5553,x5554] H fun t5555 h5556=>
 bn .geq 3 t5555 (i 0) fun t5557=>
 oR [t5557] h5556
def B176 (c:CH) (ql:QH) (us:List GV) (H:GH):RS:=U0 us (kOR (vBuildS y 87 5 [(0,(.str 25705 2)),(1,(.str 6776164 3)),(2,(.str 1953460082 4)),(3,(.str 127991760381303 6)),(4,(.str 1801675106 4))] H) fun t5558 h5559=>
 oR [t5558] h5559)
def B177 (c:CH) (ql:QH) (us:List GV) (H:GH):RS:=U2 us fun x5560 x5561=>
 ln 22 x5560 fun t5562=>
 jn (nB 0 (ql 48 [x5560,x5561,t5562,(i 0)] H)) fun vs5563 h5564=>U0 vs5563 (oR [(.int .i64 (.negSucc 0))] h5564)
def L48 (c:CH) (ql:QH) (us:List GV) (H:GH):RS:=U4 us fun a5565 a5566 a5567 a5568=>jn (bn .lss 3 a5568 a5567 fun t5569=>
 ob (GV.asB t5569) fun q5570=>jn (bC q5570 (oX 0 [] H) (oN [a5565,a5566,a5567,a5568] H)) fun vs5571 h5572=>U4 vs5571 fun a5573 a5574 a5575 a5576=>jn (nB 1 (ix 22 a5573 a5576 fun t5577=>
 ld 3 t5577 h5572 fun t5578=>
 bn .eql 3 a5574 t5578 fun t5579=>
 ob (GV.asB t5579) fun q5580=>jn (bC q5580 (oN [a5573,a5574,a5575,a5576] h5572) (oR [a5576] h5572)) fun vs5581 h5582=>U4 vs5581 fun a5583 a5584 a5585 a5586=>oN [a5583,a5584,a5585,a5586] h5582)) fun vs5587 h5588=>U4 vs5587 fun a5589 a5590 a5591 a5592=>bn .add 3 a5592 (i 1) fun t5593=>
 oN [a5589,a5590,a5591,t5593] h5588) (ql 48)
def d0:(Code×Cx)×Body:=((codeOf Tryz.f10 [1,1,0,1,0,0],cxOf Tryz.f10 [(0,0)]),L0)
def d1:(Code×Cx)×Body:=((codeOf Tryz.f59 [1,1,1,0,1,0,0],cxOf Tryz.f59 [(0,32)]),L1)
def d2:(Code×Cx)×Body:=((codeOf Tryz.f62 [1,1,1,0,1,0,0],cxOf Tryz.f62 [(0,2)]),L2)
def d3:(Code×Cx)×Body:=((codeOf Tryz.f62 [1,1,1,1,0,1,0,0],cxOf Tryz.f62 [(2,2)]),L3)
def d4:(Code×Cx)×Body:=((codeOf Tryz.f62 [1,1,1,1,1,1,0,1,0,0],cxOf Tryz.f62 [(4,0)]),L4)
def d5:(Code×Cx)×Body:=((codeOf Tryz.f69 [1,1,0,1,0,0],cxOf Tryz.f69 [(0,32)]),L5)
def d6:(Code×Cx)×Body:=((codeOf Tryz.f69 [1,1,0,1,0,0,1,1,0,0,1,1,1,0,0],cxOf Tryz.f69 [(2,3670056),(1,3670056),(0,32)]),L6)
def d7:(Code×Cx)×Body:=((codeOf Tryz.f70 [1,1,0,1,0,0],cxOf Tryz.f70 [(0,32)]),L7)
def d8:(Code×Cx)×Body:=((codeOf Tryz.f70 [1,1,0,1,0,0,1,1,0,0,1,1,1,0,0],cxOf Tryz.f70 [(2,49196),(1,49196),(0,32)]),L8)
def d9:(Code×Cx)×Body:=((codeOf Tryz.f71 [1,1,0,1,0,0],cxOf Tryz.f71 [(0,32)]),L9)
def d10:(Code×Cx)×Body:=((codeOf Tryz.f73 [1,0,1,0,0],cxOf Tryz.f73 [(0,0)]),L10)
def d11:(Code×Cx)×Body:=((codeOf Tryz.f74 [1,0,0,0],cxOf Tryz.f74 [(0,2)]),L11)
def d12:(Code×Cx)×Body:=((codeOf Tryz.f74 [1,0,0,0,1,0,1,0,1,1,1,0,0,0],cxOf Tryz.f74 [(3,3),(2,3),(1,3),(0,2)]),L12)
def d13:(Code×Cx)×Body:=((codeOf Tryz.f79 [1,1,1,0,1,0,0],cxOf Tryz.f79 [(0,33)]),L13)
def d14:(Code×Cx)×Body:=((codeOf Tryz.f80 [1,0,0],cxOf Tryz.f80 [(0,0)]),L14)
def d15:(Code×Cx)×Body:=((codeOf Tryz.f82 [1,1,1,1,1,0,0,0],cxOf Tryz.f82 [(0,5)]),L15)
def d16:(Code×Cx)×Body:=((codeOf Tryz.f85 [1,1,1,0,1,0,0],cxOf Tryz.f85 [(0,2)]),L16)
def d17:(Code×Cx)×Body:=((codeOf Tryz.f85 [1,1,1,1,1,0,1,0,0],cxOf Tryz.f85 [(2,0)]),L17)
def d18:(Code×Cx)×Body:=((codeOf Tryz.f87 [1,1,1,0,1,0,0],cxOf Tryz.f87 [(0,0)]),L18)
def d19:(Code×Cx)×Body:=((codeOf Tryz.f88 [1,1,0,1,0,0],cxOf Tryz.f88 [(0,8)]),L19)
def d20:(Code×Cx)×Body:=((codeOf Tryz.f89 [1,1,0,1,0,0],cxOf Tryz.f89 [(0,0)]),L20)
def d21:(Code×Cx)×Body:=((codeOf Tryz.f90 [1,1,1,0,1,0,0],cxOf Tryz.f90 [(0,0)]),L21)
def d22:(Code×Cx)×Body:=((codeOf Tryz.f91 [1,1,0,1,0,0],cxOf Tryz.f91 [(0,0)]),L22)
def d23:(Code×Cx)×Body:=((codeOf Tryz.f92 [1,0,1,0,0],cxOf Tryz.f92 [(0,0)]),L23)
def d24:(Code×Cx)×Body:=((codeOf Tryz.f93 [1,1,0,1,0,0],cxOf Tryz.f93 [(0,0)]),L24)
def d25:(Code×Cx)×Body:=((codeOf Tryz.f95 [1,1,0,0,0],cxOf Tryz.f95 [(0,32)]),L25)
def d26:(Code×Cx)×Body:=((codeOf Tryz.f99 [1,1,1,0,1,0,0],cxOf Tryz.f99 [(0,16)]),L26)
def d27:(Code×Cx)×Body:=((codeOf Tryz.f100 [1,0,1,0,0],cxOf Tryz.f100 [(0,1)]),L27)
def d28:(Code×Cx)×Body:=((codeOf Tryz.f104 [1,1,0,1,0,0],cxOf Tryz.f104 [(0,1)]),L28)
def d29:(Code×Cx)×Body:=((codeOf Tryz.f112 [1,1,0,1,0,0],cxOf Tryz.f112 [(0,1)]),L29)
def d30:(Code×Cx)×Body:=((codeOf Tryz.f113 [1,1,0,1,0,0],cxOf Tryz.f113 [(0,7)]),L30)
def d31:(Code×Cx)×Body:=((codeOf Tryz.f115 [1,1,0,1,0,0],cxOf Tryz.f115 [(0,0)]),L31)
def d32:(Code×Cx)×Body:=((codeOf Tryz.f117 [1,1,1,0,1,0,0],cxOf Tryz.f117 [(0,8)]),L32)
def d33:(Code×Cx)×Body:=((codeOf Tryz.f125 [1,1,1,0,0],cxOf Tryz.f125 [(0,16)]),L33)
def d34:(Code×Cx)×Body:=((codeOf Tryz.f126 [1,1,0,1,0,0],cxOf Tryz.f126 [(0,32)]),L34)
def d35:(Code×Cx)×Body:=((codeOf Tryz.f127 [1,0,1,0,0],cxOf Tryz.f127 [(0,0)]),L35)
def d36:(Code×Cx)×Body:=((codeOf Tryz.f128 [1,1,0,1,0,0],cxOf Tryz.f128 [(0,0)]),L36)
def d37:(Code×Cx)×Body:=((codeOf Tryz.f132 [1,1,1,1,1,1,0,1,0,0],cxOf Tryz.f132 [(0,1408)]),L37)
def d38:(Code×Cx)×Body:=((codeOf Tryz.f142 [1,1,1,0,1,0,0],cxOf Tryz.f142 [(0,64)]),L38)
def d39:(Code×Cx)×Body:=((codeOf Tryz.f142 [1,1,1,0,1,0,0,1,0,0,1,1,0,1,0,0],cxOf Tryz.f142 [(2,963),(1,195),(0,64)]),L39)
def d40:(Code×Cx)×Body:=((codeOf Tryz.f151 [1,1,1,0,1,0,0],cxOf Tryz.f151 [(0,903)]),L40)
def d41:(Code×Cx)×Body:=((codeOf Tryz.f155 [1,1,0,1,0,0],cxOf Tryz.f155 [(0,0)]),L41)
def d42:(Code×Cx)×Body:=((codeOf Tryz.f160 [1,0,1,0,1,1,1,1,1,1,1,1,1,0,1,0,1,0,0],cxOf Tryz.f160 [(1,32),(0,2)]),L42)
def d43:(Code×Cx)×Body:=((codeOf Tryz.f160 [1,0,1,0,1,1,1,1,1,1,1,1,1,1,1,1,1,0,1,0,1,0,0],cxOf Tryz.f160 [(3,1024),(0,2)]),L43)
def d44:(Code×Cx)×Body:=((codeOf Tryz.f167 [1,1,0,1,0,0],cxOf Tryz.f167 [(0,8)]),L44)
def d45:(Code×Cx)×Body:=((codeOf Tryz.f168 [1,0,1,0,0],cxOf Tryz.f168 [(0,0)]),L45)
def d46:(Code×Cx)×Body:=((codeOf Tryz.f170 [1,1,0,1,0,0],cxOf Tryz.f170 [(0,12)]),L46)
def d47:(Code×Cx)×Body:=((codeOf Tryz.f171 [1,1,0,0,0],cxOf Tryz.f171 [(0,8)]),L47)
def d48:(Code×Cx)×Body:=((codeOf Tryz.f177 [1,0,1,0,0],cxOf Tryz.f177 [(0,0)]),L48)
def rtabF (f:Nat):Option (Func×Body):=(tN f 117 (tN f 87 (tN f 70 (tN f 56 (tN f 20 (tN f 10 (tL f 5 (Tryz.f5,B5)) (tN f 19 (tL f 10 (Tryz.f10,B10)) (tL f 19 (Tryz.f19,B19)))) (tN f 44 (tN f 21 (tL f 20 (Tryz.f20,B20)) (tL f 21 (Tryz.f21,B21))) (tN f 45 (tL f 44 (Tryz.f44,B44)) (tL f 45 (Tryz.f45,B45))))) (tN f 61 (tN f 58 (tN f 57 (tL f 56 (Tryz.f56,B56)) (tL f 57 (Tryz.f57,B57))) (tN f 59 (tL f 58 (Tryz.f58,B58)) (tL f 59 (Tryz.f59,B59)))) (tN f 68 (tN f 62 (tL f 61 (Tryz.f61,B61)) (tL f 62 (Tryz.f62,B62))) (tN f 69 (tL f 68 (Tryz.f68,B68)) (tL f 69 (Tryz.f69,B69)))))) (tN f 79 (tN f 73 (tN f 71 (tL f 70 (Tryz.f70,B70)) (tN f 72 (tL f 71 (Tryz.f71,B71)) (tL f 72 (Tryz.f72,B72)))) (tN f 75 (tN f 74 (tL f 73 (Tryz.f73,B73)) (tL f 74 (Tryz.f74,B74))) (tN f 78 (tL f 75 (Tryz.f75,B75)) (tL f 78 (Tryz.f78,B78))))) (tN f 83 (tN f 81 (tN f 80 (tL f 79 (Tryz.f79,B79)) (tL f 80 (Tryz.f80,B80))) (tN f 82 (tL f 81 (Tryz.f81,B81)) (tL f 82 (Tryz.f82,B82)))) (tN f 85 (tN f 84 (tL f 83 (Tryz.f83,B83)) (tL f 84 (Tryz.f84,B84))) (tN f 86 (tL f 85 (Tryz.f85,B85)) (tL f 86 (Tryz.f86,B86))))))) (tN f 102 (tN f 94 (tN f 90 (tN f 88 (tL f 87 (Tryz.f87,B87)) (tN f 89 (tL f 88 (Tryz.f88,B88)) (tL f 89 (Tryz.f89,B89)))) (tN f 92 (tN f 91 (tL f 90 (Tryz.f90,B90)) (tL f 91 (Tryz.f91,B91))) (tN f 93 (tL f 92 (Tryz.f92,B92)) (tL f 93 (Tryz.f93,B93))))) (tN f 98 (tN f 96 (tN f 95 (tL f 94 (Tryz.f94,B94)) (tL f 95 (Tryz.f95,B95))) (tN f 97 (tL f 96 (Tryz.f96,B96)) (tL f 97 (Tryz.f97,B97)))) (tN f 100 (tN f 99 (tL f 98 (Tryz.f98,B98)) (tL f 99 (Tryz.f99,B99))) (tN f 101 (tL f 100 (Tryz.f100,B100)) (tL f 101 (Tryz.f101,B101)))))) (tN f 109 (tN f 105 (tN f 103 (tL f 102 (Tryz.f102,B102)) (tN f 104 (tL f 103 (Tryz.f103,B103)) (tL f 104 (Tryz.f104,B104)))) (tN f 107 (tN f 106 (tL f 105 (Tryz.f105,B105)) (tL f 106 (Tryz.f106,B106))) (tN f 108 (tL f 107 (Tryz.f107,B107)) (tL f 108 (Tryz.f108,B108))))) (tN f 113 (tN f 111 (tN f 110 (tL f 109 (Tryz.f109,B109)) (tL f 110 (Tryz.f110,B110))) (tN f 112 (tL f 111 (Tryz.f111,B111)) (tL f 112 (Tryz.f112,B112)))) (tN f 115 (tN f 114 (tL f 113 (Tryz.f113,B113)) (tL f 114 (Tryz.f114,B114))) (tN f 116 (tL f 115 (Tryz.f115,B115)) (tL f 116 (Tryz.f116,B116)))))))) (tN f 147 (tN f 132 (tN f 124 (tN f 120 (tN f 118 (tL f 117 (Tryz.f117,B117)) (tN f 119 (tL f 118 (Tryz.f118,B118)) (tL f 119 (Tryz.f119,B119)))) (tN f 122 (tN f 121 (tL f 120 (Tryz.f120,B120)) (tL f 121 (Tryz.f121,B121))) (tN f 123 (tL f 122 (Tryz.f122,B122)) (tL f 123 (Tryz.f123,B123))))) (tN f 128 (tN f 126 (tN f 125 (tL f 124 (Tryz.f124,B124)) (tL f 125 (Tryz.f125,B125))) (tN f 127 (tL f 126 (Tryz.f126,B126)) (tL f 127 (Tryz.f127,B127)))) (tN f 130 (tN f 129 (tL f 128 (Tryz.f128,B128)) (tL f 129 (Tryz.f129,B129))) (tN f 131 (tL f 130 (Tryz.f130,B130)) (tL f 131 (Tryz.f131,B131)))))) (tN f 139 (tN f 135 (tN f 133 (tL f 132 (Tryz.f132,B132)) (tN f 134 (tL f 133 (Tryz.f133,B133)) (tL f 134 (Tryz.f134,B134)))) (tN f 137 (tN f 136 (tL f 135 (Tryz.f135,B135)) (tL f 136 (Tryz.f136,B136))) (tN f 138 (tL f 137 (Tryz.f137,B137)) (tL f 138 (Tryz.f138,B138))))) (tN f 143 (tN f 141 (tN f 140 (tL f 139 (Tryz.f139,B139)) (tL f 140 (Tryz.f140,B140))) (tN f 142 (tL f 141 (Tryz.f141,B141)) (tL f 142 (Tryz.f142,B142)))) (tN f 145 (tN f 144 (tL f 143 (Tryz.f143,B143)) (tL f 144 (Tryz.f144,B144))) (tN f 146 (tL f 145 (Tryz.f145,B145)) (tL f 146 (Tryz.f146,B146))))))) (tN f 163 (tN f 155 (tN f 150 (tN f 148 (tL f 147 (Tryz.f147,B147)) (tN f 149 (tL f 148 (Tryz.f148,B148)) (tL f 149 (Tryz.f149,B149)))) (tN f 152 (tN f 151 (tL f 150 (Tryz.f150,B150)) (tL f 151 (Tryz.f151,B151))) (tN f 154 (tL f 152 (Tryz.f152,B152)) (tL f 154 (Tryz.f154,B154))))) (tN f 159 (tN f 157 (tN f 156 (tL f 155 (Tryz.f155,B155)) (tL f 156 (Tryz.f156,B156))) (tN f 158 (tL f 157 (Tryz.f157,B157)) (tL f 158 (Tryz.f158,B158)))) (tN f 161 (tN f 160 (tL f 159 (Tryz.f159,B159)) (tL f 160 (Tryz.f160,B160))) (tN f 162 (tL f 161 (Tryz.f161,B161)) (tL f 162 (Tryz.f162,B162)))))) (tN f 170 (tN f 166 (tN f 164 (tL f 163 (Tryz.f163,B163)) (tN f 165 (tL f 164 (Tryz.f164,B164)) (tL f 165 (Tryz.f165,B165)))) (tN f 168 (tN f 167 (tL f 166 (Tryz.f166,B166)) (tL f 167 (Tryz.f167,B167))) (tN f 169 (tL f 168 (Tryz.f168,B168)) (tL f 169 (Tryz.f169,B169))))) (tN f 174 (tN f 172 (tN f 171 (tL f 170 (Tryz.f170,B170)) (tL f 171 (Tryz.f171,B171))) (tN f 173 (tL f 172 (Tryz.f172,B172)) (tL f 173 (Tryz.f173,B173)))) (tN f 176 (tN f 175 (tL f 174 (Tryz.f174,B174)) (tL f 175 (Tryz.f175,B175))) (tN f 177 (tL f 176 (Tryz.f176,B176)) (tL f 177 (Tryz.f177,B177)))))))))
def rtabL (f:Nat):Option ((Code×Cx)×Body):=(tN f 24 (tN f 12 (tN f 6 (tN f 3 (tN f 1 (tL f 0 d0) (tN f 2 (tL f 1 d1) (tL f 2 d2))) (tN f 4 (tL f 3 d3) (tN f 5 (tL f 4 d4) (tL f 5 d5)))) (tN f 9 (tN f 7 (tL f 6 d6) (tN f 8 (tL f 7 d7) (tL f 8 d8))) (tN f 10 (tL f 9 d9) (tN f 11 (tL f 10 d10) (tL f 11 d11))))) (tN f 18 (tN f 15 (tN f 13 (tL f 12 d12) (tN f 14 (tL f 13 d13) (tL f 14 d14))) (tN f 16 (tL f 15 d15) (tN f 17 (tL f 16 d16) (tL f 17 d17)))) (tN f 21 (tN f 19 (tL f 18 d18) (tN f 20 (tL f 19 d19) (tL f 20 d20))) (tN f 22 (tL f 21 d21) (tN f 23 (tL f 22 d22) (tL f 23 d23)))))) (tN f 36 (tN f 30 (tN f 27 (tN f 25 (tL f 24 d24) (tN f 26 (tL f 25 d25) (tL f 26 d26))) (tN f 28 (tL f 27 d27) (tN f 29 (tL f 28 d28) (tL f 29 d29)))) (tN f 33 (tN f 31 (tL f 30 d30) (tN f 32 (tL f 31 d31) (tL f 32 d32))) (tN f 34 (tL f 33 d33) (tN f 35 (tL f 34 d34) (tL f 35 d35))))) (tN f 42 (tN f 39 (tN f 37 (tL f 36 d36) (tN f 38 (tL f 37 d37) (tL f 38 d38))) (tN f 40 (tL f 39 d39) (tN f 41 (tL f 40 d40) (tL f 41 d41)))) (tN f 45 (tN f 43 (tL f 42 d42) (tN f 44 (tL f 43 d43) (tL f 44 d44))) (tN f 47 (tN f 46 (tL f 45 d45) (tL f 46 d46)) (tN f 48 (tL f 47 d47) (tL f 48 d48)))))))
def rtab:Tabs:=⟨rtabF,rtabL⟩
def FO (f:Nat) (e:Func×Body):Prop:=(∀(c:CH) (lp:LH) us H,e.2 c (rtab.loop lp) us H=evF tyTab c lp e.1 us H)∧Tryz.prog.funcs[f]? = some e.1∧HasBody Tryz.prog f∧okF y e.1=true
def LO (e:(Code×Cx)×Body):Prop:=∀(c:CH) (lp:LH) us H,e.2 c (rtab.loop lp) us H=evL tyTab c lp e.1.1 e.1.2 us H
theorem e5:FO 5 (Tryz.f5,B5):=⟨fun _ _ _ _=>by kernel_rfl,Tryz.func5,Tryz.call5,by kernel_rfl⟩
theorem e10:FO 10 (Tryz.f10,B10):=⟨fun _ _ _ _=>by kernel_rfl,Tryz.func10,Tryz.call10,by kernel_rfl⟩
theorem e19:FO 19 (Tryz.f19,B19):=⟨fun _ _ _ _=>by kernel_rfl,Tryz.func19,Tryz.call19,by kernel_rfl⟩
theorem e20:FO 20 (Tryz.f20,B20):=⟨fun _ _ _ _=>by kernel_rfl,Tryz.func20,Tryz.call20,by kernel_rfl⟩
theorem e21:FO 21 (Tryz.f21,B21):=⟨fun _ _ _ _=>by kernel_rfl,Tryz.func21,Tryz.call21,by kernel_rfl⟩
theorem e44:FO 44 (Tryz.f44,B44):=⟨fun _ _ _ _=>by kernel_rfl,Tryz.func44,Tryz.call44,by kernel_rfl⟩
theorem e45:FO 45 (Tryz.f45,B45):=⟨fun _ _ _ _=>by kernel_rfl,Tryz.func45,Tryz.call45,by kernel_rfl⟩
theorem e56:FO 56 (Tryz.f56,B56):=⟨fun _ _ _ _=>by kernel_rfl,Tryz.func56,Tryz.call56,by kernel_rfl⟩
theorem e57:FO 57 (Tryz.f57,B57):=⟨fun _ _ _ _=>by kernel_rfl,Tryz.func57,Tryz.call57,by kernel_rfl⟩
theorem e58:FO 58 (Tryz.f58,B58):=⟨fun _ _ _ _=>by kernel_rfl,Tryz.func58,Tryz.call58,by kernel_rfl⟩
theorem e59:FO 59 (Tryz.f59,B59):=⟨fun _ _ _ _=>by kernel_rfl,Tryz.func59,Tryz.call59,by kernel_rfl⟩
theorem e61:FO 61 (Tryz.f61,B61):=⟨fun _ _ _ _=>by kernel_rfl,Tryz.func61,Tryz.call61,by kernel_rfl⟩
theorem e62:FO 62 (Tryz.f62,B62):=⟨fun _ _ _ _=>by kernel_rfl,Tryz.func62,Tryz.call62,by kernel_rfl⟩
theorem e68:FO 68 (Tryz.f68,B68):=⟨fun _ _ _ _=>by kernel_rfl,Tryz.func68,Tryz.call68,by kernel_rfl⟩
theorem e69:FO 69 (Tryz.f69,B69):=⟨fun _ _ _ _=>by kernel_rfl,Tryz.func69,Tryz.call69,by kernel_rfl⟩
theorem e70:FO 70 (Tryz.f70,B70):=⟨fun _ _ _ _=>by kernel_rfl,Tryz.func70,Tryz.call70,by kernel_rfl⟩
theorem e71:FO 71 (Tryz.f71,B71):=⟨fun _ _ _ _=>by kernel_rfl,Tryz.func71,Tryz.call71,by kernel_rfl⟩
theorem e72:FO 72 (Tryz.f72,B72):=⟨fun _ _ _ _=>by kernel_rfl,Tryz.func72,Tryz.call72,by kernel_rfl⟩
theorem e73:FO 73 (Tryz.f73,B73):=⟨fun _ _ _ _=>by kernel_rfl,Tryz.func73,Tryz.call73,by kernel_rfl⟩
theorem e74:FO 74 (Tryz.f74,B74):=⟨fun _ _ _ _=>by kernel_rfl,Tryz.func74,Tryz.call74,by kernel_rfl⟩
theorem e75:FO 75 (Tryz.f75,B75):=⟨fun _ _ _ _=>by kernel_rfl,Tryz.func75,Tryz.call75,by kernel_rfl⟩
theorem e78:FO 78 (Tryz.f78,B78):=⟨fun _ _ _ _=>by kernel_rfl,Tryz.func78,Tryz.call78,by kernel_rfl⟩
theorem e79:FO 79 (Tryz.f79,B79):=⟨fun _ _ _ _=>by kernel_rfl,Tryz.func79,Tryz.call79,by kernel_rfl⟩
theorem e80:FO 80 (Tryz.f80,B80):=⟨fun _ _ _ _=>by kernel_rfl,Tryz.func80,Tryz.call80,by kernel_rfl⟩
theorem e81:FO 81 (Tryz.f81,B81):=⟨fun _ _ _ _=>by kernel_rfl,Tryz.func81,Tryz.call81,by kernel_rfl⟩
theorem e82:FO 82 (Tryz.f82,B82):=⟨fun _ _ _ _=>by kernel_rfl,Tryz.func82,Tryz.call82,by kernel_rfl⟩
theorem e83:FO 83 (Tryz.f83,B83):=⟨fun _ _ _ _=>by kernel_rfl,Tryz.func83,Tryz.call83,by kernel_rfl⟩
theorem e84:FO 84 (Tryz.f84,B84):=⟨fun _ _ _ _=>by kernel_rfl,Tryz.func84,Tryz.call84,by kernel_rfl⟩
theorem e85:FO 85 (Tryz.f85,B85):=⟨fun _ _ _ _=>by kernel_rfl,Tryz.func85,Tryz.call85,by kernel_rfl⟩
theorem e86:FO 86 (Tryz.f86,B86):=⟨fun _ _ _ _=>by kernel_rfl,Tryz.func86,Tryz.call86,by kernel_rfl⟩
theorem e87:FO 87 (Tryz.f87,B87):=⟨fun _ _ _ _=>by kernel_rfl,Tryz.func87,Tryz.call87,by kernel_rfl⟩
theorem e88:FO 88 (Tryz.f88,B88):=⟨fun _ _ _ _=>by kernel_rfl,Tryz.func88,Tryz.call88,by kernel_rfl⟩
theorem e89:FO 89 (Tryz.f89,B89):=⟨fun _ _ _ _=>by kernel_rfl,Tryz.func89,Tryz.call89,by kernel_rfl⟩
theorem e90:FO 90 (Tryz.f90,B90):=⟨fun _ _ _ _=>by kernel_rfl,Tryz.func90,Tryz.call90,by kernel_rfl⟩
theorem e91:FO 91 (Tryz.f91,B91):=⟨fun _ _ _ _=>by kernel_rfl,Tryz.func91,Tryz.call91,by kernel_rfl⟩
theorem e92:FO 92 (Tryz.f92,B92):=⟨fun _ _ _ _=>by kernel_rfl,Tryz.func92,Tryz.call92,by kernel_rfl⟩
theorem e93:FO 93 (Tryz.f93,B93):=⟨fun _ _ _ _=>by kernel_rfl,Tryz.func93,Tryz.call93,by kernel_rfl⟩
theorem e94:FO 94 (Tryz.f94,B94):=⟨fun _ _ _ _=>by kernel_rfl,Tryz.func94,Tryz.call94,by kernel_rfl⟩
theorem e95:FO 95 (Tryz.f95,B95):=⟨fun _ _ _ _=>by kernel_rfl,Tryz.func95,Tryz.call95,by kernel_rfl⟩
theorem e96:FO 96 (Tryz.f96,B96):=⟨fun _ _ _ _=>by kernel_rfl,Tryz.func96,Tryz.call96,by kernel_rfl⟩
theorem e97:FO 97 (Tryz.f97,B97):=⟨fun _ _ _ _=>by kernel_rfl,Tryz.func97,Tryz.call97,by kernel_rfl⟩
theorem e98:FO 98 (Tryz.f98,B98):=⟨fun _ _ _ _=>by kernel_rfl,Tryz.func98,Tryz.call98,by kernel_rfl⟩
theorem e99:FO 99 (Tryz.f99,B99):=⟨fun _ _ _ _=>by kernel_rfl,Tryz.func99,Tryz.call99,by kernel_rfl⟩
theorem e100:FO 100 (Tryz.f100,B100):=⟨fun _ _ _ _=>by kernel_rfl,Tryz.func100,Tryz.call100,by kernel_rfl⟩
theorem e101:FO 101 (Tryz.f101,B101):=⟨fun _ _ _ _=>by kernel_rfl,Tryz.func101,Tryz.call101,by kernel_rfl⟩
theorem e102:FO 102 (Tryz.f102,B102):=⟨fun _ _ _ _=>by kernel_rfl,Tryz.func102,Tryz.call102,by kernel_rfl⟩
theorem e103:FO 103 (Tryz.f103,B103):=⟨fun _ _ _ _=>by kernel_rfl,Tryz.func103,Tryz.call103,by kernel_rfl⟩
theorem e104:FO 104 (Tryz.f104,B104):=⟨fun _ _ _ _=>by kernel_rfl,Tryz.func104,Tryz.call104,by kernel_rfl⟩
theorem e105:FO 105 (Tryz.f105,B105):=⟨fun _ _ _ _=>by kernel_rfl,Tryz.func105,Tryz.call105,by kernel_rfl⟩
theorem e106:FO 106 (Tryz.f106,B106):=⟨fun _ _ _ _=>by kernel_rfl,Tryz.func106,Tryz.call106,by kernel_rfl⟩
theorem e107:FO 107 (Tryz.f107,B107):=⟨fun _ _ _ _=>by kernel_rfl,Tryz.func107,Tryz.call107,by kernel_rfl⟩
theorem e108:FO 108 (Tryz.f108,B108):=⟨fun _ _ _ _=>by kernel_rfl,Tryz.func108,Tryz.call108,by kernel_rfl⟩
theorem e109:FO 109 (Tryz.f109,B109):=⟨fun _ _ _ _=>by kernel_rfl,Tryz.func109,Tryz.call109,by kernel_rfl⟩
theorem e110:FO 110 (Tryz.f110,B110):=⟨fun _ _ _ _=>by kernel_rfl,Tryz.func110,Tryz.call110,by kernel_rfl⟩
theorem e111:FO 111 (Tryz.f111,B111):=⟨fun _ _ _ _=>by kernel_rfl,Tryz.func111,Tryz.call111,by kernel_rfl⟩
theorem e112:FO 112 (Tryz.f112,B112):=⟨fun _ _ _ _=>by kernel_rfl,Tryz.func112,Tryz.call112,by kernel_rfl⟩
theorem e113:FO 113 (Tryz.f113,B113):=⟨fun _ _ _ _=>by kernel_rfl,Tryz.func113,Tryz.call113,by kernel_rfl⟩
theorem e114:FO 114 (Tryz.f114,B114):=⟨fun _ _ _ _=>by kernel_rfl,Tryz.func114,Tryz.call114,by kernel_rfl⟩
theorem e115:FO 115 (Tryz.f115,B115):=⟨fun _ _ _ _=>by kernel_rfl,Tryz.func115,Tryz.call115,by kernel_rfl⟩
theorem e116:FO 116 (Tryz.f116,B116):=⟨fun _ _ _ _=>by kernel_rfl,Tryz.func116,Tryz.call116,by kernel_rfl⟩
theorem e117:FO 117 (Tryz.f117,B117):=⟨fun _ _ _ _=>by kernel_rfl,Tryz.func117,Tryz.call117,by kernel_rfl⟩
theorem e118:FO 118 (Tryz.f118,B118):=⟨fun _ _ _ _=>by kernel_rfl,Tryz.func118,Tryz.call118,by kernel_rfl⟩
theorem e119:FO 119 (Tryz.f119,B119):=⟨fun _ _ _ _=>by kernel_rfl,Tryz.func119,Tryz.call119,by kernel_rfl⟩
theorem e120:FO 120 (Tryz.f120,B120):=⟨fun _ _ _ _=>by kernel_rfl,Tryz.func120,Tryz.call120,by kernel_rfl⟩
theorem e121:FO 121 (Tryz.f121,B121):=⟨fun _ _ _ _=>by kernel_rfl,Tryz.func121,Tryz.call121,by kernel_rfl⟩
theorem e122:FO 122 (Tryz.f122,B122):=⟨fun _ _ _ _=>by kernel_rfl,Tryz.func122,Tryz.call122,by kernel_rfl⟩
theorem e123:FO 123 (Tryz.f123,B123):=⟨fun _ _ _ _=>by kernel_rfl,Tryz.func123,Tryz.call123,by kernel_rfl⟩
theorem e124:FO 124 (Tryz.f124,B124):=⟨fun _ _ _ _=>by kernel_rfl,Tryz.func124,Tryz.call124,by kernel_rfl⟩
theorem e125:FO 125 (Tryz.f125,B125):=⟨fun _ _ _ _=>by kernel_rfl,Tryz.func125,Tryz.call125,by kernel_rfl⟩
theorem e126:FO 126 (Tryz.f126,B126):=⟨fun _ _ _ _=>by kernel_rfl,Tryz.func126,Tryz.call126,by kernel_rfl⟩
theorem e127:FO 127 (Tryz.f127,B127):=⟨fun _ _ _ _=>by kernel_rfl,Tryz.func127,Tryz.call127,by kernel_rfl⟩
theorem e128:FO 128 (Tryz.f128,B128):=⟨fun _ _ _ _=>by kernel_rfl,Tryz.func128,Tryz.call128,by kernel_rfl⟩
theorem e129:FO 129 (Tryz.f129,B129):=⟨fun _ _ _ _=>by kernel_rfl,Tryz.func129,Tryz.call129,by kernel_rfl⟩
theorem e130:FO 130 (Tryz.f130,B130):=⟨fun _ _ _ _=>by kernel_rfl,Tryz.func130,Tryz.call130,by kernel_rfl⟩
theorem e131:FO 131 (Tryz.f131,B131):=⟨fun _ _ _ _=>by kernel_rfl,Tryz.func131,Tryz.call131,by kernel_rfl⟩
theorem e132:FO 132 (Tryz.f132,B132):=⟨fun _ _ _ _=>by kernel_rfl,Tryz.func132,Tryz.call132,by kernel_rfl⟩
theorem e133:FO 133 (Tryz.f133,B133):=⟨fun _ _ _ _=>by kernel_rfl,Tryz.func133,Tryz.call133,by kernel_rfl⟩
theorem e134:FO 134 (Tryz.f134,B134):=⟨fun _ _ _ _=>by kernel_rfl,Tryz.func134,Tryz.call134,by kernel_rfl⟩
theorem e135:FO 135 (Tryz.f135,B135):=⟨fun _ _ _ _=>by kernel_rfl,Tryz.func135,Tryz.call135,by kernel_rfl⟩
theorem e136:FO 136 (Tryz.f136,B136):=⟨fun _ _ _ _=>by kernel_rfl,Tryz.func136,Tryz.call136,by kernel_rfl⟩
theorem e137:FO 137 (Tryz.f137,B137):=⟨fun _ _ _ _=>by kernel_rfl,Tryz.func137,Tryz.call137,by kernel_rfl⟩
theorem e138:FO 138 (Tryz.f138,B138):=⟨fun _ _ _ _=>by kernel_rfl,Tryz.func138,Tryz.call138,by kernel_rfl⟩
theorem e139:FO 139 (Tryz.f139,B139):=⟨fun _ _ _ _=>by kernel_rfl,Tryz.func139,Tryz.call139,by kernel_rfl⟩
theorem e140:FO 140 (Tryz.f140,B140):=⟨fun _ _ _ _=>by kernel_rfl,Tryz.func140,Tryz.call140,by kernel_rfl⟩
theorem e141:FO 141 (Tryz.f141,B141):=⟨fun _ _ _ _=>by kernel_rfl,Tryz.func141,Tryz.call141,by kernel_rfl⟩
theorem e142:FO 142 (Tryz.f142,B142):=⟨fun _ _ _ _=>by kernel_rfl,Tryz.func142,Tryz.call142,by kernel_rfl⟩
theorem e143:FO 143 (Tryz.f143,B143):=⟨fun _ _ _ _=>by kernel_rfl,Tryz.func143,Tryz.call143,by kernel_rfl⟩
theorem e144:FO 144 (Tryz.f144,B144):=⟨fun _ _ _ _=>by kernel_rfl,Tryz.func144,Tryz.call144,by kernel_rfl⟩
theorem e145:FO 145 (Tryz.f145,B145):=⟨fun _ _ _ _=>by kernel_rfl,Tryz.func145,Tryz.call145,by kernel_rfl⟩
theorem e146:FO 146 (Tryz.f146,B146):=⟨fun _ _ _ _=>by kernel_rfl,Tryz.func146,Tryz.call146,by kernel_rfl⟩
theorem e147:FO 147 (Tryz.f147,B147):=⟨fun _ _ _ _=>by kernel_rfl,Tryz.func147,Tryz.call147,by kernel_rfl⟩
theorem e148:FO 148 (Tryz.f148,B148):=⟨fun _ _ _ _=>by kernel_rfl,Tryz.func148,Tryz.call148,by kernel_rfl⟩
theorem e149:FO 149 (Tryz.f149,B149):=⟨fun _ _ _ _=>by kernel_rfl,Tryz.func149,Tryz.call149,by kernel_rfl⟩
theorem e150:FO 150 (Tryz.f150,B150):=⟨fun _ _ _ _=>by kernel_rfl,Tryz.func150,Tryz.call150,by kernel_rfl⟩
theorem e151:FO 151 (Tryz.f151,B151):=⟨fun _ _ _ _=>by kernel_rfl,Tryz.func151,Tryz.call151,by kernel_rfl⟩
theorem e152:FO 152 (Tryz.f152,B152):=⟨fun _ _ _ _=>by kernel_rfl,Tryz.func152,Tryz.call152,by kernel_rfl⟩
theorem e154:FO 154 (Tryz.f154,B154):=⟨fun _ _ _ _=>by kernel_rfl,Tryz.func154,Tryz.call154,by kernel_rfl⟩
theorem e155:FO 155 (Tryz.f155,B155):=⟨fun _ _ _ _=>by kernel_rfl,Tryz.func155,Tryz.call155,by kernel_rfl⟩
theorem e156:FO 156 (Tryz.f156,B156):=⟨fun _ _ _ _=>by kernel_rfl,Tryz.func156,Tryz.call156,by kernel_rfl⟩
theorem e157:FO 157 (Tryz.f157,B157):=⟨fun _ _ _ _=>by kernel_rfl,Tryz.func157,Tryz.call157,by kernel_rfl⟩
theorem e158:FO 158 (Tryz.f158,B158):=⟨fun _ _ _ _=>by kernel_rfl,Tryz.func158,Tryz.call158,by kernel_rfl⟩
theorem e159:FO 159 (Tryz.f159,B159):=⟨fun _ _ _ _=>by kernel_rfl,Tryz.func159,Tryz.call159,by kernel_rfl⟩
theorem e160:FO 160 (Tryz.f160,B160):=⟨fun _ _ _ _=>by kernel_rfl,Tryz.func160,Tryz.call160,by kernel_rfl⟩
theorem e161:FO 161 (Tryz.f161,B161):=⟨fun _ _ _ _=>by kernel_rfl,Tryz.func161,Tryz.call161,by kernel_rfl⟩
theorem e162:FO 162 (Tryz.f162,B162):=⟨fun _ _ _ _=>by kernel_rfl,Tryz.func162,Tryz.call162,by kernel_rfl⟩
theorem e163:FO 163 (Tryz.f163,B163):=⟨fun _ _ _ _=>by kernel_rfl,Tryz.func163,Tryz.call163,by kernel_rfl⟩
theorem e164:FO 164 (Tryz.f164,B164):=⟨fun _ _ _ _=>by kernel_rfl,Tryz.func164,Tryz.call164,by kernel_rfl⟩
theorem e165:FO 165 (Tryz.f165,B165):=⟨fun _ _ _ _=>by kernel_rfl,Tryz.func165,Tryz.call165,by kernel_rfl⟩
theorem e166:FO 166 (Tryz.f166,B166):=⟨fun _ _ _ _=>by kernel_rfl,Tryz.func166,Tryz.call166,by kernel_rfl⟩
theorem e167:FO 167 (Tryz.f167,B167):=⟨fun _ _ _ _=>by kernel_rfl,Tryz.func167,Tryz.call167,by kernel_rfl⟩
theorem e168:FO 168 (Tryz.f168,B168):=⟨fun _ _ _ _=>by kernel_rfl,Tryz.func168,Tryz.call168,by kernel_rfl⟩
theorem e169:FO 169 (Tryz.f169,B169):=⟨fun _ _ _ _=>by kernel_rfl,Tryz.func169,Tryz.call169,by kernel_rfl⟩
theorem e170:FO 170 (Tryz.f170,B170):=⟨fun _ _ _ _=>by kernel_rfl,Tryz.func170,Tryz.call170,by kernel_rfl⟩
theorem e171:FO 171 (Tryz.f171,B171):=⟨fun _ _ _ _=>by kernel_rfl,Tryz.func171,Tryz.call171,by kernel_rfl⟩
theorem e172:FO 172 (Tryz.f172,B172):=⟨fun _ _ _ _=>by kernel_rfl,Tryz.func172,Tryz.call172,by kernel_rfl⟩
theorem e173:FO 173 (Tryz.f173,B173):=⟨fun _ _ _ _=>by kernel_rfl,Tryz.func173,Tryz.call173,by kernel_rfl⟩
theorem e174:FO 174 (Tryz.f174,B174):=⟨fun _ _ _ _=>by kernel_rfl,Tryz.func174,Tryz.call174,by kernel_rfl⟩
theorem e175:FO 175 (Tryz.f175,B175):=⟨fun _ _ _ _=>by kernel_rfl,Tryz.func175,Tryz.call175,by kernel_rfl⟩
theorem e176:FO 176 (Tryz.f176,B176):=⟨fun _ _ _ _=>by kernel_rfl,Tryz.func176,Tryz.call176,by kernel_rfl⟩
theorem e177:FO 177 (Tryz.f177,B177):=⟨fun _ _ _ _=>by kernel_rfl,Tryz.func177,Tryz.call177,by kernel_rfl⟩
theorem l0:LO d0:=fun _ _ _ _=>by kernel_rfl
theorem l1:LO d1:=fun _ _ _ _=>by kernel_rfl
theorem l2:LO d2:=fun _ _ _ _=>by kernel_rfl
theorem l3:LO d3:=fun _ _ _ _=>by kernel_rfl
theorem l4:LO d4:=fun _ _ _ _=>by kernel_rfl
theorem l5:LO d5:=fun _ _ _ _=>by kernel_rfl
theorem l6:LO d6:=fun _ _ _ _=>by kernel_rfl
theorem l7:LO d7:=fun _ _ _ _=>by kernel_rfl
theorem l8:LO d8:=fun _ _ _ _=>by kernel_rfl
theorem l9:LO d9:=fun _ _ _ _=>by kernel_rfl
theorem l10:LO d10:=fun _ _ _ _=>by kernel_rfl
theorem l11:LO d11:=fun _ _ _ _=>by kernel_rfl
theorem l12:LO d12:=fun _ _ _ _=>by kernel_rfl
theorem l13:LO d13:=fun _ _ _ _=>by kernel_rfl
theorem l14:LO d14:=fun _ _ _ _=>by kernel_rfl
theorem l15:LO d15:=fun _ _ _ _=>by kernel_rfl
theorem l16:LO d16:=fun _ _ _ _=>by kernel_rfl
theorem l17:LO d17:=fun _ _ _ _=>by kernel_rfl
theorem l18:LO d18:=fun _ _ _ _=>by kernel_rfl
theorem l19:LO d19:=fun _ _ _ _=>by kernel_rfl
theorem l20:LO d20:=fun _ _ _ _=>by kernel_rfl
theorem l21:LO d21:=fun _ _ _ _=>by kernel_rfl
theorem l22:LO d22:=fun _ _ _ _=>by kernel_rfl
theorem l23:LO d23:=fun _ _ _ _=>by kernel_rfl
theorem l24:LO d24:=fun _ _ _ _=>by kernel_rfl
theorem l25:LO d25:=fun _ _ _ _=>by kernel_rfl
theorem l26:LO d26:=fun _ _ _ _=>by kernel_rfl
theorem l27:LO d27:=fun _ _ _ _=>by kernel_rfl
theorem l28:LO d28:=fun _ _ _ _=>by kernel_rfl
theorem l29:LO d29:=fun _ _ _ _=>by kernel_rfl
theorem l30:LO d30:=fun _ _ _ _=>by kernel_rfl
theorem l31:LO d31:=fun _ _ _ _=>by kernel_rfl
theorem l32:LO d32:=fun _ _ _ _=>by kernel_rfl
theorem l33:LO d33:=fun _ _ _ _=>by kernel_rfl
theorem l34:LO d34:=fun _ _ _ _=>by kernel_rfl
theorem l35:LO d35:=fun _ _ _ _=>by kernel_rfl
theorem l36:LO d36:=fun _ _ _ _=>by kernel_rfl
theorem l37:LO d37:=fun _ _ _ _=>by kernel_rfl
theorem l38:LO d38:=fun _ _ _ _=>by kernel_rfl
theorem l39:LO d39:=fun _ _ _ _=>by kernel_rfl
theorem l40:LO d40:=fun _ _ _ _=>by kernel_rfl
theorem l41:LO d41:=fun _ _ _ _=>by kernel_rfl
theorem l42:LO d42:=fun _ _ _ _=>by kernel_rfl
theorem l43:LO d43:=fun _ _ _ _=>by kernel_rfl
theorem l44:LO d44:=fun _ _ _ _=>by kernel_rfl
theorem l45:LO d45:=fun _ _ _ _=>by kernel_rfl
theorem l46:LO d46:=fun _ _ _ _=>by kernel_rfl
theorem l47:LO d47:=fun _ _ _ _=>by kernel_rfl
theorem l48:LO d48:=fun _ _ _ _=>by kernel_rfl
theorem rtabF_all {f:Nat} {e:Func×Body}:rtabF f=some e->FO f e:=(rN (rN (rN (rN (rN (rN (rL e5) (rN (rL e10) (rL e19))) (rN (rN (rL e20) (rL e21)) (rN (rL e44) (rL e45)))) (rN (rN (rN (rL e56) (rL e57)) (rN (rL e58) (rL e59))) (rN (rN (rL e61) (rL e62)) (rN (rL e68) (rL e69))))) (rN (rN (rN (rL e70) (rN (rL e71) (rL e72))) (rN (rN (rL e73) (rL e74)) (rN (rL e75) (rL e78)))) (rN (rN (rN (rL e79) (rL e80)) (rN (rL e81) (rL e82))) (rN (rN (rL e83) (rL e84)) (rN (rL e85) (rL e86)))))) (rN (rN (rN (rN (rL e87) (rN (rL e88) (rL e89))) (rN (rN (rL e90) (rL e91)) (rN (rL e92) (rL e93)))) (rN (rN (rN (rL e94) (rL e95)) (rN (rL e96) (rL e97))) (rN (rN (rL e98) (rL e99)) (rN (rL e100) (rL e101))))) (rN (rN (rN (rL e102) (rN (rL e103) (rL e104))) (rN (rN (rL e105) (rL e106)) (rN (rL e107) (rL e108)))) (rN (rN (rN (rL e109) (rL e110)) (rN (rL e111) (rL e112))) (rN (rN (rL e113) (rL e114)) (rN (rL e115) (rL e116))))))) (rN (rN (rN (rN (rN (rL e117) (rN (rL e118) (rL e119))) (rN (rN (rL e120) (rL e121)) (rN (rL e122) (rL e123)))) (rN (rN (rN (rL e124) (rL e125)) (rN (rL e126) (rL e127))) (rN (rN (rL e128) (rL e129)) (rN (rL e130) (rL e131))))) (rN (rN (rN (rL e132) (rN (rL e133) (rL e134))) (rN (rN (rL e135) (rL e136)) (rN (rL e137) (rL e138)))) (rN (rN (rN (rL e139) (rL e140)) (rN (rL e141) (rL e142))) (rN (rN (rL e143) (rL e144)) (rN (rL e145) (rL e146)))))) (rN (rN (rN (rN (rL e147) (rN (rL e148) (rL e149))) (rN (rN (rL e150) (rL e151)) (rN (rL e152) (rL e154)))) (rN (rN (rN (rL e155) (rL e156)) (rN (rL e157) (rL e158))) (rN (rN (rL e159) (rL e160)) (rN (rL e161) (rL e162))))) (rN (rN (rN (rL e163) (rN (rL e164) (rL e165))) (rN (rN (rL e166) (rL e167)) (rN (rL e168) (rL e169)))) (rN (rN (rN (rL e170) (rL e171)) (rN (rL e172) (rL e173))) (rN (rN (rL e174) (rL e175)) (rN (rL e176) (rL e177))))))))
theorem rtabL_ok {f:Nat} {e:(Code×Cx)×Body}:rtabL f=some e->LO e:=(rN (rN (rN (rN (rN (rL (R:=fun _=>LO) l0) (rN (rL (R:=fun _=>LO) l1) (rL (R:=fun _=>LO) l2))) (rN (rL (R:=fun _=>LO) l3) (rN (rL (R:=fun _=>LO) l4) (rL (R:=fun _=>LO) l5)))) (rN (rN (rL (R:=fun _=>LO) l6) (rN (rL (R:=fun _=>LO) l7) (rL (R:=fun _=>LO) l8))) (rN (rL (R:=fun _=>LO) l9) (rN (rL (R:=fun _=>LO) l10) (rL (R:=fun _=>LO) l11))))) (rN (rN (rN (rL (R:=fun _=>LO) l12) (rN (rL (R:=fun _=>LO) l13) (rL (R:=fun _=>LO) l14))) (rN (rL (R:=fun _=>LO) l15) (rN (rL (R:=fun _=>LO) l16) (rL (R:=fun _=>LO) l17)))) (rN (rN (rL (R:=fun _=>LO) l18) (rN (rL (R:=fun _=>LO) l19) (rL (R:=fun _=>LO) l20))) (rN (rL (R:=fun _=>LO) l21) (rN (rL (R:=fun _=>LO) l22) (rL (R:=fun _=>LO) l23)))))) (rN (rN (rN (rN (rL (R:=fun _=>LO) l24) (rN (rL (R:=fun _=>LO) l25) (rL (R:=fun _=>LO) l26))) (rN (rL (R:=fun _=>LO) l27) (rN (rL (R:=fun _=>LO) l28) (rL (R:=fun _=>LO) l29)))) (rN (rN (rL (R:=fun _=>LO) l30) (rN (rL (R:=fun _=>LO) l31) (rL (R:=fun _=>LO) l32))) (rN (rL (R:=fun _=>LO) l33) (rN (rL (R:=fun _=>LO) l34) (rL (R:=fun _=>LO) l35))))) (rN (rN (rN (rL (R:=fun _=>LO) l36) (rN (rL (R:=fun _=>LO) l37) (rL (R:=fun _=>LO) l38))) (rN (rL (R:=fun _=>LO) l39) (rN (rL (R:=fun _=>LO) l40) (rL (R:=fun _=>LO) l41)))) (rN (rN (rL (R:=fun _=>LO) l42) (rN (rL (R:=fun _=>LO) l43) (rL (R:=fun _=>LO) l44))) (rN (rN (rL (R:=fun _=>LO) l45) (rL (R:=fun _=>LO) l46)) (rN (rL (R:=fun _=>LO) l47) (rL (R:=fun _=>LO) l48)))))))
theorem rtab_ok:TabsOk rtab tyTab:=⟨fun h=>(rtabF_all h).1,rtabL_ok⟩
theorem rtabF_fn {f:Nat} {e:Func×Body} (h:rtabF f=some e):Tryz.prog.funcs[f]? = some e.1∧HasBody Tryz.prog f∧okF y e.1=true:=(rtabF_all h).2
end
end Go.Gx
end
section
namespace Go.Gx
open Go Go.Sx
section
variable {P:Program} {w0:Base} {tb:TB}
theorem callOk_none:CallOk P w0 (fun _ _ _=>none):=fun f us H g H' h=>by cases h
theorem loopOk_none:LoopOk P w0 tb (fun _ _ _ _=>none):=fun b cx vs H out h=>by cases h
theorem evF_ok' {ch:CH} {lp:LH} (hT:TabOk P tb) (hm:P.follows .mixedOrders=true) (hcall:∀w0,CallOk P w0 ch) (hloop:LoopOk P w0 tb lp) {f:Nat} {fn:Func} {us:List GV} {H:GH} {out:Out} (h1:P.funcs[f]? = some fn) (hok:okF tb fn=true) (h:evF tb ch lp fn us H=some out) (he:out.e = .ret) {ρ:Rho} {w:World} {vs:List Value} (R:Rel w0 ρ H w) (hr:RlL ρ us vs):
  Calls P f vs.toArray w fun e w'=>∃v ρ',e = .returned v∧ρ.le ρ'∧Rel w0 ρ' out.H w'∧Rl ρ' (pack out.vs) v:=by
 obtain⟨h3,h4⟩:=okF_spec hok
 obtain⟨body,hb,h⟩:=ob_some.1 (show ob fn.body _=some out from h)
 obtain⟨σ,hσ,h⟩:=unpackL_some h
 rw[List.range_eq_range']at hσ
 have hlen:=args_len hσ
 have hvl:vs.length<=fn.ntmps:=by rw[<-hr.len,hlen];exact h4
 refine calls_of_wpr h1 hb ?_
 have F:FrOk ρ fn.ntmps σ {tmps:=vs.toArray++Array.replicate (fn.ntmps - vs.toArray.size) undef,defers:=[]}:=by
  refine args_ok rfl (by simp;omega) hr (fun j v hv=> ?_) hσ
  have hlt:=getElem?_lt hv
  rw[Nat.zero_add,Array.getElem?_append_left (by simpa using hlt)]
  simpa using hv
 refine evC_ok hT hm hcall hloop body _ _ _ ⟨σ,H⟩ out ρ _ w _ (h3 body hb) h F R ⟨fun s' ρ' a' w' hk hle' F' R'=> ?_,fun id s' ρ' a' w' hk hle' F' R'=> ?_,fun s' ρ' a' w' hk hle' F' R'=> ?_⟩
 ·obtain⟨e1,v,hv,hres⟩:=retR_ok (fn:=fn) hT rfl F' R' hk
  exact Sx.body_end (.inr rfl) F'.defers hres ⟨v,ρ',rfl,hle',by rw[e1];exact R',hv⟩
 ·have:=exitOut_e hk
  rw[he]at this;cases this
 ·obtain⟨e1,v,hv,hres⟩:=retR_ok (fn:=fn) hT rfl F' R' hk
  exact Sx.body_end (.inl rfl) F'.defers hres ⟨v,ρ',rfl,hle',by rw[e1];exact R',hv⟩
noncomputable def chOne (tb:TB) (f:Nat) (fn:Func):CH:=fun g us H=>bif Nat.beq g f then resOR (evF tb (fun _ _ _=>none) (fun _ _ _ _=>none) fn us H)else none
theorem chOne_ok (hT:TabOk P tb) (hm:P.follows .mixedOrders=true) {f:Nat} {fn:Func} (h1:P.funcs[f]? = some fn) (hb:HasBody P f) (hok:okF tb fn=true):CallOk P w0 (chOne tb f fn):=fun g us H x H' h ρ w vs R hr=>by
 unfold chOne at h
 cases h2:Nat.beq g f with
 |false=>rw[h2]at h;cases h
 |true=>
 rw[h2]at h
 have h2:=Nat.eq_of_beq_eq_true h2
 subst h2
 replace h:resOR (evF tb (fun _ _ _=>none) (fun _ _ _ _=>none) fn us H)=some (x,H'):=h
 unfold resOR at h
 obtain⟨o,h3,h4⟩:=ob_some.1 h
 cases he:o.e with
 |normal=>rw[he]at h4;cases h4
 |exit id=>rw[he]at h4;cases h4
 |ret=>
  rw[he]at h4;cases h4
  exact .inr ⟨hb _ w,evF_ok' hT hm (fun _=>callOk_none) loopOk_none h1 hok h3 he R hr⟩
theorem wpSIn_rec {id:Nat} {o:Oper} {l:List Oper} {Q:Exit->Act->List Frame->World->Prop} {a:Act} {cs:List Frame} {w:World} (hnd:l.all noDefer=true) (hg:o.guard=none) (hrun:(execOp a.eval o).run P w = .ok .recover w)
  (hrec:recoverD cs=none) (h:Sx.wpList P (o::l).toArray (fun e a' w'=>Q e a' cs w') l (a.put o.dst .nilIface) w):(Code.region id (o::l).toArray false).wpSIn (FR none) 0 P Q a cs w:=by
 intro b k hb hro hF hroom
 have ho:(o::l).toArray[0]? = some o:=by simp
 obtain⟨e,a',w',hq,harr⟩:=wp_opsIn (F:=FR none) (n:=0) (Q:=fun e a' w'=>Q e a' cs w') (ops:=(o::l).toArray) (List.range' 1 l.length) (a.put o.dst .nilIface) w
  (by rw[wpOpsIn_eq_wpListIn l 1 (by intro j;simp[Nat.add_comm 1 j])];exact Sx.wpList_in l _ w hnd h) b k cs hro hF hroom
 have hw:Region.wanted o (yielded (o::l).toArray a.tmps)=true:=by simp[Region.wanted,hg]
 have h0:(lone (b.atR a (.inRegion (o::l).toArray (0::List.range' 1 l.length)::k)) cs w).fenced P (FR none):=fenced_oper hF hroom ho (fun _ _=>trivial)
 have hg':=stepGR_op (P:=P) (b:=b) (k:=k) (cs:=cs) (w:=w) (rest:=List.range' 1 l.length) ho hw
 rw[hro,Oper.semAt_none]at hg'
 have hfin:∀v,(b.atR a (.inRegion (o::l).toArray (0::List.range' 1 l.length)::k)).finish v=b.atR (a.put o.dst v) (.inRegion (o::l).toArray (List.range' 1 l.length)::k):=by
  intro v;rw[Frame.finish_atR,ho];rfl
 have hk:(b.atR a (.inRegion (o::l).toArray (0::List.range' 1 l.length)::k)).kind = .deferred:=hb
 have htr:=tryRecover_deferred hk cs
 have hr:List.range (o::l).toArray.size=0::List.range' 1 l.length:=by simp[List.range_eq_range',List.range'_succ]
 have hs:=stepR_region (P:=P) (b:=b) (a:=a) (k:=k) (cs:=cs) (w:=w) (id:=id) (ops:=(o::l).toArray)
 rw[hr]at hs
 refine⟨e,a',cs,w',rfl,hq,.of_steps (.head (fenced_calm hF hroom rfl) hs (.one h0 (step_lone_go ?_))) harr⟩
 rw[hg',<-hfin]
 simp only[Frame.atR,hro]at htr ⊢
 simp[stepG.apply,hrun,htr,hrec]
theorem caught_ok {ch:CH} {lp:LH} (hT:TabOk P tb) (hm:P.follows .mixedOrders=true) {f:Nat} {fn:Func} {id m d:Nat} {o:Oper} {l:List Oper} {rest:Code} {cx:Cx} {out:Out} {args:Array Value} {w:World}
  (hcall:∀w0,CallOk P w0 ch) (hloop:LoopOk P ⟨w,fun _=>False⟩ tb lp) (hf:P.funcs[f]? = some fn) (hb:fn.body=some (.seq (.region id (o::l).toArray false) rest)) (hg:o.guard=none) (hd:o.dst=some d) (hdn:d<fn.ntmps)
  (hrun:∀ρ w,(execOp ρ o).run P w = .ok .recover w) (hl:l.all (okOp fn.ntmps)=true) (hr:okC tb fn.ntmps rest=true) (hres:fn.results = #[]) (hsz:args.size<=fn.ntmps)
  (h:evOps tb ch (o::l) (evC tb ch lp rest m cx (retN [])) l ⟨[(d,.inil)],H0⟩=some out) (he:out.e = .normal):
  CallsDIn (FR none) 0 P f args .returning w fun e u' w'=>∃v,e = .returned v∧u' = .returning∧Ext w w':=by
 have hnd:l.all noDefer=true:=List.all_eq_true.2 fun o hmo=>(okOp_spec (List.all_eq_true.1 hl o hmo)).1
 refine callsDIn_of_wpSIn hf hb trivial fun c₀ cs hu=> ?_
 have hrec:recoverD (c₀::cs)=none:=by simp[recoverD,hu]
 refine wpSIn_seq (wpSIn_rec hnd hg (hrun _ _) hrec ?_)
 have F:FrOk (fun _=>none) fn.ntmps [(d,.inil)] (({tmps:=args++Array.replicate (fn.ntmps - args.size) undef,defers:=[]}:Act).put o.dst .nilIface):=by
  rw[hd]
  refine FrOk.put ⟨rfl,by simp;omega,fun t g hg=>(by cases hg)⟩ hdn ?_
  exact .inil
 refine evOps_ok hT (hcall ⟨w,fun _=>False⟩) l ⟨[(d,.inil)],H0⟩ _ _ w hl F (Rel.start w _) h fun s' ρ' a' w' hk hle' F' R'=> ?_
 refine wpSIn_of_wpIn rfl ?_
 refine evC_ok hT hm hcall hloop rest _ _ _ s' out ρ' a' w' _ hr hk F' R' ⟨fun s2 ρ2 a2 w2 hk2 hle2 F2 R2=> ?_,fun id s2 ρ2 a2 w2 hk2 hle2 F2 R2=> ?_,fun s2 ρ2 a2 w2 hk2 hle2 F2 R2=> ?_⟩
 ·refine⟨F2.defers,c₀.mode,rfl,.tuple #[],?_,_,rfl,hu,R2.ext.ext⟩
  simp[results,hres]
 ·have:=exitOut_e hk2
  rw[he]at this;cases this
 ·have:=retR_e hk2
  rw[he]at this;cases this
theorem wpl_val {o:Oper} {l:List Oper} {ops:Array Oper} {Q:Exit->Act->World->Prop} {a:Act} {w w':World} {v:Value} (hg:o.guard=none) (hr:(execOp a.eval o).run P w = .ok (.value v) w') (h:Sx.wpList P ops Q l (a.put o.dst v) w'):Sx.wpList P ops Q (o::l) a w:=by
 unfold Sx.wpList
 rw[if_pos (by simp[Region.wanted,hg])]
 exact .inl (by simp only[Oper.wp,hr,Oper.upon];exact h)
theorem wpl_skip {o:Oper} {l:List Oper} {ops:Array Oper} {Q:Exit->Act->World->Prop} {a:Act} {w w':World} (hg:o.guard=none) (hr:(execOp a.eval o).run P w = .ok .skip w') (h:Sx.wpList P ops Q l (a.put o.dst undef) w'):Sx.wpList P ops Q (o::l) a w:=by
 unfold Sx.wpList
 rw[if_pos (by simp[Region.wanted,hg])]
 exact .inl (by simp only[Oper.wp,hr,Oper.upon];exact h)
theorem wpl_enter {o:Oper} {l:List Oper} {ops:Array Oper} {Q:Exit->Act->World->Prop} {a:Act} {w:World} {f:Nat} {args:Array Value} {S:Value->World->Prop} (hg:o.guard=none) (hr:(execOp a.eval o).run P w = .ok (.enter f args) w)
  (hc:Calls P f args w fun e w'=>∃v,e = .returned v∧S v w') (h:∀v w',S v w'->Sx.wpList P ops Q l (a.put o.dst v) w'):Sx.wpList P ops Q (o::l) a w:=by
 unfold Sx.wpList
 rw[if_pos (by simp[Region.wanted,hg])]
 refine .inl ?_
 simp only[Oper.wp,hr,Oper.upon]
 refine hc.mono ?_
 rintro e w' ⟨v,rfl,hs⟩
 exact h v w' hs
theorem cat_ok (hT:TabOk P tb) {c cc T1 T2 i0 i1 i2 i3 y0 y1 y2 y3 y4 y5 y6 y7:Nat} {p0 p1 p2 p3 p4 p5 p6 p7:String} {e0 e1 e2 e3 e4 e5 e6 e7:Array Edge} {fn:Func} (hf:P.funcs[c]? = some fn) (hbd:HasBody P c) (hcc:HasBody P cc)
  (hb:fn.body=some (.seq (.region i0 #[⟨some 2,.alloc T1,y0,p0,e0,none⟩,⟨some 3,.alloc T2,y1,p1,e1,none⟩] false)
   (.seq (.region i1 #[⟨some 4,.makeFunc (.func cc) #[] #[.tmp 2,.tmp 3],y2,p2,e2,none⟩,⟨none,.defer ⟨.value (.tmp 4),#[],#[]⟩,y3,p3,e3,none⟩] false)
   (.seq (.region i2 #[⟨some 5,.move (.tmp 0),y4,p4,e4,none⟩,⟨some 6,.call ⟨.value (.tmp 5),#[],#[]⟩,y5,p5,e5,none⟩] false)
   (.seq (.region i3 #[⟨none,.store T1 (.tmp 2) (.const (.int .i64 0)),y6,p6,e6,none⟩,⟨none,.store T2 (.tmp 3) (.const (.int .i64 0)),y7,p7,e7,none⟩] false) .ret)))))
  (hn:fn.ntmps=7) (hres:fn.results = #[.cell 2 T1,.cell 3 T2])
  (hA1:∀H,vAlloc tb T1 H=some (.ptr H.n 0,H.new (.cells [z64]))) (hA2:∀H,vAlloc tb T2 H=some (.ptr H.n 0,H.new (.cells [z64])))
  (hS1:∀H h c,GH.cells H h=some [c]->vStore tb T1 (.ptr h 0) z64 H=some (.un,H.set h (.cells [z64]))) (hS2:∀H h c,GH.cells H h=some [c]->vStore tb T2 (.ptr h 0) z64 H=some (.un,H.set h (.cells [z64])))
  (hL1:∀H h,GH.cells H h=some [z64]->vLoad tb T1 (.ptr h 0) H=some z64) (hL2:∀H h,GH.cells H h=some [z64]->vLoad tb T2 (.ptr h 0) H=some z64)
  (hdef:∀args w,args.size=2->CallsDIn (FR none) 0 P cc args .returning w fun e u' w'=>∃v,e = .returned v∧u' = .returning∧Ext w w')
  {ρ:Rho} {g:Nat} {us cs:List Value} {w:World} {H H':GH} {c1 c2:GV} (R:Rel w0 ρ H w) (hc:∀ρ' w',ρ.le ρ'->Rel w0 ρ' ((H.new (.cells [z64])).new (.cells [z64])) w'->∃x,CallSem P w0 ρ' g (us++cs) w' x H') (h1:H'.cells H.n=some [c1]) (h2:H'.cells (H.n+1)=some [c2]):
  CallSem P w0 ρ c [.func (.func g) us.toArray cs.toArray] w (.tup [z64,z64]) ((((H'.set H.n (.cells [z64])).set (H.n+1) (.cells [z64])).del H.n).del (H.n+1)):=by
 refine .inr ⟨hbd _ w,?_⟩
 refine callsFR' (r:=none) (n:=0) (callsIn_of_wp_defers hf hb trivial ?_)
 rw[hn]
 obtain⟨v1,w1,ρ1,hr1,hle1,R1,hv1⟩:=vAlloc_ok (P:=P) hT R (hA1 H)
 obtain⟨v2,w2,ρ2,hr2,hle2,R2,hv2⟩:=vAlloc_ok (P:=P) hT R1 (hA2 _)
 obtain⟨x,hx⟩:=hc ρ2 w2 (Rho.le_trans hle1 hle2) R2
 refine wpIn_seq (wpr_region_lit rfl ?_)
 refine wpl_val rfl (v:=v1) (w':=w1) (by simp[execOp,hr1]) ?_
 refine wpl_val rfl (v:=v2) (w':=w2) (by simp[execOp,hr2]) ?_
 show Code.wpIn (FR none) 0 P _ _ (⟨#[.func (.func g) us.toArray cs.toArray,undef,v1,v2,undef,undef,undef],[]⟩:Act) w2
 refine wpIn_seq (wpIn_region_lit ?_)
 refine wpListIn_plain rfl fun K hK=>⟨fun _ _=>trivial,?_⟩
 have hm:(Oper.semAt (FR none).round (⟨#[.func (.func g) us.toArray cs.toArray,undef,v1,v2,undef,undef,undef],[]⟩:Act).eval ⟨some 4,.makeFunc (.func cc) #[] #[.tmp 2,.tmp 3],y2,p2,e2,none⟩).run P w2 = .ok (.value (.func (.func cc) #[] #[v1,v2])) w2:=by
  rw[show(FR none).round=none from rfl,Oper.semAt_none]
  simp[execOp,Instr.makeFunc,Act.eval]
 rw[hm]
 refine hK _ _ ?_
 show wpListIn _ _ _ _ _ _ (⟨#[.func (.func g) us.toArray cs.toArray,undef,v1,v2,.func (.func cc) #[] #[v1,v2],undef,undef],[]⟩:Act) w2
 refine wpListIn_plain rfl fun K hK=>⟨fun _ _=>trivial,?_⟩
 have hm:(Oper.semAt (FR none).round (⟨#[.func (.func g) us.toArray cs.toArray,undef,v1,v2,.func (.func cc) #[] #[v1,v2],undef,undef],[]⟩:Act).eval ⟨none,.defer ⟨.value (.tmp 4),#[],#[]⟩,y3,p3,e3,none⟩).run P w2 = .ok (.defer ⟨.fn (.func cc) #[v1,v2],#[]⟩) w2:=by
  rw[show(FR none).round=none from rfl,Oper.semAt_none]
  simp[execOp,resolve,Act.eval,Deferred.ofValue]
 rw[hm]
 refine hK _ _ ?_
 show Code.wpIn (FR none) 0 P _ _ (⟨#[.func (.func g) us.toArray cs.toArray,undef,v1,v2,.func (.func cc) #[] #[v1,v2],undef,undef],[⟨.fn (.func cc) #[v1,v2],#[]⟩]⟩:Act) w2
 refine wpIn_seq (wpr_region_lit rfl ?_)
 refine wpl_val rfl (v:= .func (.func g) us.toArray cs.toArray) (w':=w2) (by simp[execOp,Act.eval]) ?_
 show Sx.wpList _ _ _ _ (⟨#[.func (.func g) us.toArray cs.toArray,undef,v1,v2,.func (.func cc) #[] #[v1,v2],.func (.func g) us.toArray cs.toArray,undef],[⟨.fn (.func cc) #[v1,v2],#[]⟩]⟩:Act) w2
 have go:∀v w3 ρ3,ρ2.le ρ3->Rel w0 ρ3 H' w3->Code.wpIn (FR none) 0 P (.seq (.region i3 #[⟨none,.store T1 (.tmp 2) (.const (.int .i64 0)),y6,p6,e6,none⟩,⟨none,.store T2 (.tmp 3) (.const (.int .i64 0)),y7,p7,e7,none⟩] false) .ret) (bodyPostDIn (FR none) 0 P fn fun e w'=>∃v ρ',e = .returned v∧ρ.le ρ'∧Rel w0 ρ' ((((H'.set H.n (.cells [z64])).set (H.n+1) (.cells [z64])).del H.n).del (H.n+1)) w'∧Rl ρ' (.tup [z64,z64]) v) (⟨#[.func (.func g) us.toArray cs.toArray,undef,v1,v2,.func (.func cc) #[] #[v1,v2],.func (.func g) us.toArray cs.toArray,v],[⟨.fn (.func cc) #[v1,v2],#[]⟩]⟩:Act) w3:=by
  intro v w3 ρ3 hle3 R3
  have hz:∀ρ,Rl ρ z64 (.int .i64 0):=fun ρ=> .int _ _
  obtain⟨_,w4,ρ4,hr4,hle4,R4⟩:=vStore_ok (P:=P) (T:=T1) hT R3 ((hv1.le hle2).le hle3) (hz _) (hS1 _ _ _ h1)
  have h2':(H'.set H.n (.cells [z64])).cells (H.n+1)=some [c2]:=by
   rw[GH.cells_eq]at h2 ⊢
   rw[GH.get_set,if_neg (by omega)];exact h2
  obtain⟨_,w5,ρ5,hr5,hle5,R5⟩:=vStore_ok (P:=P) (T:=T2) hT R4 ((hv2.le hle3).le hle4) (hz _) (hS2 _ _ _ h2')
  refine wpIn_seq (wpr_region_lit rfl ?_)
  refine wpl_skip rfl (w':=w4) (by simp[execOp,Act.eval,hr4]) ?_
  refine wpl_skip rfl (w':=w5) (by simp[execOp,Act.eval,Act.put,hr5]) ?_
  refine wpIn_ret ?_
  show LeavesIn (FR none) 0 P fn #[.func (.func g) us.toArray cs.toArray,undef,v1,v2,.func (.func cc) #[] #[v1,v2],.func (.func g) us.toArray cs.toArray,v] _ [⟨.fn (.func cc) #[v1,v2],#[]⟩] .returning w5
  refine leavesIn_cons (f:=cc) (args:= #[v1,v2]) (by simp) (by simp[FR,Fence.wide]) (by simp[invoke,hcc _ w5]) (fun _ _=>trivial) ?_
  refine(hdef #[v1,v2] w5 rfl).mono ?_
  rintro e u' w6 ⟨x6,rfl,rfl,hext⟩
  have R6:=R5.ext' hext
  have F:FrOk ρ5 7 [(2,.ptr H.n 0),(3,.ptr (H.n+1) 0)] (⟨#[.func (.func g) us.toArray cs.toArray,undef,v1,v2,.func (.func cc) #[] #[v1,v2],.func (.func g) us.toArray cs.toArray,v],[]⟩:Act):=by
   refine⟨rfl,rfl,fun t g hg=> ?_⟩
   rw[glk_cons]at hg
   by_cases h2:t=2
   ·rw[if_pos h2]at hg;cases hg;rw[h2]
    exact(((hv1.le hle2).le hle3).le hle4).le hle5
   ·rw[if_neg h2,glk_cons]at hg
    by_cases h3:t=3
    ·rw[if_pos h3]at hg;cases hg;rw[h3]
     exact((hv2.le hle3).le hle4).le hle5
    ·rw[if_neg h3]at hg;cases hg
  have hres':retR tb ⟨fn.results.toList,0,[]⟩ ⟨[(2,.ptr H.n 0),(3,.ptr (H.n+1) 0)],(H'.set H.n (.cells [z64])).set (H.n+1) (.cells [z64])⟩=some ⟨.ret,[z64,z64],(H'.set H.n (.cells [z64])).set (H.n+1) (.cells [z64])⟩:=by
   rw[hres]
   have q1:vLoad tb T1 (.ptr H.n 0) ((H'.set H.n (.cells [z64])).set (H.n+1) (.cells [z64]))=some z64:=hL1 _ _ (by rw[GH.cells_eq,GH.get_set,if_neg (by omega),GH.get_set,if_pos rfl])
   have q2:vLoad tb T2 (.ptr (H.n+1) 0) ((H'.set H.n (.cells [z64])).set (H.n+1) (.cells [z64]))=some z64:=hL2 _ _ (by rw[GH.cells_eq,GH.get_set,if_pos rfl])
   show ob (ob (vLoad tb T1 (.ptr H.n 0) _) fun v=>ob (ob (vLoad tb T2 (.ptr (H.n+1) 0) _) fun v=>ob (some []) fun vs=>some (v::vs)) fun vs=>some (v::vs)) _=_
   rw[q1,q2];rfl
  obtain⟨_,v6,hv6,hr6⟩:=retR_ok (fn:=fn) (P:=P) hT rfl F R6 hres'
  exact⟨v6,hr6,v6,ρ5,rfl,Rho.le_trans hle1 (Rho.le_trans hle2 (Rho.le_trans hle3 (Rho.le_trans hle4 hle5))),(R6.del _).del _,hv6⟩
 rcases hx with⟨v,w3,ρ3,hr,hle3,R3,_⟩|⟨hr,hcalls⟩
 ·refine wpl_val rfl (v:=v) (w':=w3) (by simpa [execOp,resolve,Act.eval,Deferred.ofValue,invoke]using hr) ?_
  exact go v w3 ρ3 hle3 R3
 ·refine wpl_enter rfl (f:=g) (args:=(us++cs).toArray) (S:=fun v w'=>∃ρ',ρ2.le ρ'∧Rel w0 ρ' H' w') (by simpa [execOp,resolve,Act.eval,Deferred.ofValue,invoke]using hr) (hcalls.mono ?_) fun v w3 ⟨ρ3,hle3,R3⟩=>go v w3 ρ3 hle3 R3
  rintro e w' ⟨v,ρ',rfl,hle,R',_⟩
  exact⟨v,rfl,ρ',hle,R'⟩
end
end Go.Gx
end
section
namespace Go.Gx
open Go Go.Sx
noncomputable section
def idxB (n c:Nat) (len:Nat):Nat->Option Nat:=Nat.rec (motive:=fun _=>Nat->Option Nat) (fun _=>none) (fun _ ih i=>Bool.casesOn (motive:=fun _=>Option Nat) (Nat.beq (Nat.mod (Nat.shiftRight n (Nat.mul 8 i)) 256) c) (ih (Nat.succ i)) (some i)) len
def isU8 (k:IntKind):Bool:=match k with
 | .u8=>true
 |_=>false
def gexn (fx:Nat) (f:Nat) (us:List GV):Option GV:=bif Nat.beq f fx then List.casesOn (motive:=fun _=>Option GV) us none (fun a r=>List.casesOn (motive:=fun _=>Option GV) r none fun c r=>List.casesOn (motive:=fun _=>Option GV) r (ob a.asStr fun s=>ob c.asI fun p=>ob (asN p.2) fun k=>
 bif isU8 p.1 then(bif Nat.blt k 256 then Option.casesOn (motive:=fun _=>Option GV) (idxB s.1 k s.2 0) (some (.int .i64 (.negSucc 0))) (fun i=>some (.int .i64 (.ofNat i)))else none)else none) fun _ _=>none)else none
theorem idxB_eq (x:List UInt8) (c:Nat) (hc:c<256):∀k i,i+k=x.length->(match idxB (encB x) c k i with|none=>(-1:Int)|some j=>(j:Int))=(if Lib.indexByte (x.drop i) c.toUInt8 = -1 then -1 else Lib.indexByte (x.drop i) c.toUInt8+i)
 |0,i,h=>by
  rw[List.drop_of_length_le (by omega)]
  simp[idxB,Lib.indexByte]
 | k + 1, i, h => by
  have ih:=idxB_eq x c hc k (i+1) (by omega)
  have hi:i<x.length:=by omega
  have e:idxB (encB x) c (k+1) i=Bool.casesOn (motive:=fun _=>Option Nat) (Nat.beq (Nat.mod (Nat.shiftRight (encB x) (Nat.mul 8 i)) 256) c) (idxB (encB x) c k (i+1)) (some i):=rfl
  rw[e,encB_at x i hi,List.drop_eq_getElem_cons hi]
  have hcc:(x[i]).toNat=c↔x[i]=c.toUInt8:=by
   rw[<-UInt8.toNat_inj]
   have:c.toUInt8.toNat=c:=by simp[Nat.toUInt8];omega
   rw[this]
  unfold Lib.indexByte
  cases hb:Nat.beq (x[i]).toNat c with
  |true=>
   have:=hcc.1 (Nat.eq_of_beq_eq_true hb)
   simp[this]
  | false =>
   have hne:¬x[i]=c.toUInt8:=fun h'=>by
    have:=hcc.2 h'
    rw[this]at hb
    simp at hb
   have hge:=Lib.indexByte_ge (x.drop (i+1)) c.toUInt8
   simp only[beq_iff_eq,hne,if_false]
   rw[ih]
   by_cases h1:Lib.indexByte (x.drop (i+1)) c.toUInt8 = -1
   ·simp[h1]
   ·rw[if_neg h1,if_neg h1,if_neg (by omega)]
    push_cast;omega
section
variable {P:Program} {w0:Base}
theorem gexn_ok {fx:Nat} {fn:Func} (hf:P.funcs[fx]? = some fn) (hname:(fn.name == "runtime.NumGoroutine")=false) (hb:fn.body.isNone=true) (hn:Extern.findNext fn=none) (he:Extern.find fn=some Extern.BytealgIndexByte.indexByte)
  {f:Nat} {us:List GV} {g:GV} (h:gexn fx f us=some g) (ρ:Rho) (w:World) (vs:List Value) (H:GH) (R:Rel w0 ρ H w) (hr:RlL ρ us vs):CallSem P w0 ρ f vs w g H:=by
 unfold gexn at h
 replace h:=bif_some.1 h
 have h1:=Nat.eq_of_beq_eq_true h.1
 replace h:=h.2
 subst h1
 cases us with
 |nil=>cases h
 |cons a us=>
 cases us with
 |nil=>cases h
 |cons c us=>
 cases us with
 |cons _ _=>cases h
 |nil=>
 obtain⟨s,hs,h⟩:=ob_some.1 (show ob a.asStr _=some g from h)
 obtain⟨p,hp,h⟩:=ob_some.1 h
 obtain⟨k,hk,h⟩:=ob_some.1 h
 obtain⟨hu,h⟩:=bif_some.1 h
 obtain⟨hlt,h⟩:=bif_some.1 h
 obtain⟨v,vs,rfl,hv,hr⟩:=hr.of_cons
 obtain⟨v',vs,rfl,hv',hr⟩:=hr.of_cons
 rw[hr.of_nil]
 rw[asStr_eq hs]at hv
 rw[asI_eq hp]at hv'
 obtain⟨S,rfl,e1,e2⟩:=hv.str_inv
 have hv':=hv'.int_inv
 subst hv'
 have hpu:p.1 = .u8:=by cases hq:p.1<;>rw[hq]at hu<;>first|rfl|cases hu
 have hk':p.2=(k:Int):=asN_eq hk
 have hlt:k<256:=by simpa using hlt
 refine .inl ⟨.int .i64 (Lib.indexByte S.data.toList p.2.toNat.toUInt8),w,ρ,?_,Rho.le_refl _,R,?_⟩
 ·rw[run_callFunc_extern hf hname hb hn he,hpu,Lib.run_indexByteString]
  rfl
 ·have key:=idxB_eq (bytesOfV S) k hlt s.2 0 (by omega)
  rw[e1]at h
  rw[List.drop_zero]at key
  have e3:Lib.indexByte S.data.toList p.2.toNat.toUInt8=(match idxB (encB (bytesOfV S)) k s.2 0 with|none=>(-1:Int)|some j=>(j:Int)):=by
   rw[key,hk']
   have:bytesOfV S=S.data.toList:=rfl
   rw[this]
   simp only[Int.toNat_natCast]
   split
   ·assumption
   ·omega
  rw[e3]
  cases hx:idxB (encB (bytesOfV S)) k s.2 0 with
  |none=>rw[hx]at h;cases h;exact .int _ _
  |some j=>rw[hx]at h;cases h;exact .int _ _
end
end
end Go.Gx
end
section
namespace Go.Gx
open Go Go.Sx
noncomputable section
def decL {β:Type} (sz:Nat) (d:List GV->Option β) (n:Nat):List GV->Option (List β):=Nat.rec (motive:=fun _=>List GV->Option (List β)) (fun _=>some []) (fun _ ih cs=>ob (d (cs.take sz)) fun y=>ob (ih (cs.drop sz)) fun ys=>some (y::ys)) n
def decS {β:Type} (H:GH) (sz:Nat) (d:List GV->Option β) (v:GV):Option (List β):=ob (content H sz v) fun p=>bif Nat.ble p.1 1099511627776 then decL sz d p.1 p.2 else none
def dI (k:IntKind) (cs:List GV):Option Int:=List.casesOn (motive:=fun _=>Option Int) cs none fun c r=>List.casesOn (motive:=fun _=>Option Int) r (ob c.asI fun p=>bif decide (p.1=k)then some p.2 else none) fun _ _=>none
def dP {α β:Type} (n:Nat) (d:List GV->Option α) (e:List GV->Option β) (cs:List GV):Option (α×β):=ob (d (cs.take n)) fun x=>ob (e (cs.drop n)) fun y=>some (x,y)
def dS {β:Type} (H:GH) (sz:Nat) (d:List GV->Option β) (cs:List GV):Option (List β):=List.casesOn (motive:=fun _=>Option (List β)) cs none fun c r=>List.casesOn (motive:=fun _=>Option (List β)) r (decS H sz d c) fun _ _=>none
end
section
variable {P:Program} {w0:Base} {w:World} {ρ:Rho} {H:GH}
def All (_:Nat):Prop:=True
def Reads {α β:Type} (ρ:Rho) (w:World) (d:List GV->Option β) (r:Rep α) (er:α->β):Prop:=∀gs vs y,RlL ρ gs vs->d gs=some y->gs.length=r.sz->∃z,er z=y∧r.R w All vs z
theorem Reads.int (k:IntKind):Reads ρ w (dI k) (Rep.int k) id:=fun gs vs y hr h _=>by
 cases gs with
 |nil=>cases h
 |cons c gs=>
 cases gs with
 |cons _ _=>cases h
 |nil=>
 obtain⟨p,hp,h⟩:=ob_some.1 (show ob c.asI _=some y from h)
 obtain⟨hk,h⟩:=bif_some.1 h
 cases h
 obtain⟨v,vs,rfl,hv,hr⟩:=hr.of_cons
 rw[hr.of_nil]
 rw[asI_eq hp]at hv
 rw[hv.int_inv]
 have hk:=of_decide_eq_true hk
 exact⟨p.2,rfl,by rw[hk];rfl⟩
theorem Reads.pair {α β α' β':Type} {d:List GV->Option α'} {e:List GV->Option β'} {r:Rep α} {s:Rep β} {er:α->α'} {es:β->β'} (h1:Reads ρ w d r er) (h2:Reads ρ w e s es):Reads ρ w (dP r.sz d e) (Rep.pair r s) (fun z=>(er z.1,es z.2)):=fun gs vs y hr h hl=>by
 obtain⟨x,hx,h⟩:=ob_some.1 (show ob (d (gs.take r.sz)) _=some y from h)
 obtain⟨x',hx',h⟩:=ob_some.1 h
 cases h
 have hl:gs.length=r.sz+s.sz:=hl
 have hv:=hr.len
 obtain⟨z,rfl,hz⟩:=h1 _ (vs.take r.sz) _ (by simpa using hr.sub 0 r.sz) hx (by simp;omega)
 obtain⟨z',rfl,hz'⟩:=h2 _ (vs.drop r.sz) _ ⟨by simp;omega,fun i g v hg hv'=>by rw[List.getElem?_drop]at hg hv';exact hr.at' _ _ _ hg hv'⟩ hx' (by simp;omega)
 exact⟨(z,z'),rfl,_,_,(List.take_append_drop r.sz vs).symm,hz,hz'⟩
theorem decL_ok {α β:Type} {d:List GV->Option β} {r:Rep α} {er:α->β} (hd:Reads ρ w d r er) (b:Nat):∀(n:Nat) (cs:List GV) (ns:List Value) (off:Nat) (ys:List β),decL r.sz d n cs=some ys->RlL ρ cs ns->cs.length=n*r.sz->(∀(j:Nat) x,ns[j]? = some x->w.cell? ⟨b,off+j,none⟩=some x)->
  ∃zs:List α,zs.map er=ys∧zs.length=n∧∀(i:Nat) z,zs[i]? = some z->∃es,(∀(j:Nat) e,es[j]? = some e->w.cell? ⟨b,off+(i*r.sz+j),none⟩=some e)∧r.R w All es z
 |0,cs,ns,off,ys,h,hr,hl,hc=>by
  cases h
  exact⟨[],rfl,rfl,fun i z hz=>by simp at hz⟩
 | n + 1, cs, ns, off, ys, h, hr, hl, hc => by
  obtain⟨y,hy,h⟩:=ob_some.1 (show ob (d (cs.take r.sz)) (fun y=>ob (decL r.sz d n (cs.drop r.sz)) fun ys=>some (y::ys))=some ys from h)
  obtain⟨ys',hys,h⟩:=ob_some.1 h
  cases h
  rw[Nat.succ_mul]at hl
  have hv:=hr.len
  obtain⟨z,rfl,hz⟩:=hd _ (ns.take r.sz) _ (by simpa using hr.sub 0 r.sz) hy (by simp;omega)
  obtain⟨zs,rfl,hzl,hzs⟩:=decL_ok hd b n (cs.drop r.sz) (ns.drop r.sz) (off+r.sz) ys' hys ⟨by simp;omega,fun i g v hg hv'=>by rw[List.getElem?_drop]at hg hv';exact hr.at' _ _ _ hg hv'⟩ (by simp;omega) (fun j x hx=>by
   rw[List.getElem?_drop]at hx
   rw[Nat.add_assoc];exact hc _ _ hx)
  refine⟨z::zs,rfl,by simp[hzl],fun i z' hz'=> ?_⟩
  cases i with
  | zero =>
   simp at hz';subst hz'
   refine⟨_,fun j e he=> ?_,hz⟩
   rw[List.getElem?_take]at he
   by_cases hj:j<r.sz
   ·rw[if_pos hj]at he
    have:=hc j e he
    simpa using this
   ·rw[if_neg hj]at he;cases he
  |succ i=>
   simp at hz'
   obtain⟨es,h1,h2⟩:=hzs i z' hz'
   refine⟨es,fun j e he=> ?_,h2⟩
   have:=h1 j e he
   rw[Nat.succ_mul]
   rw[show off+(i*r.sz+r.sz+j)=off+r.sz+(i*r.sz+j) by omega]
   exact this
theorem content_slR (R:Rel w0 ρ H w) {v:GV} {V:Value} {sz:Nat} {p:Nat×List GV} (hv:Rl ρ v V) (h:content H sz v=some p):
  p.2.length=p.1*sz∧∃a cap,V = .slice a p.1 cap∧p.1<=cap∧(p.1=0∨∃b off ns,a=some ⟨b,off,none⟩∧RlL ρ p.2 ns∧∀(j:Nat) x,ns[j]? = some x->w.cell? ⟨b,off+j,none⟩=some x):=by
 obtain⟨ns,C⟩:=content_ok R hv h
 refine⟨by rw[C.rel.len,C.len],?_⟩
 obtain⟨base,cap,hV,hc,hh⟩:=C.val
 refine⟨base,cap,hV,hc,?_⟩
 rcases hh with⟨_,h0,_⟩|⟨A,rfl,hcell⟩
 ·exact .inl h0
 ·by_cases h0:p.1=0
  ·exact .inl h0
  ·refine .inr ?_
   unfold content at h
   cases hz:v.isSnil with
   |true=>rw[hz]at h;cases h;exact absurd rfl h0
   | false =>
    rw[hz]at h
    obtain⟨s,hs,h⟩:=ob_some.1 (show ob v.asS _=some p from h)
    rw[asS_eq hs,hV]at hv
    obtain⟨l,cap',A',hl,e,hc',ha⟩:=hv.sl_inv
    injection e with e1 e2 e3
    injection e1 with e1
    rcases ha with ha|⟨ha,_⟩
    ·omega
    ·rw[ha]at e1
     subst e1
     exact⟨l.b,l.off+s.2.1,ns,rfl,C.rel,fun j x hx=>by have:=hcell j x hx;rwa[add_none]at this⟩
theorem decS_ok {α β:Type} {d:List GV->Option β} {r:Rep α} {er:α->β} (R:Rel w0 ρ H w) (hd:Reads ρ w d r er) {v:GV} {V:Value} {ys:List β} (hv:Rl ρ v V) (h:decS H r.sz d v=some ys):∃zs:List α,zs.map er=ys∧SlR r w All V zs:=by
 obtain⟨p,hp,h⟩:=ob_some.1 (show ob (content H r.sz v) _=some ys from h)
 obtain⟨hle,h⟩:=bif_some.1 h
 have hle:p.1<=1099511627776:=by simpa using hle
 obtain⟨hlen,a,cap,rfl,hc,hh⟩:=content_slR R hv hp
 rcases hh with h0|⟨b,off,ns,rfl,hr,hcell⟩
 ·rw[h0]at h;cases h
  exact⟨[],rfl,a,cap,by rw[h0];rfl,by simp,.inl rfl⟩
 ·obtain⟨zs,rfl,hl,hz⟩:=decL_ok hd b p.1 p.2 ns off ys h hr hlen hcell
  exact⟨zs,rfl,some ⟨b,off,none⟩,cap,by rw[hl],by rw[hl];omega,.inr ⟨b,off,rfl,trivial,hz⟩⟩
theorem Reads.sl {α β:Type} {d:List GV->Option β} {r:Rep α} {er:α->β} (R:Rel w0 ρ H w) (hd:Reads ρ w d r er):Reads ρ w (dS H r.sz d) (Rep.sl r) (fun z=>z.2.map er):=fun gs vs y hr h hl=>by
 cases gs with
 |nil=>cases h
 |cons c gs=>
 cases gs with
 |cons _ _=>cases h
 |nil=>
 have h:decS H r.sz d c=some y:=h
 obtain⟨v,vs,rfl,hv,hr⟩:=hr.of_cons
 rw[hr.of_nil]
 obtain⟨zs,rfl,hz⟩:=decS_ok R hd hv h
 exact⟨(v,zs),rfl,rfl,hz⟩
end
end Go.Gx
end
section
namespace Go.Gx
open Go Go.Sx
noncomputable section
def impRows {α:Type} (sz:Nat) (g:α->List GV) (xss:List (List α)):GH->List GV×GH:=List.rec (motive:=fun _=>GH->List GV×GH) (fun H=>([],H)) (fun xs _ ih H=>let r:=ih (H.new (.cells (xs.flatMap g)));(.sl H.n 0 xs.length sz::r.1,r.2)) xss
end
section
variable {P:Program} {w0:Base} {w:World} {ρ:Rho} {H:GH}
def Apart (ρ:Rho) (H:GH) (B:Nat->Prop):Prop:=∀h o l,H.get h=some o->ρ h=some l->¬B l.b
theorem Apart.mono {B B':Nat->Prop} (h:Apart ρ H B) (hB:∀k,B' k->B k):Apart ρ H B':=fun a o l h1 h2 h3=>h a o l h1 h2 (hB _ h3)
theorem Apart.start (R:Rel w0 ρ H w):Apart ρ H (fun k=>w.heap.size<=k):=fun h o l hg hl hb=>by
 obtain⟨l',hl',_,ho⟩:=R.live h o hg
 rw[hl]at hl';cases hl'
 have:=ho.lt
 omega
theorem import_ok {α:Type} {e:Enc α} {xs:List α} {cs:List GV} {v:Value} {B F:Nat->Prop} (R:Rel w0 ρ H w) (A:Apart ρ H B) (hB:∀k,B k->w0.mine k) (hFB:∀k,F k->B k) (ha:ArR e w F v xs) (hne:xs≠[]) (hcs:RlL ρ cs (cellsOf e xs)):
  ∃ρ',ρ.le ρ'∧Rel w0 ρ' (H.new (.cells cs)) w∧Rl ρ' (.sl H.n 0 xs.length e.sz) v∧Apart ρ' (H.new (.cells cs)) (fun k=>B k∧¬F k):=by
 obtain⟨_,hone,hh⟩:=ha
 rcases hh with⟨_,h0⟩|⟨b,off,cap,T,cur,rfl,hF,hb,hc,hsz,hcells⟩
 ·exact absurd h0 hne
 have hlen:(cellsOf e xs).length=xs.length*e.sz:=by
  rw[<-hcells]
  simp
  have:xs.length*e.sz<=cap*e.sz:=Nat.mul_le_mul_right _ hc
  omega
 have hle:ρ.le (ρ.upd H.n ⟨b,off,cur.size,.cells cur T (0,0),.cells cs⟩):=Rho.le_upd (R.fresh _ (Nat.le_refl _))
 have hcap:xs.length*e.sz<=cap*e.sz:=Nat.mul_le_mul_right _ hc
 obtain⟨_,R'⟩:=R.new (o:= .cells cs) (l:=⟨b,off,cur.size,.cells cur T (0,0),.cells cs⟩) R.ext (fun h o' l' hg hl=>⟨rfl,fun e'=>A h o' l' hg hl (by rw[e'];exact hFB _ hF)⟩) (hB _ (hFB _ hF)) ⟨cur,T,hb,rfl,by
   show off+cs.length<=cur.size
   have:=hcs.len;omega,fun i g hg=>by
   obtain⟨x,hx,hr⟩:=hcs.get hg
   refine⟨x,?_,hr.le hle,List.all_eq_true.1 hone x (List.mem_of_getElem? hx)⟩
   rw[<-hcells,List.getElem?_take]at hx
   by_cases hi:i<xs.length*e.sz
   ·rw[if_pos hi,List.getElem?_drop,Array.getElem?_toList]at hx;exact hx
   ·rw[if_neg hi]at hx;cases hx⟩ hb
 refine⟨_,hle,R',.sl (by simp[Rho.upd];rfl) hc (.inr ⟨rfl,hsz⟩),fun h o l hg hl hk=> ?_⟩
 rw[GH.get_new]at hg
 by_cases e1:h=H.n
 ·rw[e1]at hl
  simp[Rho.upd]at hl
  subst hl
  exact hk.2 hF
 ·rw[if_neg e1]at hg
  simp only[Rho.upd,if_neg e1]at hl
  exact A h o l hg hl hk.1
theorem flat_ok {α:Type} {e:Enc α} {g:α->List GV} (hg:∀x,RlL ρ (g x) (e.enc x)):∀xs:List α,RlL ρ (xs.flatMap g) (cellsOf e xs)
 | []=> .nil
 |x::xs=>(hg x).append (flat_ok hg xs)
theorem impRows_ok {α:Type} {e:Enc α} {g:α->List GV} (hg:∀ρ x,RlL ρ (g x) (e.enc x)):∀(xss:List (List α)) (vs:List Value) (G:Nat->Nat->Prop) (B:Nat->Prop) (ρ:Rho) (H:GH),Rel w0 ρ H w->Apart ρ H B->(∀k,B k->w0.mine k)->vs.length=xss.length->
  (∀xs∈xss,xs≠[])->(∀i v xs,vs[i]? = some v->xss[i]? = some xs->ArR e w (G i) v xs)->(∀i k,G i k->B k)->(∀i j k,G i k->G j k->i=j)->
  ∃ρ',ρ.le ρ'∧Rel w0 ρ' (impRows e.sz g xss H).2 w∧RlL ρ' (impRows e.sz g xss H).1 vs∧Apart ρ' (impRows e.sz g xss H).2 (fun k=>B k∧∀i,¬G i k)
 | [],vs,G,B,ρ,H,R,A,hB,hl,_,h1,h2,h3=>by
  have:vs=[]:=List.eq_nil_of_length_eq_zero hl
  subst this
  exact⟨ρ,Rho.le_refl _,R,.nil,A.mono fun k hk=>hk.1⟩
 |xs::xss,[],G,B,ρ,H,R,A,hB,hl,_,h1,h2,h3=>by simp at hl
 |xs::xss,v::vs,G,B,ρ,H,R,A,hB,hl,hne,h1,h2,h3=>by
  obtain⟨ρ1,hle1,R1,hv,A1⟩:=import_ok R A hB (h2 0) (h1 0 v xs rfl rfl) (hne xs (by simp)) (flat_ok (hg ρ) xs)
  obtain⟨ρ2,hle2,R2,hvs,A2⟩:=impRows_ok hg xss vs (fun i=>G (i+1)) _ ρ1 _ R1 A1 (fun k hk=>hB k hk.1) (by simpa using hl) (fun y hy=>hne y (by simp[hy])) (fun i v' xs' hv' hx'=>h1 (i+1) v' xs' (by simpa using hv') (by simpa using hx')) (fun i k hk=>⟨h2 _ k hk,fun h0=>by have:=h3 _ _ k hk h0;omega⟩) (fun i j k hi hj=>by have:=h3 _ _ k hi hj;omega)
  refine⟨ρ2,Rho.le_trans hle1 hle2,R2,.cons (hv.le hle2) hvs,A2.mono fun k hk=>⟨⟨hk.1,hk.2 0⟩,fun i=>hk.2 (i+1)⟩⟩
theorem raw_cells:∀vs:List Value,cellsOf Enc.raw vs=vs
 | []=>rfl
 |v::vs=>by show v::cellsOf Enc.raw vs=_;rw[raw_cells vs]
end
end Go.Gx
end
section
namespace Go.Gx
open Go Go.Sx
section
variable {P:Program} {w0:Base} {w:World} {ρ:Rho} {H:GH}
theorem hook_plain {f:Nat} {vs:List Value} {L:List Fact} {V:Value} {g:GV} (hb:HasBody P f) (hm:Meets P f vs.toArray L (fun _:Unit=>V) (fun _ l=>l) (fun _ l=>l)) (R:Rel w0 ρ H w) (hL:∀h∈L,h.p w All) (hv:∀ρ,Rl ρ g V):CallSem P w0 ρ f vs w g H:=by
 refine .inr ⟨hb _ w,(hm w All hL).mono ?_⟩
 rintro e w' ⟨_,rfl,t⟩
 exact⟨V,ρ,rfl,Rho.le_refl _,R.ext' t.old.ext,hv _⟩
theorem hook_sl {α:Type} {e:Enc α} {g:α->List GV} (hg:∀ρ x,RlL ρ (g x) (e.enc x)) {f:Nat} {vs:List Value} {L:List Fact} {r:List α} (hne:r≠[]) (hb:HasBody P f) (hm:Meets P f vs.toArray L (fun x:Value=>x) (fun x l=>Ar e x r::l) (fun _ l=>l)) (R:Rel w0 ρ H w) (hL:∀h∈L,h.p w All):
  CallSem P w0 ρ f vs w (.sl H.n 0 r.length e.sz) (H.new (.cells (r.flatMap g))):=by
 refine .inr ⟨hb _ w,(hm w All hL).mono ?_⟩
 rintro e w' ⟨x,rfl,t⟩
 obtain⟨F,O,_⟩:=t.own
 have h0:ArR _ w' (F 0) x r:=O.res 0 _ rfl
 have R':=R.ext' t.old.ext
 have hF:∀i k,F i k->w.heap.size<=k:=fun i k hk=>by
  rcases(O.rng i k hk).1 with h|h
  ·exact h
  ·exact h.elim
 obtain⟨ρ1,hle,R1,hv,_⟩:=import_ok (B:=fun k=>w.heap.size<=k) R' (fun a o l h1 h2=>Apart.start R a o l h1 h2) (fun k hk=> .inl (Nat.le_trans R.ext.size hk)) (hF 0) h0 hne (flat_ok (hg ρ) r)
 exact⟨x,ρ1,rfl,hle,R1,hv⟩
theorem hook_graph {α β:Type} {e:Enc α} {g:α->List GV} {e':Enc β} {g':β->List GV} (hg:∀ρ x,RlL ρ (g x) (e.enc x)) (hg':∀ρ x,RlL ρ (g' x) (e'.enc x)) {f:Nat} {vs:List Value} {L:List Fact} {r:List α×List (List β)} (h1:r.1≠[]) (h2:r.2≠[]) (h3:∀xs∈r.2,xs≠[]) (hb:HasBody P f)
  (hm:Meets P f vs.toArray L (fun x:Value×Value×List Value=>Value.agg #[x.1,x.2.1]) (fun x l=>Ar e x.1 r.1::Ar Enc.raw x.2.1 x.2.2::Rws e' x.2.2 r.2::l) (fun _ l=>l)) (R:Rel w0 ρ H w) (hL:∀h∈L,h.p w All):
  CallSem P w0 ρ f vs w (.agg [.sl H.n 0 r.1.length e.sz,.sl (impRows e'.sz g' r.2 (H.new (.cells (r.1.flatMap g)))).2.n 0 r.2.length 1]) ((impRows e'.sz g' r.2 (H.new (.cells (r.1.flatMap g)))).2.new (.cells (impRows e'.sz g' r.2 (H.new (.cells (r.1.flatMap g)))).1)):=by
 refine .inr ⟨hb _ w,(hm w All hL).mono ?_⟩
 rintro en w' ⟨x,rfl,t⟩
 obtain⟨F,O,_⟩:=t.own
 have q0:ArR _ w' (F 0) x.1 r.1:=O.res 0 _ rfl
 have q1:ArR Enc.raw w' (F 1) x.2.1 x.2.2:=O.res 1 _ rfl
 obtain⟨ql,G,q2,q3,q4⟩:(Rws e' x.2.2 r.2).p w' (F 2):=O.res 2 _ rfl
 have R':=R.ext' t.old.ext
 have hF:∀i k,F i k->w.heap.size<=k:=fun i k hk=>by
  rcases(O.rng i k hk).1 with h|h
  ·exact h
  ·exact h.elim
 obtain⟨ρ1,hle1,R1,hv1,A1⟩:=import_ok (B:=fun k=>w.heap.size<=k) R' (fun a o l h1 h2=>Apart.start R a o l h1 h2) (fun k hk=> .inl (Nat.le_trans R.ext.size hk)) (hF 0) q0 h1 (flat_ok (hg ρ) r.1)
 obtain⟨ρ2,hle2,R2,hv2,A2⟩:=impRows_ok hg' r.2 x.2.2 G _ ρ1 _ R1 A1 (fun k hk=> .inl (Nat.le_trans R.ext.size hk.1)) ql h3 q2 (fun i k hk=>⟨hF _ _ (q3 i k hk),fun h0=>by have:=O.dis _ _ k (q3 i k hk) h0;omega⟩) q4
 have hne:x.2.2≠[]:=fun h0=>by rw[h0]at ql;exact h2 (List.eq_nil_of_length_eq_zero ql.symm)
 obtain⟨ρ3,hle3,R3,hv3,_⟩:=import_ok (cs:=(impRows e'.sz g' r.2 (H.new (.cells (r.1.flatMap g)))).1) (F:=F 1) R2 A2 (fun k hk=> .inl (Nat.le_trans R.ext.size hk.1.1)) (fun k hk=>⟨⟨hF _ _ hk,fun h0=>by have:=O.dis _ _ k hk h0;omega⟩,fun i hi=>by have:=O.dis _ _ k hk (q3 i k hi);omega⟩) q1 hne (by rw[raw_cells];exact hv2)
 refine⟨_,ρ3,rfl,Rho.le_trans hle1 (Rho.le_trans hle2 hle3),R3,?_⟩
 refine Rl.agg' (vs:=[x.1,x.2.1]) (.cons ((hv1.le hle2).le hle3) (.cons (by rw[<-ql];exact hv3) .nil)) fun v hv=> ?_
 have one_of:∀{γ:Type} {e:Enc γ} {F:Nat->Prop} {v:Value} {xs:List γ},ArR e w' F v xs->one v=true:=fun h=>by
  obtain⟨_,_,h⟩:=h
  rcases h with⟨rfl,_⟩|⟨b,off,cap,T,cur,rfl,_⟩<;>rfl
 simp at hv
 rcases hv with rfl|rfl
 ·exact one_of q0
 ·exact one_of q1
end
noncomputable section
def dInts (H:GH) (v:GV):Option (List Int):=decS H 1 (dI .i64) v
def dPorts (H:GH) (v:GV):Option (List (List (Int×Int))):=decS H 1 (dS H 2 (dP 1 (dI .i64) (dI .i64))) v
def dConf (H:GH) (v:GV):Option (List (List Int)):=decS H 1 (dS H 1 (dI .i64)) v
def dGraph (H:GH) (v:GV):Option (List Int×List (List (Int×Int))):=ob v.asA fun cs=>List.casesOn (motive:=fun _=>Option (List Int×List (List (Int×Int)))) cs none fun a r=>List.casesOn (motive:=fun _=>Option (List Int×List (List (Int×Int)))) r none fun b r=>List.casesOn (motive:=fun _=>Option (List Int×List (List (Int×Int)))) r (ob (dInts H a) fun x=>ob (dPorts H b) fun y=>some (x,y)) fun _ _=>none
end
section
variable {P:Program} {w0:Base} {w:World} {ρ:Rho} {H:GH}
theorem dInts_ok (R:Rel w0 ρ H w) {v:GV} {V:Value} {xs:List Int} (hv:Rl ρ v V) (h:dInts H v=some xs):(Sl (Rep.int .i64) V xs).p w All:=by
 obtain⟨zs,rfl,hz⟩:=decS_ok R (Reads.int .i64) hv h
 rw[List.map_id]
 exact hz
theorem dConf_ok (R:Rel w0 ρ H w) {v:GV} {V:Value} {xs:List (List Int)} (hv:Rl ρ v V) (h:dConf H v=some xs):∃zs,(S2 (Rep.int .i64) V zs xs).p w All:=by
 obtain⟨zs,rfl,hz⟩:=decS_ok R (Reads.sl R (Reads.int .i64)) hv h
 exact⟨zs,hz,by simp⟩
theorem dPorts_ok (R:Rel w0 ρ H w) {v:GV} {V:Value} {xs:List (List (Int×Int))} (hv:Rl ρ v V) (h:dPorts H v=some xs):∃zs,(S2 (Rep.pair (Rep.int .i64) (Rep.int .i64)) V zs xs).p w All:=by
 obtain⟨zs,rfl,hz⟩:=decS_ok R (Reads.sl R (Reads.pair (Reads.int .i64) (Reads.int .i64))) hv h
 exact⟨zs,hz,by simp⟩
theorem dGraph_ok (R:Rel w0 ρ H w) {v:GV} {V:Value} {p:List Int×List (List (Int×Int))} (hv:Rl ρ v V) (h:dGraph H v=some p):∃v0 v1 z2,V = .agg #[v0,v1]∧(Sl (Rep.int .i64) v0 p.1).p w All∧(S2 (Rep.pair (Rep.int .i64) (Rep.int .i64)) v1 z2 p.2).p w All:=by
 obtain⟨cs,hcs,h⟩:=ob_some.1 (show ob v.asA _=some p from h)
 rw[asA_eq hcs]at hv
 obtain⟨vs,rfl,hr,_⟩:=hv.agg_inv
 cases cs with
 |nil=>cases h
 |cons a cs=>
 cases cs with
 |nil=>cases h
 |cons b cs=>
 cases cs with
 |cons _ _=>cases h
 |nil=>
 obtain⟨x,hx,h⟩:=ob_some.1 (show ob (dInts H a) _=some p from h)
 obtain⟨y,hy,h⟩:=ob_some.1 h
 cases h
 obtain⟨v0,vs,rfl,h0,hr⟩:=hr.of_cons
 obtain⟨v1,vs,rfl,h1,hr⟩:=hr.of_cons
 rw[hr.of_nil]
 obtain⟨z2,hz⟩:=dPorts_ok R h1 hy
 exact⟨v0,v1,z2,rfl,dInts_ok R h0 hx,hz⟩
end
end Go.Gx
end
