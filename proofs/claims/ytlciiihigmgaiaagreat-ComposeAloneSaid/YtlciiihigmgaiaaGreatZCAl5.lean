/- Models and proofs. Conditions: none. -/
import Derived.Test.YtlciiihigmgaiaaGreatZCAl4
import Derived.Test.YtlciiihigmgaiaaGreatZCAl1
import Derived.RecoverIn
import Derived.DefersIn
import Derived.Lib.Bytealg
import Derived.Test.YtlciiihigmgaiaaGreatZCAl2
set_option linter.unusedVariables false
set_option linter.unusedSimpArgs false
set_option maxHeartbeats 4000000
set_option maxRecDepth 20000
section
set_option maxRecDepth 100000
namespace Go.Gx
open Go Go.Sx Go.Proofs
noncomputable section
abbrev y:=oK
def sel (l:List (Nat×Nat)) (n:Nat):Nat:=List.rec (motive:=fun _=>Nat) 0 (fun p _ ih=>bif Nat.beq p.1 n then p.2 else ih) l
def i (n:Nat):GV:= .int .i64 (.ofNat n)
def bC (q:Bool) (f t:RS):RS:=Bool.casesOn (motive:=fun _=>RS) q f t
def K (c:CH) (f:Nat) (us:List GV) (H:GH) (k:GV->GH->RS):RS:=aL (c f us H) k
def bn (op:BinOp) (T:Nat) (v u:GV) (k:GV->RS):RS:=ob (f_ y op T v u) k
def ld (T:Nat) (v:GV) (H:GH) (k:GV->RS):RS:=ob (bQ y T v H) k
def fd (T n:Nat) (v:GV) (k:GV->RS):RS:=ob (cP y T n v) k
def pt (T n:Nat) (v:GV) (k:GV->RS):RS:=ob (PY y T n v) k
def ix (T:Nat) (v u:GV) (k:GV->RS):RS:=ob (Be y T v u) k
def ln (T:Nat) (v:GV) (k:GV->RS):RS:=ob (sU y T v) k
def ex (n:Nat) (v:GV) (k:GV->RS):RS:=ob (UZ n v) k
def bd (T:Nat) (l:List (Nat×GV)) (k:GV->RS):RS:=ob (Kp y T l) k
theorem rN {α:Type} {f n:Nat} {x y:Option α} {e:α} {R:Prop} (hx:x=some e->R) (hy:y=some e->R):tN f n x y=some e->R:=by
 unfold tN
 cases Nat.blt f n
 ·exact hy
 ·exact hx
theorem rL {α:Type} {f n:Nat} {x e:α} {R:Nat->α->Prop} (h:R n x):tL f n x=some e->R f e:=by
 intro he
 unfold tL at he
 cases hb:Nat.beq f n with
 |false=>rw[hb]at he;cases he
 |true=>rw[hb]at he;cases he;rw[Nat.eq_of_beq_eq_true hb];exact h
def B6 (c:CH) (ql:QH) (us:List GV) (H:GH):RS:=U1 us fun x1=>
 aL (bY y 33 H) fun t2 h3=>
 K c 22 [x1] h3 fun t4 h5=>
 ex 0 t4 fun t6=>
 ex 1 t4 fun t7=>
 ex 2 t4 fun t8=>
 aL (bY y 33 h5) fun t9 h10=>
 aL (aW y 33 t9 t6 h10) fun t11 h12=>
 ld 33 t9 h12 fun t13=>
 aL (aW y 33 t2 t13 h12) fun t14 h15=>
 ob (ob (bQ y 33 t2 h15) fun r16=>some [r16]) fun vs17=>oR vs17 h15
def B7 (c:CH) (ql:QH) (us:List GV) (H:GH):RS:=U1 us fun x1=>
 K c 8 [x1,(i 4)] H fun t2 h3=>
 jn (nB 0 (bn .eql 3 t2 (i 0) fun t4=>
 ob (GV.asB t4) fun q5=>jn (bC q5 (bn .eql 3 t2 (i 1) fun t6=>
 ob (GV.asB t6) fun q7=>jn (bC q7 (bn .eql 3 t2 (i 2) fun t8=>
 ob (GV.asB t8) fun q9=>jn (bC q9 (oN [] h3) (oR [(.str 25527409811890773712901309956580134777752467770370391054623098631591392843260948247781125873274301557467071387084239634849157823793842690769212604789760395870595881835571473047569099022029565063169543169668621643125716206830487188517071500897794410801955286158417300124333313633222834131006064 122)] h3)) fun vs10 h11=>U0 vs10 (oN [] h11)) (oR [(.str 712272115893357900056717403868120724801684719701724299276182496252039131930115384465000697525308180077002657679626628487685401639418085514115521743463493484126159263630349479954543729930864 79)] h3)) fun vs12 h13=>U0 vs12 (oN [] h13)) (oR [(.str 647805783445292858354124216707972104362217227416401506789551968550453547782289666464486871061303458493704209666026882594163169793806493880997404652969386840707963198018939744880 74)] h3)) fun vs14 h15=>U0 vs14 (oN [] h15))) fun vs16 h17=>U0 vs16 (oR [(.str 2093391912065131929342057284122509454556102196112985493859293902563874786137302649663025377300155875155924594752922687171275701081762132275685021938288 63)] h17)
def B8 (c:CH) (ql:QH) (us:List GV) (H:GH):RS:=U2 us fun x1 x2=>
 bn .lss 3 x2 (i 1) fun t3=>
 ob (GV.asB t3) fun q4=>jn (bC q4 (oN [x1,x2] H) (oR [(i 0)] H)) fun vs5 h6=>U2 vs5 fun a7 a8=>bn .rem 3 a7 a8 fun t9=>
 bn .lss 3 t9 (i 0) fun t10=>
 ob (GV.asB t10) fun q11=>jn (bC q11 (oN [t9] h6) (bn .add 3 t9 a8 fun t12=>
 oN [t12] h6)) fun vs13 h14=>U1 vs13 fun a15=>oR [a15] h14
def B9 (c:CH) (ql:QH) (us:List GV) (H:GH):RS:=U2 us fun x1 x2=>
 aL (lV x1 H) fun t3 h4=>
 aL (lV x2 h4) fun t5 h6=>
 aL (bY y 33 h6) fun t7 h8=>
 ld 33 t3 h8 fun t9=>
 K c 23 [t9] h8 fun t10 h11=>
 ob (uO .not t10) fun t12=>
 aL (rG t12 false h11 (ob (bQ y 33 t5 h11) fun g13=>some (g13,h11))) fun t14 h15=>
 aL (rG t12 false h15 (aL (c 23 [t14] h15) sJ)) fun t16 h17=>
 aL (rG t12 false h17 (ob (uO .not t16) fun g18=>some (g18,h17))) fun t19 h20=>
 ob (cF t12 (.bool true) t19) fun t21=>
 ob (GV.asB t21) fun q22=>jn (bC q22 (oN [t3,t5,t7] h20) (bd 33 [] fun t23=>
 aL (aW y 33 t7 t23 h20) fun t24 h25=>
 ob (ob (bQ y 33 t7 h25) fun r26=>some [r26,(i 8)]) fun vs27=>oR vs27 h25)) fun vs28 h29=>U3 vs28 fun a30 a31 a32=>fd 33 0 a31 fun t33=>
 ld 9 t33 h29 fun t34=>
 ob (Option.casesOn (motive:=fun _=>Option (Option eY)) (ob (GV.asP t33) fun p=>some p.1) (some none) fun k36=>ob (GH.ver h29 k36) fun k37=>some (some (k36,k37))) fun e35=>
 fd 33 1 a30 fun t38=>
 ld 30 t38 h29 fun t39=>
 ob (Option.casesOn (motive:=fun _=>Option (Option eY)) (ob (GV.asP t38) fun p=>some p.1) (some none) fun k41=>ob (GH.ver h29 k41) fun k42=>some (some (k41,k42))) fun e40=>
 K c 24 [t39] h29 fun t43 h44=>
 ob (Ai h44 e35 (some ())) fun _=>
 bd 33 [(0,t34),(1,t43)] fun t45=>
 aL (bY y 33 h44) fun t46 h47=>
 ob (Ai h47 e40 (Ai h47 e35 (some ()))) fun _=>
 aL (aW y 33 t46 t45 h47) fun t48 h49=>
 ob (some ()) fun _=>
 fd 33 1 a31 fun t50=>
 ld 30 t50 h49 fun t51=>
 ln 30 t51 fun t52=>
 aL (EN y 22 t52 t52 h49) fun t53 h54=>
 aL (bY y 22 h54) fun t55 h56=>
 aL (aW y 22 t55 t53 h56) fun t57 h58=>
 fd 33 1 a31 fun t59=>
 ld 30 t59 h58 fun t60=>
 ln 30 t60 fun t61=>
 jn (nB 0 (ql 0 [a30,a31,a32,t46,t55,t60,t61,(i 0)] h58)) fun vs62 h63=>U5 vs62 fun a64 a65 a66 a67 a68=>fd 33 2 a65 fun t69=>
 ld 31 t69 h63 fun t70=>
 ln 31 t70 fun t71=>
 jn (nB 2 (ql 1 [a64,a65,a66,a67,a68,t70,t71,(i 0)] h63)) fun vs72 h73=>U5 vs72 fun a74 a75 a76 a77 a78=>ld 33 a74 h73 fun t79=>
 ld 33 a75 h73 fun t80=>
 K c 28 [t79,t80] h73 fun t81 h82=>
 ob (GV.asB t81) fun q83=>jn (bC q83 (oN [a74,a75,a76,a77,a78] h82) (bd 33 [] fun t84=>
 aL (aW y 33 a76 t84 h82) fun t85 h86=>
 ob (ob (bQ y 33 a76 h86) fun r87=>some [r87,(i 5)]) fun vs88=>oR vs88 h86)) fun vs89 h90=>U5 vs89 fun a91 a92 a93 a94 a95=>fd 33 1 a94 fun t96=>
 ld 30 t96 h90 fun t97=>
 ln 30 t97 fun t98=>
 bn .gtr 3 t98 (i 6) fun t99=>
 aL (rG t99 false h90 (ob (cP y 33 2 a91) fun g100=>some (g100,h90))) fun t101 h102=>
 aL (rG t99 false h102 (ob (bQ y 31 t101 h102) fun g103=>some (g103,h102))) fun t104 h105=>
 aL (rG t99 false h105 (ob (sU y 31 t104) fun g106=>some (g106,h105))) fun t107 h108=>
 aL (rG t99 false h108 (ob (cP y 33 2 a92) fun g109=>some (g109,h108))) fun t110 h111=>
 aL (rG t99 false h111 (ob (bQ y 31 t110 h111) fun g112=>some (g112,h111))) fun t113 h114=>
 aL (rG t99 false h114 (ob (sU y 31 t113) fun g115=>some (g115,h114))) fun t116 h117=>
 aL (rG t99 false h117 (ob (f_ y .add 3 t107 t116) fun g118=>some (g118,h117))) fun t119 h120=>
 aL (rG t99 false h120 (ob (f_ y .gtr 3 t119 (i 12)) fun g121=>some (g121,h120))) fun t122 h123=>
 ob (cF t99 (.bool true) t122) fun t124=>
 ob (GV.asB t124) fun q125=>jn (bC q125 (oN [a91,a92,a93,a94,a95] h123) (bd 33 [] fun t126=>
 aL (aW y 33 a93 t126 h123) fun t127 h128=>
 ob (ob (bQ y 33 a93 h128) fun r129=>some [r129,(i 3)]) fun vs130=>oR vs130 h128)) fun vs131 h132=>U5 vs131 fun a133 a134 a135 a136 a137=>fd 33 2 a133 fun t138=>
 ld 31 t138 h132 fun t139=>
 ln 31 t139 fun t140=>
 jn (nB 4 (ql 2 [a133,a134,a135,a136,a137,t139,t140,(i 0)] h132)) fun vs141 h142=>U4 vs141 fun a143 a144 a145 a146=>fd 33 2 a143 fun t147=>
 ld 31 t147 h142 fun t148=>
 ln 31 t148 fun t149=>
 jn (nB 6 (ql 3 [a144,a145,a146,t148,t149,(i 0)] h142)) fun vs150 h151=>U2 vs150 fun a152 a153=>ld 33 a153 h151 fun t154=>
 aL (aW y 33 a152 t154 h151) fun t155 h156=>
 ob (ob (bQ y 33 a152 h156) fun r157=>some [r157,(i 0)]) fun vs158=>oR vs158 h156
def L0 (c:CH) (ql:QH) (us:List GV) (H:GH):RS:=U8 us fun a159 a160 a161 a162 a163 a164 a165 a166=>jn (bn .lss 3 a166 a165 fun t167=>
 ob (GV.asB t167) fun q168=>jn (bC q168 (oX 0 [a159,a160,a161,a162,a163] H) (oN [a159,a160,a161,a162,a163,a164,a165,a166] H)) fun vs169 h170=>U8 vs169 fun a171 a172 a173 a174 a175 a176 a177 a178=>jn (nB 1 (ix 30 a176 a178 fun t179=>
 ld 60 t179 h170 fun t180=>
 aL (bY y 60 h170) fun t181 h182=>
 aL (aW y 60 t181 t180 h182) fun t183 h184=>
 ld 22 a175 h184 fun t185=>
 ob (Option.casesOn (motive:=fun _=>Option (Option eY)) (ob (GV.asP a175) fun p=>some p.1) (some none) fun k187=>ob (GH.ver h184 k187) fun k188=>some (some (k187,k188))) fun e186=>
 ld 33 a171 h184 fun t189=>
 ob (Option.casesOn (motive:=fun _=>Option (Option eY)) (ob (GV.asP a171) fun p=>some p.1) (some none) fun k191=>ob (GH.ver h184 k191) fun k192=>some (some (k191,k192))) fun e190=>
 fd 60 0 t181 fun t193=>
 ld 9 t193 h184 fun t194=>
 ob (Option.casesOn (motive:=fun _=>Option (Option eY)) (ob (GV.asP t193) fun p=>some p.1) (some none) fun k196=>ob (GH.ver h184 k196) fun k197=>some (some (k196,k197))) fun e195=>
 K c 25 [t189,t194] h184 fun t198 h199=>
 ob (Ai h199 e186 (some ())) fun _=>
 ix 22 t185 a178 fun t200=>
 aL (aW y 3 t200 t198 h199) fun t201 h202=>
 ob (some ()) fun _=>
 ld 22 a175 h202 fun t203=>
 ix 22 t203 a178 fun t204=>
 ld 3 t204 h202 fun t205=>
 bn .lss 3 t205 (i 0) fun t206=>
 ob (GV.asB t206) fun q207=>jn (bC q207 (oN [a171,a172,a173,a174,a175,a178,t181,a176,a177,a178] h202) (ld 22 a175 h202 fun t208=>
 fd 33 1 a174 fun t209=>
 ld 30 t209 h202 fun t210=>
 ln 30 t210 fun t211=>
 ix 22 t208 a178 fun t212=>
 aL (aW y 3 t212 t211 h202) fun t213 h214=>
 fd 33 1 a174 fun t215=>
 ld 30 t215 h214 fun t216=>
 ld 60 t181 h214 fun t217=>
 aL (cV y 30 1 [(0,t217)] h214) fun t218 h219=>
 aL (sT y 30 30 t216 t218 h219) fun t220 h221=>
 fd 33 1 a174 fun t222=>
 aL (aW y 30 t222 t220 h221) fun t223 h224=>
 oN [a171,a172,a173,a174,a175,a178,t181,a176,a177,a178] h224)) fun vs225 h226=>U10 vs225 fun a227 a228 a229 a230 a231 a232 a233 a234 a235 a236=>fd 33 1 a230 fun t237=>
 ld 30 t237 h226 fun t238=>
 ld 22 a231 h226 fun t239=>
 ix 22 t239 a232 fun t240=>
 ld 3 t240 h226 fun t241=>
 ix 30 t238 t241 fun t242=>
 ld 60 t242 h226 fun t243=>
 ld 60 a233 h226 fun t244=>
 bn .neq 60 t243 t244 fun t245=>
 ob (GV.asB t245) fun q246=>jn (bC q246 (oN [a227,a228,a229,a230,a231,a234,a235,a236] h226) (bd 33 [] fun t247=>
 aL (aW y 33 a229 t247 h226) fun t248 h249=>
 ob (ob (bQ y 33 a229 h249) fun r250=>some [r250,(i 6)]) fun vs251=>oR vs251 h249)) fun vs252 h253=>U8 vs252 fun a254 a255 a256 a257 a258 a259 a260 a261=>oN [a254,a255,a256,a257,a258,a259,a260,a261] h253)) fun vs262 h263=>U8 vs262 fun a264 a265 a266 a267 a268 a269 a270 a271=>bn .add 3 a271 (i 1) fun t272=>
 oN [a264,a265,a266,a267,a268,a269,a270,t272] h263) (ql 0)
def L1 (c:CH) (ql:QH) (us:List GV) (H:GH):RS:=U8 us fun a273 a274 a275 a276 a277 a278 a279 a280=>jn (bn .lss 3 a280 a279 fun t281=>
 ob (GV.asB t281) fun q282=>jn (bC q282 (oX 2 [a273,a274,a275,a276,a277] H) (oN [a273,a274,a275,a276,a277,a278,a279,a280] H)) fun vs283 h284=>U8 vs283 fun a285 a286 a287 a288 a289 a290 a291 a292=>jn (nB 3 (ix 31 a290 a292 fun t293=>
 ld 65 t293 h284 fun t294=>
 aL (bY y 65 h284) fun t295 h296=>
 aL (aW y 65 t295 t294 h296) fun t297 h298=>
 fd 65 2 t295 fun t299=>
 ld 63 t299 h298 fun t300=>
 K c 26 [t300,(.fn 27 [] [a289,a285])] h298 fun t301 h302=>
 ob (GV.asB t301) fun q303=>jn (bC q303 (oN [a285,a286,a287,a288,a289,a290,a291,a292] h302) (bd 33 [] fun t304=>
 aL (aW y 33 a287 t304 h302) fun t305 h306=>
 ob (ob (bQ y 33 a287 h306) fun r307=>some [r307,(i 7)]) fun vs308=>oR vs308 h306)) fun vs309 h310=>U8 vs309 fun a311 a312 a313 a314 a315 a316 a317 a318=>oN [a311,a312,a313,a314,a315,a316,a317,a318] h310)) fun vs319 h320=>U8 vs319 fun a321 a322 a323 a324 a325 a326 a327 a328=>bn .add 3 a328 (i 1) fun t329=>
 oN [a321,a322,a323,a324,a325,a326,a327,t329] h320) (ql 1)
def L2 (c:CH) (ql:QH) (us:List GV) (H:GH):RS:=U8 us fun a330 a331 a332 a333 a334 a335 a336 a337=>jn (bn .lss 3 a337 a336 fun t338=>
 ob (GV.asB t338) fun q339=>jn (bC q339 (oX 4 [a331,a332,a333,a334] H) (oN [a330,a331,a332,a333,a334,a335,a336,a337] H)) fun vs340 h341=>U8 vs340 fun a342 a343 a344 a345 a346 a347 a348 a349=>jn (nB 5 (ix 31 a347 a349 fun t350=>
 ld 65 t350 h341 fun t351=>
 aL (bY y 65 h341) fun t352 h353=>
 aL (aW y 65 t352 t351 h353) fun t354 h355=>
 fd 33 2 a345 fun t356=>
 ld 31 t356 h355 fun t357=>
 ob (Option.casesOn (motive:=fun _=>Option (Option eY)) (ob (GV.asP t356) fun p=>some p.1) (some none) fun k359=>ob (GH.ver h355 k359) fun k360=>some (some (k359,k360))) fun e358=>
 ld 65 t352 h355 fun t361=>
 ob (Option.casesOn (motive:=fun _=>Option (Option eY)) (ob (GV.asP t352) fun p=>some p.1) (some none) fun k363=>ob (GH.ver h355 k363) fun k364=>some (some (k363,k364))) fun e362=>
 ld 33 a342 h355 fun t365=>
 ob (Option.casesOn (motive:=fun _=>Option (Option eY)) (ob (GV.asP a342) fun p=>some p.1) (some none) fun k367=>ob (GH.ver h355 k367) fun k368=>some (some (k367,k368))) fun e366=>
 K c 30 [t365,(i 0)] h355 fun t369 h370=>
 ob (Ai h370 e362 (Ai h370 e358 (some ()))) fun _=>
 K c 29 [t361,t369] h370 fun t371 h372=>
 ob (Ai h372 e358 (some ())) fun _=>
 aL (cV y 31 1 [(0,t371)] h372) fun t373 h374=>
 ob (Ai h374 e358 (some ())) fun _=>
 aL (sT y 31 31 t357 t373 h374) fun t375 h376=>
 ob (some ()) fun _=>
 fd 33 2 a345 fun t377=>
 aL (aW y 31 t377 t375 h376) fun t378 h379=>
 ob (some ()) fun _=>
 oN [a342,a343,a344,a345,a346,a347,a348,a349] h379)) fun vs380 h381=>U8 vs380 fun a382 a383 a384 a385 a386 a387 a388 a389=>bn .add 3 a389 (i 1) fun t390=>
 oN [a382,a383,a384,a385,a386,a387,a388,t390] h381) (ql 2)
def L3 (c:CH) (ql:QH) (us:List GV) (H:GH):RS:=U6 us fun a391 a392 a393 a394 a395 a396=>jn (bn .lss 3 a396 a395 fun t397=>
 ob (GV.asB t397) fun q398=>jn (bC q398 (oX 6 [a391,a392] H) (oN [a391,a392,a393,a394,a395,a396] H)) fun vs399 h400=>U6 vs399 fun a401 a402 a403 a404 a405 a406=>jn (nB 7 (ix 31 a404 a406 fun t407=>
 ld 65 t407 h400 fun t408=>
 aL (bY y 65 h400) fun t409 h410=>
 aL (aW y 65 t409 t408 h410) fun t411 h412=>
 fd 33 2 a402 fun t413=>
 ld 31 t413 h412 fun t414=>
 ob (Option.casesOn (motive:=fun _=>Option (Option eY)) (ob (GV.asP t413) fun p=>some p.1) (some none) fun k416=>ob (GH.ver h412 k416) fun k417=>some (some (k416,k417))) fun e415=>
 ld 65 t409 h412 fun t418=>
 ob (Option.casesOn (motive:=fun _=>Option (Option eY)) (ob (GV.asP t409) fun p=>some p.1) (some none) fun k420=>ob (GH.ver h412 k420) fun k421=>some (some (k420,k421))) fun e419=>
 ld 22 a403 h412 fun t422=>
 ob (Option.casesOn (motive:=fun _=>Option (Option eY)) (ob (GV.asP a403) fun p=>some p.1) (some none) fun k424=>ob (GH.ver h412 k424) fun k425=>some (some (k424,k425))) fun e423=>
 K c 29 [t418,t422] h412 fun t426 h427=>
 ob (Ai h427 e415 (some ())) fun _=>
 aL (cV y 31 1 [(0,t426)] h427) fun t428 h429=>
 ob (Ai h429 e415 (some ())) fun _=>
 aL (sT y 31 31 t414 t428 h429) fun t430 h431=>
 ob (some ()) fun _=>
 fd 33 2 a402 fun t432=>
 aL (aW y 31 t432 t430 h431) fun t433 h434=>
 ob (some ()) fun _=>
 oN [a401,a402,a403,a404,a405,a406] h434)) fun vs435 h436=>U6 vs435 fun a437 a438 a439 a440 a441 a442=>bn .add 3 a442 (i 1) fun t443=>
 oN [a437,a438,a439,a440,a441,t443] h436) (ql 3)
def B12 (c:CH) (ql:QH) (us:List GV) (H:GH):RS:=U0 us (K c 7 [(i 0)] H fun t1 h2=>
 K c 6 [t1] h2 fun t3 h4=>
 K c 7 [(i 1)] h4 fun t5 h6=>
 K c 6 [t5] h6 fun t7 h8=>
 aL (bY y 33 h8) fun t9 h10=>
 aL (bY y 33 h10) fun t11 h12=>
 aL (aW y 33 t9 t3 h12) fun t13 h14=>
 aL (aW y 33 t11 t7 h14) fun t15 h16=>
 ld 33 t9 h16 fun t17=>
 ld 33 t11 h16 fun t18=>
 K c 9 [t17,t18] h16 fun t19 h20=>
 ex 0 t19 fun t21=>
 ex 1 t19 fun t22=>
 aL (bY y 33 h20) fun t23 h24=>
 aL (aW y 33 t23 t21 h24) fun t25 h26=>
 ld 33 t23 h26 fun t27=>
 K c 35 [t27,(.int .u32 (.ofNat 1))] h26 fun t28 h29=>
 ex 0 t28 fun t30=>
 ex 1 t28 fun t31=>
 aL (bY y 33 h29) fun t32 h33=>
 aL (aW y 33 t32 t30 h33) fun t34 h35=>
 fd 33 0 t9 fun t36=>
 ld 9 t36 h35 fun t37=>
 fd 33 0 t32 fun t38=>
 aL (aW y 9 t38 t37 h35) fun t39 h40=>
 ld 33 t11 h40 fun t41=>
 ld 33 t9 h40 fun t42=>
 K c 9 [t41,t42] h40 fun t43 h44=>
 ex 0 t43 fun t45=>
 ex 1 t43 fun t46=>
 aL (bY y 33 h44) fun t47 h48=>
 aL (aW y 33 t47 t45 h48) fun t49 h50=>
 bn .eql 37 t22 (i 0) fun t51=>
 aL (rG t51 true h50 (some (t31,h50))) fun t52 h53=>
 aL (rG t51 true h53 (ob (f_ y .eql 37 t52 (i 0)) fun g54=>some (g54,h53))) fun t55 h56=>
 ob (cF t51 t55 (.bool false)) fun t57=>
 aL (rG t57 true h56 (some (t46,h56))) fun t58 h59=>
 aL (rG t57 true h59 (ob (f_ y .eql 37 t58 (i 7)) fun g60=>some (g60,h59))) fun t61 h62=>
 ob (cF t57 t61 (.bool false)) fun t63=>
 aL (rG t63 true h62 (ob (cP y 33 1 t23) fun g64=>some (g64,h62))) fun t65 h66=>
 aL (rG t63 true h66 (ob (bQ y 30 t65 h66) fun g67=>some (g67,h66))) fun t68 h69=>
 aL (rG t63 true h69 (ob (sU y 30 t68) fun g70=>some (g70,h69))) fun t71 h72=>
 aL (rG t63 true h72 (ob (f_ y .eql 3 t71 (i 2)) fun g73=>some (g73,h72))) fun t74 h75=>
 ob (cF t63 t74 (.bool false)) fun t76=>
 aL (rG t76 true h75 (ob (cP y 33 2 t23) fun g77=>some (g77,h75))) fun t78 h79=>
 aL (rG t76 true h79 (ob (bQ y 31 t78 h79) fun g80=>some (g80,h79))) fun t81 h82=>
 aL (rG t76 true h82 (ob (sU y 31 t81) fun g83=>some (g83,h82))) fun t84 h85=>
 aL (rG t76 true h85 (ob (f_ y .eql 3 t84 (i 2)) fun g86=>some (g86,h85))) fun t87 h88=>
 ob (cF t76 t87 (.bool false)) fun t89=>
 aL (rG t89 true h88 (ob (bQ y 33 t32 h88) fun g90=>some (g90,h88))) fun t91 h92=>
 aL (rG t89 true h92 (ob (bQ y 33 t9 h92) fun g93=>some (g93,h92))) fun t94 h95=>
 aL (rG t89 true h95 (aL (c 36 [t91,t94] h95) sJ)) fun t96 h97=>
 ob (cF t89 t96 (.bool false)) fun t98=>
 aL (rG t98 true h97 (ob (bQ y 33 t23 h97) fun g99=>some (g99,h97))) fun t100 h101=>
 aL (rG t98 true h101 (aL (c 37 [t100,(.int .u32 (.ofNat 1))] h101) sJ)) fun t102 h103=>
 ob (cF t98 t102 (.bool false)) fun t104=>
 aL (rG t104 true h103 (ob (bQ y 33 t23 h103) fun g105=>some (g105,h103))) fun t106 h107=>
 aL (rG t104 true h107 (aL (c 37 [t106,(.int .u32 (.ofNat 2))] h107) sJ)) fun t108 h109=>
 aL (rG t104 true h109 (ob (uO .not t108) fun g110=>some (g110,h109))) fun t111 h112=>
 ob (cF t104 t111 (.bool false)) fun t113=>
 oR [t113] h112)
def B16 (c:CH) (ql:QH) (us:List GV) (H:GH):RS:=U2 us fun x1 x2=>
 aL (lV x1 H) fun t3 h4=>
 aL (lV x2 h4) fun t5 h6=>
 aL (bY y 33 h6) fun t7 h8=>
 ld 33 t3 h8 fun t9=>
 K c 23 [t9] h8 fun t10 h11=>
 ob (uO .not t10) fun t12=>
 aL (rG t12 false h11 (ob (bQ y 33 t5 h11) fun g13=>some (g13,h11))) fun t14 h15=>
 aL (rG t12 false h15 (aL (c 23 [t14] h15) sJ)) fun t16 h17=>
 aL (rG t12 false h17 (ob (uO .not t16) fun g18=>some (g18,h17))) fun t19 h20=>
 ob (cF t12 (.bool true) t19) fun t21=>
 ob (GV.asB t21) fun q22=>jn (bC q22 (oN [t3,t5,t7] h20) (bd 33 [] fun t23=>
 aL (aW y 33 t7 t23 h20) fun t24 h25=>
 ob (ob (bQ y 33 t7 h25) fun r26=>some [r26,(i 8)]) fun vs27=>oR vs27 h25)) fun vs28 h29=>U3 vs28 fun a30 a31 a32=>fd 33 1 a30 fun t33=>
 ld 30 t33 h29 fun t34=>
 K c 41 [t34,(.fn 42 [] [a31])] h29 fun t35 h36=>
 aL (rG t35 false h36 (ob (bQ y 33 a30 h36) fun g37=>some (g37,h36))) fun t38 h39=>
 aL (rG t35 false h39 (aL (c 25 [t38,(.str 1852994932 4)] h39) sJ)) fun t40 h41=>
 aL (rG t35 false h41 (ob (f_ y .geq 3 t40 (i 0)) fun g42=>some (g42,h41))) fun t43 h44=>
 ob (cF t35 (.bool true) t43) fun t45=>
 aL (rG t45 false h44 (ob (bQ y 33 a31 h44) fun g46=>some (g46,h44))) fun t47 h48=>
 aL (rG t45 false h48 (aL (c 25 [t47,(.str 1852994932 4)] h48) sJ)) fun t49 h50=>
 aL (rG t45 false h50 (ob (f_ y .geq 3 t49 (i 0)) fun g51=>some (g51,h50))) fun t52 h53=>
 ob (cF t45 (.bool true) t52) fun t54=>
 aL (rG t54 false h53 (ob (bQ y 33 a30 h53) fun g55=>some (g55,h53))) fun t56 h57=>
 aL (rG t54 false h57 (ob (bQ y 33 a31 h57) fun g58=>some (g58,h57))) fun t59 h60=>
 aL (rG t54 false h60 (aL (c 28 [t56,t59] h60) sJ)) fun t61 h62=>
 ob (cF t54 (.bool true) t61) fun t63=>
 ob (GV.asB t63) fun q64=>jn (bC q64 (oN [a30,a31,a32] h62) (bd 33 [] fun t65=>
 aL (aW y 33 a32 t65 h62) fun t66 h67=>
 ob (ob (bQ y 33 a32 h67) fun r68=>some [r68,(i 5)]) fun vs69=>oR vs69 h67)) fun vs70 h71=>U3 vs70 fun a72 a73 a74=>fd 33 1 a72 fun t75=>
 ld 30 t75 h71 fun t76=>
 fd 33 1 a73 fun t77=>
 ld 30 t77 h71 fun t78=>
 bd 60 [(0,(.str 1852994932 4)),(1,(i 2))] fun t79=>
 aL (cV y 30 1 [(0,t79)] h71) fun t80 h81=>
 aL (cV y 126 3 [(0,t76),(1,t78),(2,t80)] h81) fun t82 h83=>
 K c 43 [t82] h83 fun t84 h85=>
 ln 30 t84 fun t86=>
 bn .gtr 3 t86 (i 6) fun t87=>
 aL (rG t87 false h85 (ob (cP y 33 2 a72) fun g88=>some (g88,h85))) fun t89 h90=>
 aL (rG t87 false h90 (ob (bQ y 31 t89 h90) fun g91=>some (g91,h90))) fun t92 h93=>
 aL (rG t87 false h93 (ob (sU y 31 t92) fun g94=>some (g94,h93))) fun t95 h96=>
 aL (rG t87 false h96 (ob (cP y 33 2 a73) fun g97=>some (g97,h96))) fun t98 h99=>
 aL (rG t87 false h99 (ob (bQ y 31 t98 h99) fun g100=>some (g100,h99))) fun t101 h102=>
 aL (rG t87 false h102 (ob (sU y 31 t101) fun g103=>some (g103,h102))) fun t104 h105=>
 aL (rG t87 false h105 (ob (f_ y .add 3 t95 t104) fun g106=>some (g106,h105))) fun t107 h108=>
 aL (rG t87 false h108 (ob (f_ y .mul 3 (i 2) t107) fun g109=>some (g109,h108))) fun t110 h111=>
 aL (rG t87 false h111 (ob (f_ y .gtr 3 t110 (i 12)) fun g112=>some (g112,h111))) fun t113 h114=>
 ob (cF t87 (.bool true) t113) fun t115=>
 ob (GV.asB t115) fun q116=>jn (bC q116 (oN [a72,a73,a74,t84] h114) (bd 33 [] fun t117=>
 aL (aW y 33 a74 t117 h114) fun t118 h119=>
 ob (ob (bQ y 33 a74 h119) fun r120=>some [r120,(i 3)]) fun vs121=>oR vs121 h119)) fun vs122 h123=>U4 vs122 fun a124 a125 a126 a127=>ln 30 a127 fun t128=>
 bn .sub 3 t128 (i 1) fun t129=>
 bd 87 [(0,t129)] fun t130=>
 aL (bY y 87 h123) fun t131 h132=>
 aL (aW y 87 t131 t130 h132) fun t133 h134=>
 ld 33 a124 h134 fun t135=>
 ob (Option.casesOn (motive:=fun _=>Option (Option eY)) (ob (GV.asP a124) fun p=>some p.1) (some none) fun k137=>ob (GH.ver h134 k137) fun k138=>some (some (k137,k138))) fun e136=>
 K c 30 [t135,(i 0)] h134 fun t139 h140=>
 ob (some ()) fun _=>
 ld 33 a125 h140 fun t141=>
 ob (Option.casesOn (motive:=fun _=>Option (Option eY)) (ob (GV.asP a125) fun p=>some p.1) (some none) fun k143=>ob (GH.ver h140 k143) fun k144=>Tn h134 k143 k144 (some (some (k143,k144)))) fun e142=>
 fd 33 1 a124 fun t145=>
 ld 30 t145 h140 fun t146=>
 ob (Option.casesOn (motive:=fun _=>Option (Option eY)) (ob (GV.asP t145) fun p=>some p.1) (some none) fun k148=>ob (GH.ver h140 k148) fun k149=>Tn h134 k148 k149 (some (some (k148,k149)))) fun e147=>
 ln 30 t146 fun t150=>
 K c 30 [t141,t150] h140 fun t151 h152=>
 ob (some ()) fun _=>
 ld 33 a124 h152 fun t153=>
 K c 44 [t131,t153,t139,(.bool false)] h152 fun t154 h155=>
 ld 33 a125 h155 fun t156=>
 K c 44 [t131,t156,t151,(.bool true)] h155 fun t157 h158=>
 ld 33 a124 h158 fun t159=>
 K c 45 [t131,t159,t139] h158 fun t160 h161=>
 ld 33 a125 h161 fun t162=>
 K c 45 [t131,t162,t151] h161 fun t163 h164=>
 fd 87 1 t131 fun t165=>
 ld 31 t165 h164 fun t166=>
 ln 31 t166 fun t167=>
 jn (nB 0 (ql 4 [a124,a126,a127,t131,t166,t167,(i 0)] h164)) fun vs168 h169=>U4 vs168 fun a170 a171 a172 a173=>fd 33 0 a170 fun t174=>
 ld 9 t174 h169 fun t175=>
 fd 87 1 a173 fun t176=>
 ld 31 t176 h169 fun t177=>
 bd 33 [(0,t175),(1,a172),(2,t177)] fun t178=>
 aL (aW y 33 a171 t178 h169) fun t179 h180=>
 ob (ob (bQ y 33 a171 h180) fun r181=>some [r181,(i 0)]) fun vs182=>oR vs182 h180
def L4 (c:CH) (ql:QH) (us:List GV) (H:GH):RS:=U7 us fun a183 a184 a185 a186 a187 a188 a189=>jn (bn .lss 3 a189 a188 fun t190=>
 ob (GV.asB t190) fun q191=>jn (bC q191 (oX 0 [a183,a184,a185,a186] H) (oN [a183,a184,a185,a186,a187,a188,a189] H)) fun vs192 h193=>U7 vs192 fun a194 a195 a196 a197 a198 a199 a200=>jn (nB 1 (ix 31 a198 a200 fun t201=>
 ld 65 t201 h193 fun t202=>
 aL (bY y 65 h193) fun t203 h204=>
 aL (aW y 65 t203 t202 h204) fun t205 h206=>
 fd 65 0 t203 fun t207=>
 ld 9 t207 h206 fun t208=>
 ln 9 t208 fun t209=>
 bn .gtr 3 t209 (i 24) fun t210=>
 aL (rG t210 false h206 (ob (cP y 65 1 t203) fun g211=>some (g211,h206))) fun t212 h213=>
 aL (rG t210 false h213 (ob (bQ y 62 t212 h213) fun g214=>some (g214,h213))) fun t215 h216=>
 aL (rG t210 false h216 (some (a196,h216))) fun t217 h218=>
 aL (rG t210 false h218 (ob (sU y 30 t217) fun g219=>some (g219,h218))) fun t220 h221=>
 aL (rG t210 false h221 (aL (c 46 [t215,t220] h221) sJ)) fun t222 h223=>
 aL (rG t210 false h223 (ob (uO .not t222) fun g224=>some (g224,h223))) fun t225 h226=>
 ob (cF t210 (.bool true) t225) fun t227=>
 ob (GV.asB t227) fun q228=>jn (bC q228 (oN [a194,a195,a196,a197,a198,a199,a200] h226) (bd 33 [] fun t229=>
 aL (aW y 33 a195 t229 h226) fun t230 h231=>
 ob (ob (bQ y 33 a195 h231) fun r232=>some [r232,(i 3)]) fun vs233=>oR vs233 h231)) fun vs234 h235=>U7 vs234 fun a236 a237 a238 a239 a240 a241 a242=>oN [a236,a237,a238,a239,a240,a241,a242] h235)) fun vs243 h244=>U7 vs243 fun a245 a246 a247 a248 a249 a250 a251=>bn .add 3 a251 (i 1) fun t252=>
 oN [a245,a246,a247,a248,a249,a250,t252] h244) (ql 4)
def B22 (c:CH) (ql:QH) (us:List GV) (H:GH):RS:=U1 us fun x1=>
 aL (bY y 33 H) fun t2 h3=>
 K c 51 [x1] h3 fun t4 h5=>
 ex 0 t4 fun t6=>
 ex 1 t4 fun t7=>
 ex 2 t4 fun t8=>
 bn .neq 37 t8 (i 0) fun t9=>
 ob (GV.asB t9) fun q10=>jn (bC q10 (oN [x1,t2,t6] h5) (bd 33 [] fun t11=>
 aL (aW y 33 t2 t11 h5) fun t12 h13=>
 ob (ob (bQ y 33 t2 h13) fun r14=>some [r14,t7,t8]) fun vs15=>oR vs15 h13)) fun vs16 h17=>U3 vs16 fun a18 a19 a20=>bd 100 [(0,a18),(1,a20)] fun t21=>
 bd 102 [(0,t21)] fun t22=>
 aL (lV t22 h17) fun t23 h24=>
 K c 52 [(.fn 53 [t23] [])] h24 fun t25 h26=>
 ex 0 t25 fun t27=>
 ex 1 t25 fun t28=>
 bn .neq 37 t28 (i 0) fun t29=>
 ob (GV.asB t29) fun q30=>jn (bC q30 (oN [a19,t23] h26) (bd 33 [] fun t31=>
 aL (aW y 33 a19 t31 h26) fun t32 h33=>
 ob (ob (bQ y 33 a19 h33) fun r34=>some [r34,t27,t28]) fun vs35=>oR vs35 h33)) fun vs36 h37=>U2 vs36 fun a38 a39=>ob (GV.nilck a39) fun t40=>
 fd 102 1 t40 fun t41=>
 fd 33 1 t41 fun t42=>
 ld 30 t42 h37 fun t43=>
 ln 30 t43 fun t44=>
 bn .eql 3 t44 (i 0) fun t45=>
 ob (GV.asB t45) fun q46=>jn (bC q46 (oN [a38,a39] h37) (bd 33 [] fun t47=>
 aL (aW y 33 a38 t47 h37) fun t48 h49=>
 ob (ob (bQ y 33 a38 h49) fun r50=>some [r50,(i 0),(i 3)]) fun vs51=>oR vs51 h49)) fun vs52 h53=>U2 vs52 fun a54 a55=>ob (GV.nilck a55) fun t56=>
 fd 102 1 t56 fun t57=>
 ld 33 t57 h53 fun t58=>
 K c 54 [t58] h53 fun t59 h60=>
 bn .neq 37 t59 (i 0) fun t61=>
 ob (GV.asB t61) fun q62=>jn (bC q62 (oN [a54,a55] h60) (bd 33 [] fun t63=>
 aL (aW y 33 a54 t63 h60) fun t64 h65=>
 ob (ob (bQ y 33 a54 h65) fun r66=>some [r66,(i 0),t59]) fun vs67=>oR vs67 h65)) fun vs68 h69=>U2 vs68 fun a70 a71=>ob (GV.nilck a71) fun t72=>
 fd 102 1 t72 fun t73=>
 ld 33 t73 h69 fun t74=>
 aL (aW y 33 a70 t74 h69) fun t75 h76=>
 ob (ob (bQ y 33 a70 h76) fun r77=>some [r77,(i 0),(i 0)]) fun vs78=>oR vs78 h76
def B23 (c:CH) (ql:QH) (us:List GV) (H:GH):RS:=U1 us fun x1=>
 aL (lV x1 H) fun t2 h3=>
 ld 33 t2 h3 fun t4=>
 K c 54 [t4] h3 fun t5 h6=>
 bn .eql 37 t5 (i 0) fun t7=>
 oR [t7] h6
def B24 (c:CH) (ql:QH) (us:List GV) (H:GH):RS:=U1 us fun x1=>
 bn .eql 30 x1 .snil fun t2=>
 ob (GV.asB t2) fun q3=>jn (bC q3 (oN [x1] H) (oR [.snil] H)) fun vs4 h5=>U1 vs4 fun a6=>aL (cV y 30 0 [] h5) fun t7 h8=>
 aL (sT y 30 30 t7 a6 h8) fun t9 h10=>
 oR [t9] h10
def B25 (c:CH) (ql:QH) (us:List GV) (H:GH):RS:=U2 us fun x1 x2=>
 aL (lV x1 H) fun t3 h4=>
 aL (lV x2 h4) fun t5 h6=>
 fd 33 1 t3 fun t7=>
 ld 30 t7 h6 fun t8=>
 K c 55 [t8,(.fn 56 [] [t5])] h6 fun t9 h10=>
 oR [t9] h10
def B26 (c:CH) (ql:QH) (us:List GV) (H:GH):RS:=U2 us fun x1 x2=>
 K c 57 [x1,x2] H fun t3 h4=>
 bn .geq 3 t3 (i 0) fun t5=>
 oR [t5] h4
def B27 (c:CH) (ql:QH) (us:List GV) (H:GH):RS:=U3 us fun x1 x2 x3=>
 aL (lV x1 H) fun t4 h5=>
 ld 22 x2 h5 fun t6=>
 fd 68 0 t4 fun t7=>
 ld 3 t7 h5 fun t8=>
 ix 22 t6 t8 fun t9=>
 ld 3 t9 h5 fun t10=>
 fd 33 1 x3 fun t11=>
 ld 30 t11 h5 fun t12=>
 ln 30 t12 fun t13=>
 bn .lss 3 t10 t13 fun t14=>
 oR [t14] h5
def B28 (c:CH) (ql:QH) (us:List GV) (H:GH):RS:=U2 us fun x1 x2=>
 aL (lV x1 H) fun t3 h4=>
 aL (lV x2 h4) fun t5 h6=>
 fd 33 2 t3 fun t7=>
 ld 31 t7 h6 fun t8=>
 K c 58 [t8,(.fn 59 [] [t5])] h6 fun t9 h10=>
 oR [t9] h10
def B29 (c:CH) (ql:QH) (us:List GV) (H:GH):RS:=U2 us fun x1 x2=>
 aL (lV x1 H) fun t3 h4=>
 aL (bY y 65 h4) fun t5 h6=>
 fd 65 0 t3 fun t7=>
 ld 9 t7 h6 fun t8=>
 bd 65 [(0,t8)] fun t9=>
 aL (bY y 65 h6) fun t10 h11=>
 aL (aW y 65 t10 t9 h11) fun t12 h13=>
 fd 65 1 t3 fun t14=>
 ld 62 t14 h13 fun t15=>
 K c 61 [t15,x2] h13 fun t16 h17=>
 ex 0 t16 fun t18=>
 ex 1 t16 fun t19=>
 fd 65 1 t10 fun t20=>
 aL (aW y 62 t20 t18 h17) fun t21 h22=>
 fd 65 2 t3 fun t23=>
 ld 63 t23 h22 fun t24=>
 ln 63 t24 fun t25=>
 jn (nB 0 (ql 5 [x2,t5,t10,t24,t25,(i 0)] h22)) fun vs26 h27=>U2 vs26 fun a28 a29=>ld 65 a29 h27 fun t30=>
 aL (aW y 65 a28 t30 h27) fun t31 h32=>
 ob (ob (bQ y 65 a28 h32) fun r33=>some [r33]) fun vs34=>oR vs34 h32
def L5 (c:CH) (ql:QH) (us:List GV) (H:GH):RS:=U6 us fun a35 a36 a37 a38 a39 a40=>jn (bn .lss 3 a40 a39 fun t41=>
 ob (GV.asB t41) fun q42=>jn (bC q42 (oX 0 [a36,a37] H) (oN [a35,a36,a37,a38,a39,a40] H)) fun vs43 h44=>U6 vs43 fun a45 a46 a47 a48 a49 a50=>jn (nB 1 (ix 63 a48 a50 fun t51=>
 ld 68 t51 h44 fun t52=>
 aL (bY y 68 h44) fun t53 h54=>
 aL (aW y 68 t53 t52 h54) fun t55 h56=>
 fd 68 1 t53 fun t57=>
 ld 62 t57 h56 fun t58=>
 K c 61 [t58,a45] h56 fun t59 h60=>
 ex 0 t59 fun t61=>
 ex 1 t59 fun t62=>
 fd 65 2 a47 fun t63=>
 ld 63 t63 h60 fun t64=>
 ob (Option.casesOn (motive:=fun _=>Option (Option eY)) (ob (GV.asP t63) fun p=>some p.1) (some none) fun k66=>ob (GH.ver h60 k66) fun k67=>some (some (k66,k67))) fun e65=>
 fd 68 0 t53 fun t68=>
 ld 3 t68 h60 fun t69=>
 ob (Option.casesOn (motive:=fun _=>Option (Option eY)) (ob (GV.asP t68) fun p=>some p.1) (some none) fun k71=>ob (GH.ver h60 k71) fun k72=>some (some (k71,k72))) fun e70=>
 ix 22 a45 t69 fun t73=>
 ld 3 t73 h60 fun t74=>
 ob (Option.casesOn (motive:=fun _=>Option (Option eY)) (ob (GV.asP t73) fun p=>some p.1) (some none) fun k76=>ob (GH.ver h60 k76) fun k77=>some (some (k76,k77))) fun e75=>
 bd 68 [(0,t74),(1,t61)] fun t78=>
 aL (cV y 63 1 [(0,t78)] h60) fun t79 h80=>
 ob (Ai h80 e65 (some ())) fun _=>
 aL (sT y 63 63 t64 t79 h80) fun t81 h82=>
 ob (some ()) fun _=>
 fd 65 2 a47 fun t83=>
 aL (aW y 63 t83 t81 h82) fun t84 h85=>
 ob (some ()) fun _=>
 oN [a45,a46,a47,a48,a49,a50] h85)) fun vs86 h87=>U6 vs86 fun a88 a89 a90 a91 a92 a93=>bn .add 3 a93 (i 1) fun t94=>
 oN [a88,a89,a90,a91,a92,t94] h87) (ql 5)
def B30 (c:CH) (ql:QH) (us:List GV) (H:GH):RS:=U2 us fun x1 x2=>
 aL (lV x1 H) fun t3 h4=>
 fd 33 1 t3 fun t5=>
 ld 30 t5 h4 fun t6=>
 ln 30 t6 fun t7=>
 aL (EN y 22 t7 t7 h4) fun t8 h9=>
 ln 22 t8 fun t10=>
 jn (nB 0 (ql 6 [x2,t8,t10,(i 0)] h9)) fun vs11 h12=>U1 vs11 fun a13=>oR [a13] h12
def L6 (c:CH) (ql:QH) (us:List GV) (H:GH):RS:=U4 us fun a14 a15 a16 a17=>jn (bn .lss 3 a17 a16 fun t18=>
 ob (GV.asB t18) fun q19=>jn (bC q19 (oX 0 [a15] H) (oN [a14,a15,a16,a17] H)) fun vs20 h21=>U4 vs20 fun a22 a23 a24 a25=>jn (nB 1 (bn .add 3 a22 a25 fun t26=>
 ix 22 a23 a25 fun t27=>
 aL (aW y 3 t27 t26 h21) fun t28 h29=>
 oN [a22,a23,a24,a25] h29)) fun vs30 h31=>U4 vs30 fun a32 a33 a34 a35=>bn .add 3 a35 (i 1) fun t36=>
 oN [a32,a33,a34,t36] h31) (ql 6)
def B35 (c:CH) (ql:QH) (us:List GV) (H:GH):RS:=U2 us fun x1 x2=>
 aL (lV x1 H) fun t3 h4=>
 aL (bY y 33 h4) fun t5 h6=>
 ld 33 t3 h6 fun t7=>
 K c 23 [t7] h6 fun t8 h9=>
 ob (uO .not t8) fun t10=>
 ob (GV.asB t10) fun q11=>jn (bC q11 (oN [x2,t3,t5] h9) (bd 33 [] fun t12=>
 aL (aW y 33 t5 t12 h9) fun t13 h14=>
 ob (ob (bQ y 33 t5 h14) fun r15=>some [r15,(i 8)]) fun vs16=>oR vs16 h14)) fun vs17 h18=>U3 vs17 fun a19 a20 a21=>fd 33 1 a20 fun t22=>
 ld 30 t22 h18 fun t23=>
 ln 30 t23 fun t24=>
 bn .shr 25 a19 t24 fun t25=>
 bn .neq 25 t25 (.int .u32 (.ofNat 0)) fun t26=>
 ob (GV.asB t26) fun q27=>jn (bC q27 (oN [a19,a20,a21] h18) (bd 33 [] fun t28=>
 aL (aW y 33 a21 t28 h18) fun t29 h30=>
 ob (ob (bQ y 33 a21 h30) fun r31=>some [r31,(i 2)]) fun vs32=>oR vs32 h30)) fun vs33 h34=>U3 vs33 fun a35 a36 a37=>bn .eql 25 a35 (.int .u32 (.ofNat 0)) fun t38=>
 aL (rG t38 false h34 (ob (bQ y 33 a36 h34) fun g39=>some (g39,h34))) fun t40 h41=>
 aL (rG t38 false h41 (some (a35,h41))) fun t42 h43=>
 aL (rG t38 false h43 (aL (c 37 [t40,t42] h43) sJ)) fun t44 h45=>
 aL (rG t38 false h45 (ob (uO .not t44) fun g46=>some (g46,h45))) fun t47 h48=>
 ob (cF t38 (.bool true) t47) fun t49=>
 ob (GV.asB t49) fun q50=>jn (bC q50 (oN [a35,a36,a37] h48) (bd 33 [] fun t51=>
 aL (aW y 33 a37 t51 h48) fun t52 h53=>
 ob (ob (bQ y 33 a37 h53) fun r54=>some [r54,(i 7)]) fun vs55=>oR vs55 h53)) fun vs56 h57=>U3 vs56 fun a58 a59 a60=>fd 33 0 a59 fun t61=>
 ld 9 t61 h57 fun t62=>
 bd 33 [(0,t62)] fun t63=>
 aL (bY y 33 h57) fun t64 h65=>
 aL (aW y 33 t64 t63 h65) fun t66 h67=>
 fd 33 1 a59 fun t68=>
 ld 30 t68 h67 fun t69=>
 ln 30 t69 fun t70=>
 aL (EN y 22 t70 t70 h67) fun t71 h72=>
 fd 33 1 a59 fun t73=>
 ld 30 t73 h72 fun t74=>
 ln 30 t74 fun t75=>
 jn (nB 0 (ql 7 [a58,a59,a60,t64,t71,t74,t75,(i 0)] h72)) fun vs76 h77=>U5 vs76 fun a78 a79 a80 a81 a82=>fd 33 2 a79 fun t83=>
 ld 31 t83 h77 fun t84=>
 ln 31 t84 fun t85=>
 jn (nB 2 (ql 8 [a78,a80,a81,a82,t84,t85,(i 0)] h77)) fun vs86 h87=>U2 vs86 fun a88 a89=>ld 33 a89 h87 fun t90=>
 aL (aW y 33 a88 t90 h87) fun t91 h92=>
 ob (ob (bQ y 33 a88 h92) fun r93=>some [r93,(i 0)]) fun vs94=>oR vs94 h92
def L7 (c:CH) (ql:QH) (us:List GV) (H:GH):RS:=U8 us fun a95 a96 a97 a98 a99 a100 a101 a102=>jn (bn .lss 3 a102 a101 fun t103=>
 ob (GV.asB t103) fun q104=>jn (bC q104 (oX 0 [a95,a96,a97,a98,a99] H) (oN [a95,a96,a97,a98,a99,a100,a101,a102] H)) fun vs105 h106=>U8 vs105 fun a107 a108 a109 a110 a111 a112 a113 a114=>jn (nB 1 (ix 30 a112 a114 fun t115=>
 ld 60 t115 h106 fun t116=>
 aL (bY y 60 h106) fun t117 h118=>
 aL (aW y 60 t117 t116 h118) fun t119 h120=>
 bn .shr 25 a107 a114 fun t121=>
 bn .and 25 t121 (.int .u32 (.ofNat 1)) fun t122=>
 bn .eql 25 t122 (.int .u32 (.ofNat 1)) fun t123=>
 ob (GV.asB t123) fun q124=>jn (bC q124 (oN [a107,a108,a109,a110,a111,a112,a113,a114] h120) (bn .shl 25 (.int .u32 (.ofNat 1)) a114 fun t125=>
 bn .sub 25 t125 (.int .u32 (.ofNat 1)) fun t126=>
 bn .and 25 a107 t126 fun t127=>
 K c 66 [t127] h120 fun t128 h129=>
 ix 22 a111 a114 fun t130=>
 aL (aW y 3 t130 t128 h129) fun t131 h132=>
 fd 33 1 a110 fun t133=>
 ld 30 t133 h132 fun t134=>
 ld 60 t117 h132 fun t135=>
 aL (cV y 30 1 [(0,t135)] h132) fun t136 h137=>
 aL (sT y 30 30 t134 t136 h137) fun t138 h139=>
 fd 33 1 a110 fun t140=>
 aL (aW y 30 t140 t138 h139) fun t141 h142=>
 oN [a107,a108,a109,a110,a111,a112,a113,a114] h142)) fun vs143 h144=>U8 vs143 fun a145 a146 a147 a148 a149 a150 a151 a152=>oN [a145,a146,a147,a148,a149,a150,a151,a152] h144)) fun vs153 h154=>U8 vs153 fun a155 a156 a157 a158 a159 a160 a161 a162=>bn .add 3 a162 (i 1) fun t163=>
 oN [a155,a156,a157,a158,a159,a160,a161,t163] h154) (ql 7)
def L8 (c:CH) (ql:QH) (us:List GV) (H:GH):RS:=U7 us fun a164 a165 a166 a167 a168 a169 a170=>jn (bn .lss 3 a170 a169 fun t171=>
 ob (GV.asB t171) fun q172=>jn (bC q172 (oX 2 [a165,a166] H) (oN [a164,a165,a166,a167,a168,a169,a170] H)) fun vs173 h174=>U7 vs173 fun a175 a176 a177 a178 a179 a180 a181=>jn (nB 3 (ix 31 a179 a181 fun t182=>
 ld 65 t182 h174 fun t183=>
 aL (bY y 65 h174) fun t184 h185=>
 aL (aW y 65 t184 t183 h185) fun t186 h187=>
 ld 65 t184 h187 fun t188=>
 K c 67 [t188] h187 fun t189 h190=>
 bn .and 25 t189 a175 fun t191=>
 bn .neq 25 t191 (.int .u32 (.ofNat 0)) fun t192=>
 ob (GV.asB t192) fun q193=>jn (bC q193 (oN [a175,a176,a177,a178,a179,a180,a181] h190) (fd 33 2 a177 fun t194=>
 ld 31 t194 h190 fun t195=>
 ob (Option.casesOn (motive:=fun _=>Option (Option eY)) (ob (GV.asP t194) fun p=>some p.1) (some none) fun k197=>ob (GH.ver h190 k197) fun k198=>some (some (k197,k198))) fun e196=>
 ld 65 t184 h190 fun t199=>
 ob (Option.casesOn (motive:=fun _=>Option (Option eY)) (ob (GV.asP t184) fun p=>some p.1) (some none) fun k201=>ob (GH.ver h190 k201) fun k202=>some (some (k201,k202))) fun e200=>
 K c 29 [t199,a178] h190 fun t203 h204=>
 ob (Ai h204 e196 (some ())) fun _=>
 aL (cV y 31 1 [(0,t203)] h204) fun t205 h206=>
 ob (Ai h206 e196 (some ())) fun _=>
 aL (sT y 31 31 t195 t205 h206) fun t207 h208=>
 ob (some ()) fun _=>
 fd 33 2 a177 fun t209=>
 aL (aW y 31 t209 t207 h208) fun t210 h211=>
 ob (some ()) fun _=>
 oN [a175,a176,a177,a178,a179,a180,a181] h211)) fun vs212 h213=>U7 vs212 fun a214 a215 a216 a217 a218 a219 a220=>oN [a214,a215,a216,a217,a218,a219,a220] h213)) fun vs221 h222=>U7 vs221 fun a223 a224 a225 a226 a227 a228 a229=>bn .add 3 a229 (i 1) fun t230=>
 oN [a223,a224,a225,a226,a227,a228,t230] h222) (ql 8)
def B36 (c:CH) (ql:QH) (us:List GV) (H:GH):RS:=U2 us fun x1 x2=>
 aL (lV x1 H) fun t3 h4=>
 aL (lV x2 h4) fun t5 h6=>
 fd 33 0 t3 fun t7=>
 ld 9 t7 h6 fun t8=>
 fd 33 0 t5 fun t9=>
 ld 9 t9 h6 fun t10=>
 bn .neq 9 t8 t10 fun t11=>
 aL (rG t11 false h6 (ob (cP y 33 1 t3) fun g12=>some (g12,h6))) fun t13 h14=>
 aL (rG t11 false h14 (ob (bQ y 30 t13 h14) fun g15=>some (g15,h14))) fun t16 h17=>
 aL (rG t11 false h17 (ob (sU y 30 t16) fun g18=>some (g18,h17))) fun t19 h20=>
 aL (rG t11 false h20 (ob (cP y 33 1 t5) fun g21=>some (g21,h20))) fun t22 h23=>
 aL (rG t11 false h23 (ob (bQ y 30 t22 h23) fun g24=>some (g24,h23))) fun t25 h26=>
 aL (rG t11 false h26 (ob (sU y 30 t25) fun g27=>some (g27,h26))) fun t28 h29=>
 aL (rG t11 false h29 (ob (f_ y .neq 3 t19 t28) fun g30=>some (g30,h29))) fun t31 h32=>
 ob (cF t11 (.bool true) t31) fun t33=>
 aL (rG t33 false h32 (ob (cP y 33 2 t3) fun g34=>some (g34,h32))) fun t35 h36=>
 aL (rG t33 false h36 (ob (bQ y 31 t35 h36) fun g37=>some (g37,h36))) fun t38 h39=>
 aL (rG t33 false h39 (ob (sU y 31 t38) fun g40=>some (g40,h39))) fun t41 h42=>
 aL (rG t33 false h42 (ob (cP y 33 2 t5) fun g43=>some (g43,h42))) fun t44 h45=>
 aL (rG t33 false h45 (ob (bQ y 31 t44 h45) fun g46=>some (g46,h45))) fun t47 h48=>
 aL (rG t33 false h48 (ob (sU y 31 t47) fun g49=>some (g49,h48))) fun t50 h51=>
 aL (rG t33 false h51 (ob (f_ y .neq 3 t41 t50) fun g52=>some (g52,h51))) fun t53 h54=>
 ob (cF t33 (.bool true) t53) fun t55=>
 ob (GV.asB t55) fun q56=>jn (bC q56 (oN [t3,t5] h54) (oR [(.bool false)] h54)) fun vs57 h58=>U2 vs57 fun a59 a60=>jn (nB 0 (ql 9 [a59,a60,(i 0)] h58)) fun vs61 h62=>U2 vs61 fun a63 a64=>jn (nB 2 (ql 10 [a63,a64,(i 0)] h62)) fun vs65 h66=>U0 vs65 (oR [(.bool true)] h66)
def L9 (c:CH) (ql:QH) (us:List GV) (H:GH):RS:=U3 us fun a67 a68 a69=>jn (fd 33 1 a67 fun t70=>
 ld 30 t70 H fun t71=>
 ln 30 t71 fun t72=>
 bn .lss 3 a69 t72 fun t73=>
 ob (GV.asB t73) fun q74=>jn (bC q74 (oX 0 [a67,a68] H) (oN [a67,a68,a69] H)) fun vs75 h76=>U3 vs75 fun a77 a78 a79=>jn (nB 1 (fd 33 1 a77 fun t80=>
 ld 30 t80 h76 fun t81=>
 ix 30 t81 a79 fun t82=>
 ld 60 t82 h76 fun t83=>
 fd 33 1 a78 fun t84=>
 ld 30 t84 h76 fun t85=>
 ix 30 t85 a79 fun t86=>
 ld 60 t86 h76 fun t87=>
 bn .neq 60 t83 t87 fun t88=>
 ob (GV.asB t88) fun q89=>jn (bC q89 (oN [a77,a78,a79] h76) (oR [(.bool false)] h76)) fun vs90 h91=>U3 vs90 fun a92 a93 a94=>oN [a92,a93,a94] h91)) fun vs95 h96=>U3 vs95 fun a97 a98 a99=>bn .add 3 a99 (i 1) fun t100=>
 oN [a97,a98,t100] h96) (ql 9)
def L10 (c:CH) (ql:QH) (us:List GV) (H:GH):RS:=U3 us fun a101 a102 a103=>jn (fd 33 2 a101 fun t104=>
 ld 31 t104 H fun t105=>
 ln 31 t105 fun t106=>
 bn .lss 3 a103 t106 fun t107=>
 ob (GV.asB t107) fun q108=>jn (bC q108 (oX 2 [] H) (oN [a101,a102,a103] H)) fun vs109 h110=>U3 vs109 fun a111 a112 a113=>jn (nB 3 (fd 33 2 a111 fun t114=>
 ld 31 t114 h110 fun t115=>
 ob (Option.casesOn (motive:=fun _=>Option (Option eY)) (ob (GV.asP t114) fun p=>some p.1) (some none) fun k117=>ob (GH.ver h110 k117) fun k118=>some (some (k117,k118))) fun e116=>
 ix 31 t115 a113 fun t119=>
 ld 65 t119 h110 fun t120=>
 ob (Option.casesOn (motive:=fun _=>Option (Option eY)) (ob (GV.asP t119) fun p=>some p.1) (some none) fun k122=>ob (GH.ver h110 k122) fun k123=>some (some (k122,k123))) fun e121=>
 fd 33 2 a112 fun t124=>
 ld 31 t124 h110 fun t125=>
 ob (Option.casesOn (motive:=fun _=>Option (Option eY)) (ob (GV.asP t124) fun p=>some p.1) (some none) fun k127=>ob (GH.ver h110 k127) fun k128=>some (some (k127,k128))) fun e126=>
 ix 31 t125 a113 fun t129=>
 ld 65 t129 h110 fun t130=>
 ob (Option.casesOn (motive:=fun _=>Option (Option eY)) (ob (GV.asP t129) fun p=>some p.1) (some none) fun k132=>ob (GH.ver h110 k132) fun k133=>some (some (k132,k133))) fun e131=>
 aL (bY y 65 h110) fun t134 h135=>
 ob (Ai h135 e131 (Ai h135 e126 (Ai h135 e121 (Ai h135 e116 (some ()))))) fun _=>
 aL (bY y 65 h135) fun t136 h137=>
 ob (Ai h137 e131 (Ai h137 e126 (Ai h137 e121 (Ai h137 e116 (some ()))))) fun _=>
 aL (aW y 65 t134 t120 h137) fun t138 h139=>
 ob (Ai h139 e131 (Ai h139 e126 (some ()))) fun _=>
 aL (aW y 65 t136 t130 h139) fun t140 h141=>
 ob (some ()) fun _=>
 fd 65 0 t134 fun t142=>
 ld 9 t142 h141 fun t143=>
 fd 65 0 t136 fun t144=>
 ld 9 t144 h141 fun t145=>
 bn .neq 9 t143 t145 fun t146=>
 aL (rG t146 false h141 (ob (cP y 65 1 t134) fun g147=>some (g147,h141))) fun t148 h149=>
 aL (rG t146 false h149 (ob (bQ y 62 t148 h149) fun g150=>some (g150,h149))) fun t151 h152=>
 aL (rG t146 false h152 (ob (cP y 65 1 t136) fun g153=>some (g153,h152))) fun t154 h155=>
 aL (rG t146 false h155 (ob (bQ y 62 t154 h155) fun g156=>some (g156,h155))) fun t157 h158=>
 aL (rG t146 false h158 (aL (c 68 [t151,t157] h158) sJ)) fun t159 h160=>
 aL (rG t146 false h160 (ob (uO .not t159) fun g161=>some (g161,h160))) fun t162 h163=>
 ob (cF t146 (.bool true) t162) fun t164=>
 aL (rG t164 false h163 (ob (cP y 65 2 t134) fun g165=>some (g165,h163))) fun t166 h167=>
 aL (rG t164 false h167 (ob (bQ y 63 t166 h167) fun g168=>some (g168,h167))) fun t169 h170=>
 aL (rG t164 false h170 (ob (sU y 63 t169) fun g171=>some (g171,h170))) fun t172 h173=>
 aL (rG t164 false h173 (ob (cP y 65 2 t136) fun g174=>some (g174,h173))) fun t175 h176=>
 aL (rG t164 false h176 (ob (bQ y 63 t175 h176) fun g177=>some (g177,h176))) fun t178 h179=>
 aL (rG t164 false h179 (ob (sU y 63 t178) fun g180=>some (g180,h179))) fun t181 h182=>
 aL (rG t164 false h182 (ob (f_ y .neq 3 t172 t181) fun g183=>some (g183,h182))) fun t184 h185=>
 ob (cF t164 (.bool true) t184) fun t186=>
 ob (GV.asB t186) fun q187=>jn (bC q187 (oN [a111,a112,a113,t134,t136] h185) (oR [(.bool false)] h185)) fun vs188 h189=>U5 vs188 fun a190 a191 a192 a193 a194=>jn (nB 4 (ql 11 [a190,a191,a192,a193,a194,(i 0)] h189)) fun vs195 h196=>U3 vs195 fun a197 a198 a199=>oN [a197,a198,a199] h196)) fun vs200 h201=>U3 vs200 fun a202 a203 a204=>bn .add 3 a204 (i 1) fun t205=>
 oN [a202,a203,t205] h201) (ql 10)
def L11 (c:CH) (ql:QH) (us:List GV) (H:GH):RS:=U6 us fun a206 a207 a208 a209 a210 a211=>jn (fd 65 2 a209 fun t212=>
 ld 63 t212 H fun t213=>
 ln 63 t213 fun t214=>
 bn .lss 3 a211 t214 fun t215=>
 ob (GV.asB t215) fun q216=>jn (bC q216 (oX 4 [a206,a207,a208] H) (oN [a206,a207,a208,a209,a210,a211] H)) fun vs217 h218=>U6 vs217 fun a219 a220 a221 a222 a223 a224=>jn (nB 5 (fd 65 2 a222 fun t225=>
 ld 63 t225 h218 fun t226=>
 ix 63 t226 a224 fun t227=>
 fd 68 0 t227 fun t228=>
 ld 3 t228 h218 fun t229=>
 fd 65 2 a223 fun t230=>
 ld 63 t230 h218 fun t231=>
 ix 63 t231 a224 fun t232=>
 fd 68 0 t232 fun t233=>
 ld 3 t233 h218 fun t234=>
 bn .neq 3 t229 t234 fun t235=>
 aL (rG t235 false h218 (ob (cP y 65 2 a222) fun g236=>some (g236,h218))) fun t237 h238=>
 aL (rG t235 false h238 (ob (bQ y 63 t237 h238) fun g239=>some (g239,h238))) fun t240 h241=>
 aL (rG t235 false h241 (some (a224,h241))) fun t242 h243=>
 aL (rG t235 false h243 (ob (Be y 63 t240 t242) fun g244=>some (g244,h243))) fun t245 h246=>
 aL (rG t235 false h246 (ob (cP y 68 1 t245) fun g247=>some (g247,h246))) fun t248 h249=>
 aL (rG t235 false h249 (ob (bQ y 62 t248 h249) fun g250=>some (g250,h249))) fun t251 h252=>
 aL (rG t235 false h252 (ob (cP y 65 2 a223) fun g253=>some (g253,h252))) fun t254 h255=>
 aL (rG t235 false h255 (ob (bQ y 63 t254 h255) fun g256=>some (g256,h255))) fun t257 h258=>
 aL (rG t235 false h258 (some (a224,h258))) fun t259 h260=>
 aL (rG t235 false h260 (ob (Be y 63 t257 t259) fun g261=>some (g261,h260))) fun t262 h263=>
 aL (rG t235 false h263 (ob (cP y 68 1 t262) fun g264=>some (g264,h263))) fun t265 h266=>
 aL (rG t235 false h266 (ob (bQ y 62 t265 h266) fun g267=>some (g267,h266))) fun t268 h269=>
 aL (rG t235 false h269 (aL (c 68 [t251,t268] h269) sJ)) fun t270 h271=>
 aL (rG t235 false h271 (ob (uO .not t270) fun g272=>some (g272,h271))) fun t273 h274=>
 ob (cF t235 (.bool true) t273) fun t275=>
 ob (GV.asB t275) fun q276=>jn (bC q276 (oN [a219,a220,a221,a222,a223,a224] h274) (oR [(.bool false)] h274)) fun vs277 h278=>U6 vs277 fun a279 a280 a281 a282 a283 a284=>oN [a279,a280,a281,a282,a283,a284] h278)) fun vs285 h286=>U6 vs285 fun a287 a288 a289 a290 a291 a292=>bn .add 3 a292 (i 1) fun t293=>
 oN [a287,a288,a289,a290,a291,t293] h286) (ql 11)
def B37 (c:CH) (ql:QH) (us:List GV) (H:GH):RS:=U2 us fun x1 x2=>
 aL (lV x1 H) fun t3 h4=>
 ld 33 t3 h4 fun t5=>
 K c 23 [t5] h4 fun t6 h7=>
 ob (uO .not t6) fun t8=>
 aL (rG t8 false h7 (some (x2,h7))) fun t9 h10=>
 aL (rG t8 false h10 (ob (cP y 33 1 t3) fun g11=>some (g11,h10))) fun t12 h13=>
 aL (rG t8 false h13 (ob (bQ y 30 t12 h13) fun g14=>some (g14,h13))) fun t15 h16=>
 aL (rG t8 false h16 (ob (sU y 30 t15) fun g17=>some (g17,h16))) fun t18 h19=>
 aL (rG t8 false h19 (ob (f_ y .shr 25 t9 t18) fun g20=>some (g20,h19))) fun t21 h22=>
 aL (rG t8 false h22 (ob (f_ y .neq 25 t21 (.int .u32 (.ofNat 0))) fun g23=>some (g23,h22))) fun t24 h25=>
 ob (cF t8 (.bool true) t24) fun t26=>
 ob (GV.asB t26) fun q27=>jn (bC q27 (oN [x2,t3] h25) (oR [(.bool false)] h25)) fun vs28 h29=>U2 vs28 fun a30 a31=>fd 33 2 a31 fun t32=>
 ld 31 t32 h29 fun t33=>
 ln 31 t33 fun t34=>
 jn (nB 0 (ql 12 [a30,t33,t34,(i 0)] h29)) fun vs35 h36=>U0 vs35 (oR [(.bool true)] h36)
def L12 (c:CH) (ql:QH) (us:List GV) (H:GH):RS:=U4 us fun a37 a38 a39 a40=>jn (bn .lss 3 a40 a39 fun t41=>
 ob (GV.asB t41) fun q42=>jn (bC q42 (oX 0 [] H) (oN [a37,a38,a39,a40] H)) fun vs43 h44=>U4 vs43 fun a45 a46 a47 a48=>jn (nB 1 (ix 31 a46 a48 fun t49=>
 ld 65 t49 h44 fun t50=>
 aL (bY y 65 h44) fun t51 h52=>
 aL (aW y 65 t51 t50 h52) fun t53 h54=>
 ld 65 t51 h54 fun t55=>
 ob (Option.casesOn (motive:=fun _=>Option (Option eY)) (ob (GV.asP t51) fun p=>some p.1) (some none) fun k57=>ob (GH.ver h54 k57) fun k58=>some (some (k57,k58))) fun e56=>
 K c 67 [t55] h54 fun t59 h60=>
 ob (some ()) fun _=>
 bn .and 25 t59 a45 fun t61=>
 bn .neq 25 t61 (.int .u32 (.ofNat 0)) fun t62=>
 aL (rG t62 true h60 (ob (bQ y 65 t51 h60) fun g63=>some (g63,h60))) fun t64 h65=>
 ob (Option.casesOn (motive:=fun _=>Option (Option eY)) (ob (GV.asP t51) fun p=>some p.1) (some none) fun k67=>ob (GH.ver h60 k67) fun k68=>some (some (k67,k68))) fun e66=>
 aL (rG t62 true h65 (aL (c 67 [t64] h65) sJ)) fun t69 h70=>
 ob (some ()) fun _=>
 aL (rG t62 true h70 (ob (bQ y 65 t51 h70) fun g71=>some (g71,h70))) fun t72 h73=>
 ob (Option.casesOn (motive:=fun _=>Option (Option eY)) (ob (GV.asP t51) fun p=>some p.1) (some none) fun k75=>ob (GH.ver h70 k75) fun k76=>Tn h65 k75 k76 (some (some (k75,k76)))) fun e74=>
 aL (rG t62 true h73 (aL (c 69 [t72] h73) sJ)) fun t77 h78=>
 ob (some ()) fun _=>
 aL (rG t62 true h78 (ob (f_ y .or 25 t69 t77) fun g79=>some (g79,h78))) fun t80 h81=>
 aL (rG t62 true h81 (some (a45,h81))) fun t82 h83=>
 aL (rG t62 true h83 (ob (f_ y .andNot 25 t80 t82) fun g84=>some (g84,h83))) fun t85 h86=>
 aL (rG t62 true h86 (ob (f_ y .neq 25 t85 (.int .u32 (.ofNat 0))) fun g87=>some (g87,h86))) fun t88 h89=>
 ob (cF t62 t88 (.bool false)) fun t90=>
 ob (GV.asB t90) fun q91=>jn (bC q91 (oN [a45,a46,a47,a48] h89) (oR [(.bool false)] h89)) fun vs92 h93=>U4 vs92 fun a94 a95 a96 a97=>oN [a94,a95,a96,a97] h93)) fun vs98 h99=>U4 vs98 fun a100 a101 a102 a103=>bn .add 3 a103 (i 1) fun t104=>
 oN [a100,a101,a102,t104] h99) (ql 12)
def B41 (c:CH) (ql:QH) (us:List GV) (H:GH):RS:=U2 us fun x1 x2=>
 K c 55 [x1,x2] H fun t3 h4=>
 bn .geq 3 t3 (i 0) fun t5=>
 oR [t5] h4
def B42 (c:CH) (ql:QH) (us:List GV) (H:GH):RS:=U2 us fun x1 x2=>
 aL (lV x1 H) fun t3 h4=>
 ld 33 x2 h4 fun t5=>
 fd 60 0 t3 fun t6=>
 ld 9 t6 h4 fun t7=>
 K c 25 [t5,t7] h4 fun t8 h9=>
 bn .geq 3 t8 (i 0) fun t10=>
 oR [t10] h9
def B43 (c:CH) (ql:QH) (us:List GV) (H:GH):RS:=U1 us fun x1=>
 ln 126 x1 fun t2=>
 jn (nB 0 (ql 13 [x1,(i 0),x1,t2,(i 0)] H)) fun vs3 h4=>U2 vs3 fun a5 a6=>K c 73 [.snil,a6] h4 fun t7 h8=>
 ln 126 a5 fun t9=>
 jn (nB 2 (ql 14 [t7,a5,t9,(i 0)] h8)) fun vs10 h11=>U1 vs10 fun a12=>oR [a12] h11
def L13 (c:CH) (ql:QH) (us:List GV) (H:GH):RS:=U5 us fun a13 a14 a15 a16 a17=>jn (bn .lss 3 a17 a16 fun t18=>
 ob (GV.asB t18) fun q19=>jn (bC q19 (oX 0 [a13,a14] H) (oN [a13,a14,a15,a16,a17] H)) fun vs20 h21=>U5 vs20 fun a22 a23 a24 a25 a26=>jn (nB 1 (ix 126 a24 a26 fun t27=>
 ld 30 t27 h21 fun t28=>
 ln 30 t28 fun t29=>
 bn .add 3 a23 t29 fun t30=>
 bn .lss 3 t30 (i 0) fun t31=>
 ob (GV.asB t31) fun q32=>jn (bC q32 (oN [a22,t30,a24,a25,a26] h21) (none)) fun vs33 h34=>U5 vs33 fun a35 a36 a37 a38 a39=>oN [a35,a36,a37,a38,a39] h34)) fun vs40 h41=>U5 vs40 fun a42 a43 a44 a45 a46=>bn .add 3 a46 (i 1) fun t47=>
 oN [a42,a43,a44,a45,t47] h41) (ql 13)
def L14 (c:CH) (ql:QH) (us:List GV) (H:GH):RS:=U4 us fun a48 a49 a50 a51=>jn (bn .lss 3 a51 a50 fun t52=>
 ob (GV.asB t52) fun q53=>jn (bC q53 (oX 2 [a48] H) (oN [a48,a49,a50,a51] H)) fun vs54 h55=>U4 vs54 fun a56 a57 a58 a59=>jn (nB 3 (ix 126 a57 a59 fun t60=>
 ld 30 t60 h55 fun t61=>
 aL (sT y 30 30 a56 t61 h55) fun t62 h63=>
 oN [t62,a57,a58,a59] h63)) fun vs64 h65=>U4 vs64 fun a66 a67 a68 a69=>bn .add 3 a69 (i 1) fun t70=>
 oN [a66,a67,a68,t70] h65) (ql 14)
def B44 (c:CH) (ql:QH) (us:List GV) (H:GH):RS:=U4 us fun x1 x2 x3 x4=>
 aL (lV x2 H) fun t5 h6=>
 bd 130 [(0,(i 41))] fun t7=>
 ob (GV.nilck x1) fun t8=>
 fd 87 0 t8 fun t9=>
 ld 3 t9 h6 fun t10=>
 bd 130 [(0,(i 5)),(1,t10)] fun t11=>
 aL (cV y 62 2 [(0,t7),(1,t11)] h6) fun t12 h13=>
 bd 130 [(0,(i 3))] fun t14=>
 aL (bY y 130 h13) fun t15 h16=>
 aL (aW y 130 t15 t14 h16) fun t17 h18=>
 ob (uO .not x4) fun t19=>
 ob (GV.asB t19) fun q20=>jn (bC q20 (oN [x1,x3,t5,t12,t15] h18) (bd 130 [(0,(i 41))] fun t21=>
 bd 130 [(0,(i 19))] fun t22=>
 ob (GV.nilck x1) fun t23=>
 fd 87 0 t23 fun t24=>
 ld 3 t24 h18 fun t25=>
 bd 130 [(0,(i 5)),(1,t25)] fun t26=>
 aL (cV y 62 3 [(0,t21),(1,t22),(2,t26)] h18) fun t27 h28=>
 bd 130 [(0,(i 2))] fun t29=>
 aL (aW y 130 t15 t29 h28) fun t30 h31=>
 oN [x1,x3,t5,t27,t15] h31)) fun vs32 h33=>U5 vs32 fun a34 a35 a36 a37 a38=>fd 33 2 a36 fun t39=>
 ld 31 t39 h33 fun t40=>
 ln 31 t40 fun t41=>
 jn (nB 0 (ql 15 [a34,a35,a37,a38,t40,t41,(i 0)] h33)) fun vs42 h43=>U0 vs42 (oR [] h43)
def L15 (c:CH) (ql:QH) (us:List GV) (H:GH):RS:=U7 us fun a44 a45 a46 a47 a48 a49 a50=>jn (bn .lss 3 a50 a49 fun t51=>
 ob (GV.asB t51) fun q52=>jn (bC q52 (oX 0 [] H) (oN [a44,a45,a46,a47,a48,a49,a50] H)) fun vs53 h54=>U7 vs53 fun a55 a56 a57 a58 a59 a60 a61=>jn (nB 1 (ix 31 a59 a61 fun t62=>
 ld 65 t62 h54 fun t63=>
 aL (bY y 65 h54) fun t64 h65=>
 aL (aW y 65 t64 t63 h65) fun t66 h67=>
 ld 65 t64 h67 fun t68=>
 K c 29 [t68,a56] h67 fun t69 h70=>
 aL (bY y 65 h70) fun t71 h72=>
 aL (aW y 65 t71 t69 h72) fun t73 h74=>
 fd 65 0 t71 fun t75=>
 ld 9 t75 h74 fun t76=>
 bn .add 9 t76 (.str 49 1) fun t77=>
 fd 65 0 t71 fun t78=>
 aL (aW y 9 t78 t77 h74) fun t79 h80=>
 fd 65 1 t71 fun t81=>
 ld 62 t81 h80 fun t82=>
 aL (cV y 169 2 [(0,a57),(1,t82)] h80) fun t83 h84=>
 K c 74 [t83] h84 fun t85 h86=>
 fd 65 1 t71 fun t87=>
 aL (aW y 62 t87 t85 h86) fun t88 h89=>
 fd 65 2 t71 fun t90=>
 ld 63 t90 h89 fun t91=>
 ob (Option.casesOn (motive:=fun _=>Option (Option eY)) (ob (GV.asP t90) fun p=>some p.1) (some none) fun k93=>ob (GH.ver h89 k93) fun k94=>some (some (k93,k94))) fun e92=>
 ob (GV.nilck a55) fun t95=>
 fd 87 0 t95 fun t96=>
 ld 3 t96 h89 fun t97=>
 ob (Option.casesOn (motive:=fun _=>Option (Option eY)) (ob (GV.asP t96) fun p=>some p.1) (some none) fun k99=>ob (GH.ver h89 k99) fun k100=>some (some (k99,k100))) fun e98=>
 ld 130 a58 h89 fun t101=>
 ob (Option.casesOn (motive:=fun _=>Option (Option eY)) (ob (GV.asP a58) fun p=>some p.1) (some none) fun k103=>ob (GH.ver h89 k103) fun k104=>some (some (k103,k104))) fun e102=>
 aL (cV y 62 1 [(0,t101)] h89) fun t105 h106=>
 ob (Ai h106 e98 (Ai h106 e92 (some ()))) fun _=>
 bd 68 [(0,t97),(1,t105)] fun t107=>
 aL (cV y 63 1 [(0,t107)] h106) fun t108 h109=>
 ob (Ai h109 e92 (some ())) fun _=>
 aL (sT y 63 63 t91 t108 h109) fun t110 h111=>
 ob (some ()) fun _=>
 fd 65 2 t71 fun t112=>
 aL (aW y 63 t112 t110 h111) fun t113 h114=>
 ob (some ()) fun _=>
 ob (GV.nilck a55) fun t115=>
 fd 87 1 t115 fun t116=>
 ld 31 t116 h114 fun t117=>
 ob (Option.casesOn (motive:=fun _=>Option (Option eY)) (ob (GV.asP t116) fun p=>some p.1) (some none) fun k119=>ob (GH.ver h114 k119) fun k120=>some (some (k119,k120))) fun e118=>
 ld 65 t71 h114 fun t121=>
 ob (Option.casesOn (motive:=fun _=>Option (Option eY)) (ob (GV.asP t71) fun p=>some p.1) (some none) fun k123=>ob (GH.ver h114 k123) fun k124=>some (some (k123,k124))) fun e122=>
 aL (cV y 31 1 [(0,t121)] h114) fun t125 h126=>
 ob (Ai h126 e118 (some ())) fun _=>
 aL (sT y 31 31 t117 t125 h126) fun t127 h128=>
 ob (some ()) fun _=>
 ob (GV.nilck a55) fun t129=>
 fd 87 1 t129 fun t130=>
 aL (aW y 31 t130 t127 h128) fun t131 h132=>
 ob (some ()) fun _=>
 oN [a55,a56,a57,a58,a59,a60,a61] h132)) fun vs133 h134=>U7 vs133 fun a135 a136 a137 a138 a139 a140 a141=>bn .add 3 a141 (i 1) fun t142=>
 oN [a135,a136,a137,a138,a139,a140,t142] h134) (ql 15)
def B45 (c:CH) (ql:QH) (us:List GV) (H:GH):RS:=U3 us fun x1 x2 x3=>
 aL (lV x2 H) fun t4 h5=>
 fd 33 2 t4 fun t6=>
 ld 31 t6 h5 fun t7=>
 ln 31 t7 fun t8=>
 jn (nB 0 (ql 16 [x1,x3,t7,t8,(i 0)] h5)) fun vs9 h10=>U0 vs9 (oR [] h10)
def L16 (c:CH) (ql:QH) (us:List GV) (H:GH):RS:=U5 us fun a11 a12 a13 a14 a15=>jn (bn .lss 3 a15 a14 fun t16=>
 ob (GV.asB t16) fun q17=>jn (bC q17 (oX 0 [] H) (oN [a11,a12,a13,a14,a15] H)) fun vs18 h19=>U5 vs18 fun a20 a21 a22 a23 a24=>jn (nB 1 (ix 31 a22 a24 fun t25=>
 ld 65 t25 h19 fun t26=>
 aL (bY y 65 h19) fun t27 h28=>
 aL (aW y 65 t27 t26 h28) fun t29 h30=>
 ld 65 t27 h30 fun t31=>
 K c 29 [t31,a21] h30 fun t32 h33=>
 aL (bY y 65 h33) fun t34 h35=>
 aL (aW y 65 t34 t32 h35) fun t36 h37=>
 fd 65 0 t34 fun t38=>
 ld 9 t38 h37 fun t39=>
 bn .add 9 t39 (.str 50 1) fun t40=>
 fd 65 0 t34 fun t41=>
 aL (aW y 9 t41 t40 h37) fun t42 h43=>
 ob (GV.nilck a20) fun t44=>
 fd 87 1 t44 fun t45=>
 ld 31 t45 h43 fun t46=>
 ob (Option.casesOn (motive:=fun _=>Option (Option eY)) (ob (GV.asP t45) fun p=>some p.1) (some none) fun k48=>ob (GH.ver h43 k48) fun k49=>some (some (k48,k49))) fun e47=>
 ld 65 t34 h43 fun t50=>
 ob (Option.casesOn (motive:=fun _=>Option (Option eY)) (ob (GV.asP t34) fun p=>some p.1) (some none) fun k52=>ob (GH.ver h43 k52) fun k53=>some (some (k52,k53))) fun e51=>
 aL (cV y 31 1 [(0,t50)] h43) fun t54 h55=>
 ob (Ai h55 e47 (some ())) fun _=>
 aL (sT y 31 31 t46 t54 h55) fun t56 h57=>
 ob (some ()) fun _=>
 ob (GV.nilck a20) fun t58=>
 fd 87 1 t58 fun t59=>
 aL (aW y 31 t59 t56 h57) fun t60 h61=>
 ob (some ()) fun _=>
 oN [a20,a21,a22,a23,a24] h61)) fun vs62 h63=>U5 vs62 fun a64 a65 a66 a67 a68=>bn .add 3 a68 (i 1) fun t69=>
 oN [a64,a65,a66,a67,t69] h63) (ql 16)
def B46 (c:CH) (ql:QH) (us:List GV) (H:GH):RS:=U2 us fun x1 x2=>
 ln 62 x1 fun t3=>
 bn .gtr 3 t3 (i 200) fun t4=>
 aL (rG t4 false H (some (x1,H))) fun t5 h6=>
 aL (rG t4 false h6 (aL (c 75 [t5,(i 0)] h6) sJ)) fun t7 h8=>
 aL (rG t4 false h8 (some (x1,h8))) fun t9 h10=>
 aL (rG t4 false h10 (ob (sU y 62 t9) fun g11=>some (g11,h10))) fun t12 h13=>
 aL (rG t4 false h13 (ob (f_ y .neq 3 t7 t12) fun g14=>some (g14,h13))) fun t15 h16=>
 ob (cF t4 (.bool true) t15) fun t17=>
 ob (GV.asB t17) fun q18=>jn (bC q18 (oN [x1,x2] h16) (oR [(.bool false)] h16)) fun vs19 h20=>U2 vs19 fun a21 a22=>ln 62 a21 fun t23=>
 jn (nB 0 (ql 17 [a21,a22,a21,t23,(i 0)] h20)) fun vs24 h25=>U1 vs24 fun a26=>K c 77 [a26] h25 fun t27 h28=>
 bn .leq 3 t27 (i 24) fun t29=>
 aL (rG t29 true h28 (some (a26,h28))) fun t30 h31=>
 aL (rG t29 true h31 (aL (c 78 [t30] h31) sJ)) fun t32 h33=>
 aL (rG t29 true h33 (ob (f_ y .leq 3 t32 (i 2)) fun g34=>some (g34,h33))) fun t35 h36=>
 ob (cF t29 t35 (.bool false)) fun t37=>
 oR [t37] h36
def L17 (c:CH) (ql:QH) (us:List GV) (H:GH):RS:=U5 us fun a38 a39 a40 a41 a42=>jn (bn .lss 3 a42 a41 fun t43=>
 ob (GV.asB t43) fun q44=>jn (bC q44 (oX 0 [a38] H) (oN [a38,a39,a40,a41,a42] H)) fun vs45 h46=>U5 vs45 fun a47 a48 a49 a50 a51=>jn (nB 1 (ix 62 a49 a51 fun t52=>
 ld 130 t52 h46 fun t53=>
 aL (bY y 130 h46) fun t54 h55=>
 aL (aW y 130 t54 t53 h55) fun t56 h57=>
 ld 130 t54 h57 fun t58=>
 K c 76 [t58,a48] h57 fun t59 h60=>
 ob (uO .not t59) fun t61=>
 ob (GV.asB t61) fun q62=>jn (bC q62 (oN [a47,a48,a49,a50,a51] h60) (oR [(.bool false)] h60)) fun vs63 h64=>U5 vs63 fun a65 a66 a67 a68 a69=>oN [a65,a66,a67,a68,a69] h64)) fun vs70 h71=>U5 vs70 fun a72 a73 a74 a75 a76=>bn .add 3 a76 (i 1) fun t77=>
 oN [a72,a73,a74,a75,t77] h71) (ql 17)
def B51 (c:CH) (ql:QH) (us:List GV) (H:GH):RS:=U1 us fun x1=>
 ln 9 x1 fun t2=>
 bn .gtr 3 t2 (i 16384) fun t3=>
 ob (GV.asB t3) fun q4=>jn (bC q4 (oN [x1] H) (oR [.snil,(i 0),(i 3)] H)) fun vs5 h6=>U1 vs5 fun a7=>K c 83 [a7,(i 0)] h6 fun t8 h9=>
 jn (nB 0 (ql 18 [a7,.snil,t8] h9)) fun vs10 h11=>U1 vs10 fun a12=>oR [a12,(i 0),(i 0)] h11
def L18 (c:CH) (ql:QH) (us:List GV) (H:GH):RS:=U3 us fun a13 a14 a15=>jn (ln 9 a13 fun t16=>
 bn .lss 3 a15 t16 fun t17=>
 ob (GV.asB t17) fun q18=>jn (bC q18 (oX 0 [a14] H) (oN [a13,a14,a15] H)) fun vs19 h20=>U3 vs19 fun a21 a22 a23=>jn (nB 1 (ln 94 a22 fun t24=>
 bn .eql 3 t24 (i 4096) fun t25=>
 ob (GV.asB t25) fun q26=>jn (bC q26 (oN [a21,a22,a23] h20) (oR [.snil,a23,(i 3)] h20)) fun vs27 h28=>U3 vs27 fun a29 a30 a31=>K c 84 [a29,a31] h28 fun t32 h33=>
 ex 0 t32 fun t34=>
 ex 1 t32 fun t35=>
 aL (bY y 145 h33) fun t36 h37=>
 aL (aW y 145 t36 t34 h37) fun t38 h39=>
 bn .neq 37 t35 (i 0) fun t40=>
 ob (GV.asB t40) fun q41=>jn (bC q41 (oN [a29,a30,t36] h39) (oR [.snil,a31,t35] h39)) fun vs42 h43=>U3 vs42 fun a44 a45 a46=>ld 145 a46 h43 fun t47=>
 aL (cV y 94 1 [(0,t47)] h43) fun t48 h49=>
 aL (sT y 94 94 a45 t48 h49) fun t50 h51=>
 fd 145 2 a46 fun t52=>
 ld 3 t52 h51 fun t53=>
 K c 83 [a44,t53] h51 fun t54 h55=>
 oN [a44,t50,t54] h55)) fun vs56 h57=>U3 vs56 fun a58 a59 a60=>oN [a58,a59,a60] h57) (ql 18)
def B53 (c:CH) (ql:QH) (us:List GV) (H:GH):RS:=U1 us fun x1=>
 ob (GV.nilck x1) fun t2=>
 fd 102 0 t2 fun t3=>
 K c 87 [t3,(.str 30787916450984560 7)] H fun t4 h5=>
 K c 88 [x1,.snil] h5 fun t6 h7=>
 ob (GV.nilck x1) fun t8=>
 fd 102 1 t8 fun t9=>
 fd 33 0 t9 fun t10=>
 aL (aW y 9 t10 t6 h7) fun t11 h12=>
 ob (GV.nilck x1) fun t13=>
 fd 102 0 t13 fun t14=>
 K c 87 [t14,(.str 59 1)] h12 fun t15 h16=>
 K c 89 [x1,(.str 7496054 3),(i 6),(.fn 90 [x1] [])] h16 fun t17 h18=>
 K c 89 [x1,(.str 1701606770 4),(i 12),(.fn 91 [x1] [])] h18 fun t19 h20=>
 ob (GV.nilck x1) fun t21=>
 fd 102 0 t21 fun t22=>
 K c 92 [t22] h20 fun t23 h24=>
 ob (uO .not t23) fun t25=>
 ob (GV.asB t25) fun q26=>jn (bC q26 (oN [] h24) (ob (GV.nilck x1) fun t27=>
 fd 102 0 t27 fun t28=>
 K c 93 [t28,(i 4)] h24 fun t29 h30=>
 oN [] h30)) fun vs31 h32=>U0 vs31 (oR [] h32)
def B54 (c:CH) (ql:QH) (us:List GV) (H:GH):RS:=U1 us fun x1=>
 aL (lV x1 H) fun t2 h3=>
 fd 33 1 t2 fun t4=>
 ld 30 t4 h3 fun t5=>
 ln 30 t5 fun t6=>
 bn .eql 3 t6 (i 0) fun t7=>
 aL (rG t7 false h3 (ob (cP y 33 1 t2) fun g8=>some (g8,h3))) fun t9 h10=>
 aL (rG t7 false h10 (ob (bQ y 30 t9 h10) fun g11=>some (g11,h10))) fun t12 h13=>
 aL (rG t7 false h13 (ob (sU y 30 t12) fun g14=>some (g14,h13))) fun t15 h16=>
 aL (rG t7 false h16 (ob (f_ y .gtr 3 t15 (i 6)) fun g17=>some (g17,h16))) fun t18 h19=>
 ob (cF t7 (.bool true) t18) fun t20=>
 aL (rG t20 false h19 (ob (cP y 33 2 t2) fun g21=>some (g21,h19))) fun t22 h23=>
 aL (rG t20 false h23 (ob (bQ y 31 t22 h23) fun g24=>some (g24,h23))) fun t25 h26=>
 aL (rG t20 false h26 (ob (sU y 31 t25) fun g27=>some (g27,h26))) fun t28 h29=>
 aL (rG t20 false h29 (ob (f_ y .gtr 3 t28 (i 12)) fun g30=>some (g30,h29))) fun t31 h32=>
 ob (cF t20 (.bool true) t31) fun t33=>
 ob (GV.asB t33) fun q34=>jn (bC q34 (oN [t2] h32) (oR [(i 3)] h32)) fun vs35 h36=>U1 vs35 fun a37=>ld 33 a37 h36 fun t38=>
 K c 94 [t38] h36 fun t39 h40=>
 ob (uO .not t39) fun t41=>
 ob (GV.asB t41) fun q42=>jn (bC q42 (oN [a37] h40) (oR [(i 5)] h40)) fun vs43 h44=>U1 vs43 fun a45=>fd 33 1 a45 fun t46=>
 ld 30 t46 h44 fun t47=>
 ln 30 t47 fun t48=>
 jn (nB 0 (ql 19 [a45,t47,t48,(i 0)] h44)) fun vs49 h50=>U1 vs49 fun a51=>fd 33 2 a51 fun t52=>
 ld 31 t52 h50 fun t53=>
 ln 31 t53 fun t54=>
 jn (nB 2 (ql 20 [a51,t53,t54,(i 0)] h50)) fun vs55 h56=>U1 vs55 fun a57=>ld 33 a57 h56 fun t58=>
 K c 97 [t58] h56 fun t59 h60=>
 fd 33 2 a57 fun t61=>
 ld 31 t61 h60 fun t62=>
 ln 31 t62 fun t63=>
 jn (nB 4 (ql 21 [t59,t62,t63,(i 0)] h60)) fun vs64 h65=>U0 vs64 (oR [(i 0)] h65)
def L19 (c:CH) (ql:QH) (us:List GV) (H:GH):RS:=U4 us fun a66 a67 a68 a69=>jn (bn .lss 3 a69 a68 fun t70=>
 ob (GV.asB t70) fun q71=>jn (bC q71 (oX 0 [a66] H) (oN [a66,a67,a68,a69] H)) fun vs72 h73=>U4 vs72 fun a74 a75 a76 a77=>jn (nB 1 (ix 30 a75 a77 fun t78=>
 ld 60 t78 h73 fun t79=>
 aL (bY y 60 h73) fun t80 h81=>
 aL (aW y 60 t80 t79 h81) fun t82 h83=>
 ld 60 t80 h83 fun t84=>
 K c 95 [t84] h83 fun t85 h86=>
 ob (uO .not t85) fun t87=>
 ob (GV.asB t87) fun q88=>jn (bC q88 (oN [a74,a75,a76,a77] h86) (oR [(i 2)] h86)) fun vs89 h90=>U4 vs89 fun a91 a92 a93 a94=>oN [a91,a92,a93,a94] h90)) fun vs95 h96=>U4 vs95 fun a97 a98 a99 a100=>bn .add 3 a100 (i 1) fun t101=>
 oN [a97,a98,a99,t101] h96) (ql 19)
def L20 (c:CH) (ql:QH) (us:List GV) (H:GH):RS:=U4 us fun a102 a103 a104 a105=>jn (bn .lss 3 a105 a104 fun t106=>
 ob (GV.asB t106) fun q107=>jn (bC q107 (oX 2 [a102] H) (oN [a102,a103,a104,a105] H)) fun vs108 h109=>U4 vs108 fun a110 a111 a112 a113=>jn (nB 3 (ix 31 a111 a113 fun t114=>
 ld 65 t114 h109 fun t115=>
 aL (bY y 65 h109) fun t116 h117=>
 aL (aW y 65 t116 t115 h117) fun t118 h119=>
 ld 65 t116 h119 fun t120=>
 fd 33 1 a110 fun t121=>
 ld 30 t121 h119 fun t122=>
 ln 30 t122 fun t123=>
 K c 96 [t120,t123] h119 fun t124 h125=>
 ob (uO .not t124) fun t126=>
 ob (GV.asB t126) fun q127=>jn (bC q127 (oN [a110,a111,a112,a113] h125) (oR [(i 7)] h125)) fun vs128 h129=>U4 vs128 fun a130 a131 a132 a133=>oN [a130,a131,a132,a133] h129)) fun vs134 h135=>U4 vs134 fun a136 a137 a138 a139=>bn .add 3 a139 (i 1) fun t140=>
 oN [a136,a137,a138,t140] h135) (ql 20)
def L21 (c:CH) (ql:QH) (us:List GV) (H:GH):RS:=U4 us fun a141 a142 a143 a144=>jn (bn .lss 3 a144 a143 fun t145=>
 ob (GV.asB t145) fun q146=>jn (bC q146 (oX 4 [] H) (oN [a141,a142,a143,a144] H)) fun vs147 h148=>U4 vs147 fun a149 a150 a151 a152=>jn (nB 5 (ix 31 a150 a152 fun t153=>
 ld 65 t153 h148 fun t154=>
 aL (bY y 65 h148) fun t155 h156=>
 aL (aW y 65 t155 t154 h156) fun t157 h158=>
 ld 65 t155 h158 fun t159=>
 K c 98 [t159,a149] h158 fun t160 h161=>
 ob (uO .not t160) fun t162=>
 ob (GV.asB t162) fun q163=>jn (bC q163 (oN [a149,a150,a151,a152] h161) (oR [(i 6)] h161)) fun vs164 h165=>U4 vs164 fun a166 a167 a168 a169=>oN [a166,a167,a168,a169] h165)) fun vs170 h171=>U4 vs170 fun a172 a173 a174 a175=>bn .add 3 a175 (i 1) fun t176=>
 oN [a172,a173,a174,t176] h171) (ql 21)
def B55 (c:CH) (ql:QH) (us:List GV) (H:GH):RS:=U2 us fun x1 x2=>
 ln 30 x1 fun t3=>
 jn (nB 0 (ql 22 [x1,x2,t3,(i 0)] H)) fun vs4 h5=>U0 vs4 (oR [(.int .i64 (.negSucc 0))] h5)
def L22 (c:CH) (ql:QH) (us:List GV) (H:GH):RS:=U4 us fun a6 a7 a8 a9=>jn (bn .lss 3 a9 a8 fun t10=>
 ob (GV.asB t10) fun q11=>jn (bC q11 (oX 0 [] H) (oN [a6,a7,a8,a9] H)) fun vs12 h13=>U4 vs12 fun a14 a15 a16 a17=>jn (nB 1 (ix 30 a14 a17 fun t18=>
 ld 60 t18 h13 fun t19=>
 ob (GV.asF a15) fun p22=>aL (c p22.1 (p22.2.1++[t19]++p22.2.2) h13) fun t20 h21=>
 ob (GV.asB t20) fun q23=>jn (bC q23 (oN [a14,a15,a16,a17] h21) (oR [a17] h21)) fun vs24 h25=>U4 vs24 fun a26 a27 a28 a29=>oN [a26,a27,a28,a29] h25)) fun vs30 h31=>U4 vs30 fun a32 a33 a34 a35=>bn .add 3 a35 (i 1) fun t36=>
 oN [a32,a33,a34,t36] h31) (ql 22)
def B56 (c:CH) (ql:QH) (us:List GV) (H:GH):RS:=U2 us fun x1 x2=>
 aL (lV x1 H) fun t3 h4=>
 fd 60 0 t3 fun t5=>
 ld 9 t5 h4 fun t6=>
 ld 9 x2 h4 fun t7=>
 bn .eql 9 t6 t7 fun t8=>
 oR [t8] h4
def B57 (c:CH) (ql:QH) (us:List GV) (H:GH):RS:=U2 us fun x1 x2=>
 ln 63 x1 fun t3=>
 jn (nB 0 (ql 23 [x1,x2,t3,(i 0)] H)) fun vs4 h5=>U0 vs4 (oR [(.int .i64 (.negSucc 0))] h5)
def L23 (c:CH) (ql:QH) (us:List GV) (H:GH):RS:=U4 us fun a6 a7 a8 a9=>jn (bn .lss 3 a9 a8 fun t10=>
 ob (GV.asB t10) fun q11=>jn (bC q11 (oX 0 [] H) (oN [a6,a7,a8,a9] H)) fun vs12 h13=>U4 vs12 fun a14 a15 a16 a17=>jn (nB 1 (ix 63 a14 a17 fun t18=>
 ld 68 t18 h13 fun t19=>
 ob (GV.asF a15) fun p22=>aL (c p22.1 (p22.2.1++[t19]++p22.2.2) h13) fun t20 h21=>
 ob (GV.asB t20) fun q23=>jn (bC q23 (oN [a14,a15,a16,a17] h21) (oR [a17] h21)) fun vs24 h25=>U4 vs24 fun a26 a27 a28 a29=>oN [a26,a27,a28,a29] h25)) fun vs30 h31=>U4 vs30 fun a32 a33 a34 a35=>bn .add 3 a35 (i 1) fun t36=>
 oN [a32,a33,a34,t36] h31) (ql 23)
def B58 (c:CH) (ql:QH) (us:List GV) (H:GH):RS:=U2 us fun x1 x2=>
 K c 99 [x1,x2] H fun t3 h4=>
 bn .geq 3 t3 (i 0) fun t5=>
 oR [t5] h4
def B59 (c:CH) (ql:QH) (us:List GV) (H:GH):RS:=U2 us fun x1 x2=>
 aL (lV x1 H) fun t3 h4=>
 fd 33 2 x2 fun t5=>
 ld 31 t5 h4 fun t6=>
 K c 58 [t6,(.fn 60 [] [t3])] h4 fun t7 h8=>
 oR [t7] h8
def B60 (c:CH) (ql:QH) (us:List GV) (H:GH):RS:=U2 us fun x1 x2=>
 aL (lV x1 H) fun t3 h4=>
 fd 65 0 x2 fun t5=>
 ld 9 t5 h4 fun t6=>
 fd 65 0 t3 fun t7=>
 ld 9 t7 h4 fun t8=>
 bn .eql 9 t6 t8 fun t9=>
 oR [t9] h4
def B61 (c:CH) (ql:QH) (us:List GV) (H:GH):RS:=U2 us fun x1 x2=>
 ln 22 x2 fun t3=>
 K c 46 [x1,t3] H fun t4 h5=>
 ob (uO .not t4) fun t6=>
 ob (GV.asB t6) fun q7=>jn (bC q7 (oN [x1,x2] h5) (oR [.snil,(i 7)] h5)) fun vs8 h9=>U2 vs8 fun a10 a11=>ln 22 a11 fun t12=>
 jn (nB 0 (ql 24 [a10,a11,a11,t12,(i 0)] h9)) fun vs13 h14=>U2 vs13 fun a15 a16=>ln 62 a15 fun t17=>
 aL (EN y 62 t17 t17 h14) fun t18 h19=>
 aL (PS y 62 t18 a15 h19) fun t20 h21=>
 ln 62 t18 fun t22=>
 jn (nB 2 (ql 25 [a16,t18,t18,t22,(i 0)] h21)) fun vs23 h24=>U1 vs23 fun a25=>oR [a25,(i 0)] h24
def L24 (c:CH) (ql:QH) (us:List GV) (H:GH):RS:=U5 us fun a26 a27 a28 a29 a30=>jn (bn .lss 3 a30 a29 fun t31=>
 ob (GV.asB t31) fun q32=>jn (bC q32 (oX 0 [a26,a27] H) (oN [a26,a27,a28,a29,a30] H)) fun vs33 h34=>U5 vs33 fun a35 a36 a37 a38 a39=>jn (nB 1 (ix 22 a37 a39 fun t40=>
 ld 3 t40 h34 fun t41=>
 bn .lss 3 t41 (i 0) fun t42=>
 aL (rG t42 false h34 (some (t41,h34))) fun t43 h44=>
 aL (rG t42 false h44 (ob (f_ y .geq 3 t43 (i 6)) fun g45=>some (g45,h44))) fun t46 h47=>
 ob (cF t42 (.bool true) t46) fun t48=>
 ob (GV.asB t48) fun q49=>jn (bC q49 (oN [a35,a36,a37,a38,a39] h47) (oR [.snil,(i 2)] h47)) fun vs50 h51=>U5 vs50 fun a52 a53 a54 a55 a56=>oN [a52,a53,a54,a55,a56] h51)) fun vs57 h58=>U5 vs57 fun a59 a60 a61 a62 a63=>bn .add 3 a63 (i 1) fun t64=>
 oN [a59,a60,a61,a62,t64] h58) (ql 24)
def L25 (c:CH) (ql:QH) (us:List GV) (H:GH):RS:=U5 us fun a65 a66 a67 a68 a69=>jn (bn .lss 3 a69 a68 fun t70=>
 ob (GV.asB t70) fun q71=>jn (bC q71 (oX 2 [a66] H) (oN [a65,a66,a67,a68,a69] H)) fun vs72 h73=>U5 vs72 fun a74 a75 a76 a77 a78=>jn (nB 3 (ix 62 a76 a78 fun t79=>
 ld 130 t79 h73 fun t80=>
 aL (bY y 130 h73) fun t81 h82=>
 aL (aW y 130 t81 t80 h82) fun t83 h84=>
 fd 130 0 t81 fun t85=>
 ld 3 t85 h84 fun t86=>
 bn .eql 3 t86 (i 5) fun t87=>
 aL (rG t87 false h84 (ob (cP y 130 0 t81) fun g88=>some (g88,h84))) fun t89 h90=>
 aL (rG t87 false h90 (ob (bQ y 3 t89 h90) fun g91=>some (g91,h90))) fun t92 h93=>
 aL (rG t87 false h93 (ob (f_ y .eql 3 t92 (i 12)) fun g94=>some (g94,h93))) fun t95 h96=>
 ob (cF t87 (.bool true) t95) fun t97=>
 ob (GV.asB t97) fun q98=>jn (bC q98 (oN [a74,a75,a76,a77,a78] h96) (fd 130 1 t81 fun t99=>
 ld 3 t99 h96 fun t100=>
 ix 22 a74 t100 fun t101=>
 ld 3 t101 h96 fun t102=>
 ix 62 a75 a78 fun t103=>
 fd 130 1 t103 fun t104=>
 aL (aW y 3 t104 t102 h96) fun t105 h106=>
 oN [a74,a75,a76,a77,a78] h106)) fun vs107 h108=>U5 vs107 fun a109 a110 a111 a112 a113=>oN [a109,a110,a111,a112,a113] h108)) fun vs114 h115=>U5 vs114 fun a116 a117 a118 a119 a120=>bn .add 3 a120 (i 1) fun t121=>
 oN [a116,a117,a118,a119,t121] h115) (ql 25)
def B66 (c:CH) (ql:QH) (us:List GV) (H:GH):RS:=U1 us fun x1=>
 bn .shr 25 x1 (.int .u64 (.ofNat 24)) fun t2=>
 ob (Ko y 9 (.str 1013371797438326782088527885626145114869279839357273206994663807870378574120944418419436367054140611451049417760204952716157707395913305053141503655967864012230780761557092017373387303026677869852522838963663262406984442671150543646567039340048842837107735057250874075921518337091852213351450684411239623177375031168665231925272535801977875611804250701587889381816060971805622316951777918693305331168867185049460341980332139430100205929927472959341318173082042210036159181875921966396192956430460355834169346681316034785786016803592777021614286352739503720844564764981555889936616414321310481604187217024121026183424 256) t2) fun t3=>
 bn .shr 25 x1 (.int .u64 (.ofNat 16)) fun t4=>
 bn .and 25 t4 (.int .u32 (.ofNat 255)) fun t5=>
 ob (Ko y 9 (.str 1013371797438326782088527885626145114869279839357273206994663807870378574120944418419436367054140611451049417760204952716157707395913305053141503655967864012230780761557092017373387303026677869852522838963663262406984442671150543646567039340048842837107735057250874075921518337091852213351450684411239623177375031168665231925272535801977875611804250701587889381816060971805622316951777918693305331168867185049460341980332139430100205929927472959341318173082042210036159181875921966396192956430460355834169346681316034785786016803592777021614286352739503720844564764981555889936616414321310481604187217024121026183424 256) t5) fun t6=>
 bn .add 5 t3 t6 fun t7=>
 bn .shr 25 x1 (.int .u64 (.ofNat 8)) fun t8=>
 bn .and 25 t8 (.int .u32 (.ofNat 255)) fun t9=>
 ob (Ko y 9 (.str 1013371797438326782088527885626145114869279839357273206994663807870378574120944418419436367054140611451049417760204952716157707395913305053141503655967864012230780761557092017373387303026677869852522838963663262406984442671150543646567039340048842837107735057250874075921518337091852213351450684411239623177375031168665231925272535801977875611804250701587889381816060971805622316951777918693305331168867185049460341980332139430100205929927472959341318173082042210036159181875921966396192956430460355834169346681316034785786016803592777021614286352739503720844564764981555889936616414321310481604187217024121026183424 256) t9) fun t10=>
 bn .add 5 t7 t10 fun t11=>
 bn .and 25 x1 (.int .u32 (.ofNat 255)) fun t12=>
 ob (Ko y 9 (.str 1013371797438326782088527885626145114869279839357273206994663807870378574120944418419436367054140611451049417760204952716157707395913305053141503655967864012230780761557092017373387303026677869852522838963663262406984442671150543646567039340048842837107735057250874075921518337091852213351450684411239623177375031168665231925272535801977875611804250701587889381816060971805622316951777918693305331168867185049460341980332139430100205929927472959341318173082042210036159181875921966396192956430460355834169346681316034785786016803592777021614286352739503720844564764981555889936616414321310481604187217024121026183424 256) t12) fun t13=>
 bn .add 5 t11 t13 fun t14=>
 ob (Lw y 5 3 t14) fun t15=>
 oR [t15] H
def B67 (c:CH) (ql:QH) (us:List GV) (H:GH):RS:=U1 us fun x1=>
 aL (lV x1 H) fun t2 h3=>
 fd 65 2 t2 fun t4=>
 ld 63 t4 h3 fun t5=>
 ln 63 t5 fun t6=>
 jn (nB 0 (ql 26 [(.int .u32 (.ofNat 0)),t5,t6,(i 0)] h3)) fun vs7 h8=>U1 vs7 fun a9=>oR [a9] h8
def L26 (c:CH) (ql:QH) (us:List GV) (H:GH):RS:=U4 us fun a10 a11 a12 a13=>jn (bn .lss 3 a13 a12 fun t14=>
 ob (GV.asB t14) fun q15=>jn (bC q15 (oX 0 [a10] H) (oN [a10,a11,a12,a13] H)) fun vs16 h17=>U4 vs16 fun a18 a19 a20 a21=>jn (nB 1 (ix 63 a19 a21 fun t22=>
 ld 68 t22 h17 fun t23=>
 aL (bY y 68 h17) fun t24 h25=>
 aL (aW y 68 t24 t23 h25) fun t26 h27=>
 fd 68 0 t24 fun t28=>
 ld 3 t28 h27 fun t29=>
 bn .shl 25 (.int .u32 (.ofNat 1)) t29 fun t30=>
 bn .or 25 a18 t30 fun t31=>
 oN [t31,a19,a20,a21] h27)) fun vs32 h33=>U4 vs32 fun a34 a35 a36 a37=>bn .add 3 a37 (i 1) fun t38=>
 oN [a34,a35,a36,t38] h33) (ql 26)
def B68 (c:CH) (ql:QH) (us:List GV) (H:GH):RS:=U2 us fun x1 x2=>
 ln 62 x1 fun t3=>
 ln 62 x2 fun t4=>
 bn .neq 3 t3 t4 fun t5=>
 ob (GV.asB t5) fun q6=>jn (bC q6 (oN [x1,x2] H) (oR [(.bool false)] H)) fun vs7 h8=>U2 vs7 fun a9 a10=>jn (nB 0 (ql 27 [a9,a10,(i 0)] h8)) fun vs11 h12=>U0 vs11 (oR [(.bool true)] h12)
def L27 (c:CH) (ql:QH) (us:List GV) (H:GH):RS:=U3 us fun a13 a14 a15=>jn (ln 62 a13 fun t16=>
 bn .lss 3 a15 t16 fun t17=>
 ob (GV.asB t17) fun q18=>jn (bC q18 (oX 0 [] H) (oN [a13,a14,a15] H)) fun vs19 h20=>U3 vs19 fun a21 a22 a23=>jn (nB 1 (ix 62 a21 a23 fun t24=>
 ld 130 t24 h20 fun t25=>
 ix 62 a22 a23 fun t26=>
 ld 130 t26 h20 fun t27=>
 bn .neq 130 t25 t27 fun t28=>
 ob (GV.asB t28) fun q29=>jn (bC q29 (oN [a21,a22,a23] h20) (oR [(.bool false)] h20)) fun vs30 h31=>U3 vs30 fun a32 a33 a34=>oN [a32,a33,a34] h31)) fun vs35 h36=>U3 vs35 fun a37 a38 a39=>bn .add 3 a39 (i 1) fun t40=>
 oN [a37,a38,t40] h36) (ql 27)
def B69 (c:CH) (ql:QH) (us:List GV) (H:GH):RS:=U1 us fun x1=>
 aL (lV x1 H) fun t2 h3=>
 fd 65 1 t2 fun t4=>
 ld 62 t4 h3 fun t5=>
 K c 102 [t5] h3 fun t6 h7=>
 ex 0 t6 fun t8=>
 ex 1 t6 fun t9=>
 fd 65 2 t2 fun t10=>
 ld 63 t10 h7 fun t11=>
 ln 63 t11 fun t12=>
 jn (nB 0 (ql 28 [t8,t9,t11,t12,(i 0)] h7)) fun vs13 h14=>U2 vs13 fun a15 a16=>bn .or 25 a15 a16 fun t17=>
 oR [t17] h14
def L28 (c:CH) (ql:QH) (us:List GV) (H:GH):RS:=U5 us fun a18 a19 a20 a21 a22=>jn (bn .lss 3 a22 a21 fun t23=>
 ob (GV.asB t23) fun q24=>jn (bC q24 (oX 0 [a18,a19] H) (oN [a18,a19,a20,a21,a22] H)) fun vs25 h26=>U5 vs25 fun a27 a28 a29 a30 a31=>jn (nB 1 (ix 63 a29 a31 fun t32=>
 ld 68 t32 h26 fun t33=>
 aL (bY y 68 h26) fun t34 h35=>
 aL (aW y 68 t34 t33 h35) fun t36 h37=>
 fd 68 1 t34 fun t38=>
 ld 62 t38 h37 fun t39=>
 K c 102 [t39] h37 fun t40 h41=>
 ex 0 t40 fun t42=>
 ex 1 t40 fun t43=>
 bn .or 25 a27 t42 fun t44=>
 bn .or 25 a28 t43 fun t45=>
 oN [t44,t45,a29,a30,a31] h41)) fun vs46 h47=>U5 vs46 fun a48 a49 a50 a51 a52=>bn .add 3 a52 (i 1) fun t53=>
 oN [a48,a49,a50,a51,t53] h47) (ql 28)
def B73 (c:CH) (ql:QH) (us:List GV) (H:GH):RS:=U2 us fun x1 x2=>
 bn .lss 3 x2 (i 0) fun t3=>
 ob (GV.asB t3) fun q4=>jn (bC q4 (oN [x1,x2] H) (none)) fun vs5 h6=>U2 vs5 fun a7 a8=>ob (MK y 30 a7) fun t9=>
 ln 30 a7 fun t10=>
 bn .sub 3 t9 t10 fun t11=>
 bn .sub 3 a8 t11 fun t12=>
 bn .gtr 3 t12 (i 0) fun t13=>
 ob (GV.asB t13) fun q14=>jn (bC q14 (oN [a7] h6) (ob (MK y 30 a7) fun t15=>
 ob (oZ y 30 a7 none (some t15) h6) fun t16=>
 aL (sT y 30 3 t16 t12 h6) fun t17 h18=>
 ln 30 a7 fun t19=>
 ob (oZ y 30 t17 none (some t19) h18) fun t20=>
 oN [t20] h18)) fun vs21 h22=>U1 vs21 fun a23=>oR [a23] h22
def B74 (c:CH) (ql:QH) (us:List GV) (H:GH):RS:=U1 us fun x1=>
 ln 169 x1 fun t2=>
 jn (nB 0 (ql 29 [x1,(i 0),x1,t2,(i 0)] H)) fun vs3 h4=>U2 vs3 fun a5 a6=>K c 105 [.snil,a6] h4 fun t7 h8=>
 ln 169 a5 fun t9=>
 jn (nB 2 (ql 30 [t7,a5,t9,(i 0)] h8)) fun vs10 h11=>U1 vs10 fun a12=>oR [a12] h11
def L29 (c:CH) (ql:QH) (us:List GV) (H:GH):RS:=U5 us fun a13 a14 a15 a16 a17=>jn (bn .lss 3 a17 a16 fun t18=>
 ob (GV.asB t18) fun q19=>jn (bC q19 (oX 0 [a13,a14] H) (oN [a13,a14,a15,a16,a17] H)) fun vs20 h21=>U5 vs20 fun a22 a23 a24 a25 a26=>jn (nB 1 (ix 169 a24 a26 fun t27=>
 ld 62 t27 h21 fun t28=>
 ln 62 t28 fun t29=>
 bn .add 3 a23 t29 fun t30=>
 bn .lss 3 t30 (i 0) fun t31=>
 ob (GV.asB t31) fun q32=>jn (bC q32 (oN [a22,t30,a24,a25,a26] h21) (none)) fun vs33 h34=>U5 vs33 fun a35 a36 a37 a38 a39=>oN [a35,a36,a37,a38,a39] h34)) fun vs40 h41=>U5 vs40 fun a42 a43 a44 a45 a46=>bn .add 3 a46 (i 1) fun t47=>
 oN [a42,a43,a44,a45,t47] h41) (ql 29)
def L30 (c:CH) (ql:QH) (us:List GV) (H:GH):RS:=U4 us fun a48 a49 a50 a51=>jn (bn .lss 3 a51 a50 fun t52=>
 ob (GV.asB t52) fun q53=>jn (bC q53 (oX 2 [a48] H) (oN [a48,a49,a50,a51] H)) fun vs54 h55=>U4 vs54 fun a56 a57 a58 a59=>jn (nB 3 (ix 169 a57 a59 fun t60=>
 ld 62 t60 h55 fun t61=>
 aL (sT y 62 62 a56 t61 h55) fun t62 h63=>
 oN [t62,a57,a58,a59] h63)) fun vs64 h65=>U4 vs64 fun a66 a67 a68 a69=>bn .add 3 a69 (i 1) fun t70=>
 oN [a66,a67,a68,t70] h65) (ql 30)
def B75 (c:CH) (ql:QH) (us:List GV) (H:GH):RS:=U2 us fun x1 x2=>
 bn .lss 3 x2 (i 0) fun t3=>
 aL (rG t3 false H (some (x2,H))) fun t4 h5=>
 aL (rG t3 false h5 (some (x1,h5))) fun t6 h7=>
 aL (rG t3 false h7 (ob (sU y 62 t6) fun g8=>some (g8,h7))) fun t9 h10=>
 aL (rG t3 false h10 (ob (f_ y .geq 3 t4 t9) fun g11=>some (g11,h10))) fun t12 h13=>
 ob (cF t3 (.bool true) t12) fun t14=>
 ob (GV.asB t14) fun q15=>jn (bC q15 (oN [x1,x2] h13) (oR [(.int .i64 (.negSucc 0))] h13)) fun vs16 h17=>U2 vs16 fun a18 a19=>jn (nB 0 (ql 31 [a18,a19,(i 1)] h17)) fun vs20 h21=>U0 vs20 (oR [(.int .i64 (.negSucc 0))] h21)
def L31 (c:CH) (ql:QH) (us:List GV) (H:GH):RS:=U3 us fun a22 a23 a24=>jn (ln 62 a22 fun t25=>
 bn .lss 3 a23 t25 fun t26=>
 ob (GV.asB t26) fun q27=>jn (bC q27 (oX 0 [] H) (oN [a22,a23,a24] H)) fun vs28 h29=>U3 vs28 fun a30 a31 a32=>jn (nB 1 (ix 62 a30 a31 fun t33=>
 fd 130 0 t33 fun t34=>
 ld 3 t34 h29 fun t35=>
 K c 106 [t35] h29 fun t36 h37=>
 bn .lss 3 t36 (i 0) fun t38=>
 ob (GV.asB t38) fun q39=>jn (bC q39 (oN [a30,a31,a32,t36] h37) (oR [(.int .i64 (.negSucc 0))] h37)) fun vs40 h41=>U4 vs40 fun a42 a43 a44 a45=>bn .sub 3 a45 (i 1) fun t46=>
 bn .add 3 a44 t46 fun t47=>
 bn .eql 3 t47 (i 0) fun t48=>
 ob (GV.asB t48) fun q49=>jn (bC q49 (oN [a42,a43,t47] h41) (bn .add 3 a43 (i 1) fun t50=>
 oR [t50] h41)) fun vs51 h52=>U3 vs51 fun a53 a54 a55=>oN [a53,a54,a55] h52)) fun vs56 h57=>U3 vs56 fun a58 a59 a60=>bn .add 3 a59 (i 1) fun t61=>
 oN [a58,t61,a60] h57) (ql 31)
def B76 (c:CH) (ql:QH) (us:List GV) (H:GH):RS:=U2 us fun x1 x2=>
 aL (lV x1 H) fun t3 h4=>
 fd 130 0 t3 fun t5=>
 ld 3 t5 h4 fun t6=>
 jn (nB 0 (bn .eql 3 t6 (i 1) fun t7=>
 ob (GV.asB t7) fun q8=>jn (bC q8 (bn .eql 3 t6 (i 5) fun t22=>
 ob (GV.asB t22) fun q23=>jn (bC q23 (bn .eql 3 t6 (i 12) fun t24=>
 oN [x2,t3,t24] h4) (oN [x2,t3,t22] h4)) fun vs25 h26=>U3 vs25 fun a27 a28 a29=>ob (GV.asB a29) fun q30=>jn (bC q30 (oN [a28] h26) (fd 130 1 a28 fun t31=>
 ld 3 t31 h26 fun t32=>
 bn .geq 3 t32 (i 0) fun t33=>
 aL (rG t33 true h26 (ob (cP y 130 1 a28) fun g34=>some (g34,h26))) fun t35 h36=>
 aL (rG t33 true h36 (ob (bQ y 3 t35 h36) fun g37=>some (g37,h36))) fun t38 h39=>
 aL (rG t33 true h39 (some (a27,h39))) fun t40 h41=>
 aL (rG t33 true h41 (ob (f_ y .lss 3 t38 t40) fun g42=>some (g42,h41))) fun t43 h44=>
 ob (cF t33 t43 (.bool false)) fun t45=>
 oR [t45] h44)) fun vs46 h47=>U1 vs46 fun a48=>oN [a48] h47) (fd 130 1 t3 fun t9=>
 ld 3 t9 h4 fun t10=>
 bn .geq 3 t10 (i 0) fun t11=>
 aL (rG t11 true h4 (ob (cP y 130 1 t3) fun g12=>some (g12,h4))) fun t13 h14=>
 aL (rG t11 true h14 (ob (bQ y 3 t13 h14) fun g15=>some (g15,h14))) fun t16 h17=>
 aL (rG t11 true h17 (ob (f_ y .leq 3 t16 (i 1073741824)) fun g18=>some (g18,h17))) fun t19 h20=>
 ob (cF t11 t19 (.bool false)) fun t21=>
 oR [t21] h20)) fun vs49 h50=>U1 vs49 fun a51=>oN [a51] h50)) fun vs52 h53=>U1 vs52 fun a54=>fd 130 1 a54 fun t55=>
 ld 3 t55 h53 fun t56=>
 bn .eql 3 t56 (i 0) fun t57=>
 oR [t57] h53
def B77 (c:CH) (ql:QH) (us:List GV) (H:GH):RS:=U1 us fun x1=>
 K c 107 [x1,(.fn 108 [] [])] H fun t2 h3=>
 ex 0 t2 fun t4=>
 ex 1 t2 fun t5=>
 oR [t4] h3
def B78 (c:CH) (ql:QH) (us:List GV) (H:GH):RS:=U1 us fun x1=>
 K c 107 [x1,(.fn 109 [] [])] H fun t2 h3=>
 ex 0 t2 fun t4=>
 ex 1 t2 fun t5=>
 oR [t4] h3
def B83 (c:CH) (ql:QH) (us:List GV) (H:GH):RS:=U2 us fun x1 x2=>
 jn (nB 0 (ql 32 [x1,x2] H)) fun vs3 h4=>U1 vs3 fun a5=>oR [a5] h4
def L32 (c:CH) (ql:QH) (us:List GV) (H:GH):RS:=U2 us fun a6 a7=>jn (ln 9 a6 fun t8=>
 bn .lss 3 a7 t8 fun t9=>
 ob (GV.asB t9) fun q10=>jn (bC q10 (oX 0 [a7] H) (oN [a6,a7] H)) fun vs11 h12=>U2 vs11 fun a13 a14=>jn (nB 1 (ob (Ko y 9 a13 a14) fun t15=>
 jn (nB 2 (bn .eql 5 t15 (.int .u8 (.ofNat 32)) fun t16=>
 ob (GV.asB t16) fun q17=>jn (bC q17 (bn .eql 5 t15 (.int .u8 (.ofNat 9)) fun t18=>
 ob (GV.asB t18) fun q19=>jn (bC q19 (bn .eql 5 t15 (.int .u8 (.ofNat 10)) fun t20=>
 ob (GV.asB t20) fun q21=>jn (bC q21 (bn .eql 5 t15 (.int .u8 (.ofNat 13)) fun t22=>
 oN [a13,a14,t15,t22] h12) (oN [a13,a14,t15,t20] h12)) fun vs23 h24=>U4 vs23 fun a25 a26 a27 a28=>oN [a25,a26,a27,a28] h24) (oN [a13,a14,t15,t18] h12)) fun vs29 h30=>U4 vs29 fun a31 a32 a33 a34=>oN [a31,a32,a33,a34] h30) (oN [a13,a14,t15,t16] h12)) fun vs35 h36=>U4 vs35 fun a37 a38 a39 a40=>ob (GV.asB a40) fun q41=>jn (bC q41 (bn .eql 5 a39 (.int .u8 (.ofNat 35)) fun t43=>
 ob (GV.asB t43) fun q44=>jn (bC q44 (oR [a38] h36) (jn (nB 3 (ql 33 [a37,a38] h36)) fun vs45 h46=>U2 vs45 fun a47 a48=>oN [a47,a48] h46)) fun vs49 h50=>U2 vs49 fun a51 a52=>oN [a51,a52] h50) (bn .add 3 a38 (i 1) fun t42=>
 oN [a37,t42] h36)) fun vs53 h54=>U2 vs53 fun a55 a56=>oN [a55,a56] h54)) fun vs57 h58=>U2 vs57 fun a59 a60=>oN [a59,a60] h58)) fun vs61 h62=>U2 vs61 fun a63 a64=>oN [a63,a64] h62) (ql 32)
def L33 (c:CH) (ql:QH) (us:List GV) (H:GH):RS:=U2 us fun a65 a66=>jn (ln 9 a65 fun t67=>
 bn .lss 3 a66 t67 fun t68=>
 aL (rG t68 true H (some (a65,H))) fun t69 h70=>
 aL (rG t68 true h70 (some (a66,h70))) fun t71 h72=>
 aL (rG t68 true h72 (ob (Ko y 9 t69 t71) fun g73=>some (g73,h72))) fun t74 h75=>
 aL (rG t68 true h75 (ob (f_ y .neq 5 t74 (.int .u8 (.ofNat 10))) fun g76=>some (g76,h75))) fun t77 h78=>
 ob (cF t68 t77 (.bool false)) fun t79=>
 ob (GV.asB t79) fun q80=>jn (bC q80 (oX 3 [a65,a66] h78) (oN [a65,a66] h78)) fun vs81 h82=>U2 vs81 fun a83 a84=>jn (nB 4 (bn .add 3 a84 (i 1) fun t85=>
 oN [a83,t85] h82)) fun vs86 h87=>U2 vs86 fun a88 a89=>oN [a88,a89] h87) (ql 33)
def B84 (c:CH) (ql:QH) (us:List GV) (H:GH):RS:=U2 us fun x1 x2=>
 aL (lV x1 H) fun t3 h4=>
 aL (lV x2 h4) fun t5 h6=>
 aL (bY y 145 h6) fun t7 h8=>
 ld 9 t3 h8 fun t9=>
 ld 3 t5 h8 fun t10=>
 ob (Ko y 9 t9 t10) fun t11=>
 jn (nB 0 (K c 113 [t11] h8 fun t12 h13=>
 ob (GV.asB t12) fun q14=>jn (bC q14 (K c 115 [t11] h13 fun t38 h39=>
 ob (GV.asB t38) fun q40=>jn (bC q40 (oN [t3,t5,t7] h39) (ob (GV.asF (.fn 112 [] [t5,t3])) fun p43=>aL (c p43.1 (p43.2.1++[(.fn 115 [] [])]++p43.2.2) h39) fun t41 h42=>
 ld 9 t3 h42 fun t44=>
 ld 3 t5 h42 fun t45=>
 ob (oZ y 9 t44 (some t45) (some t41) h42) fun t46=>
 K c 116 [t46] h42 fun t47 h48=>
 ex 0 t47 fun t49=>
 ex 1 t47 fun t50=>
 ob (uO .not t50) fun t51=>
 ob (GV.asB t51) fun q52=>jn (bC q52 (oN [t5,t7,t41,t49] h48) (bd 145 [] fun t53=>
 aL (aW y 145 t7 t53 h48) fun t54 h55=>
 ob (ob (bQ y 145 t7 h55) fun r56=>some [r56,(i 2)]) fun vs57=>oR vs57 h55)) fun vs58 h59=>U4 vs58 fun a60 a61 a62 a63=>ld 3 a60 h59 fun t64=>
 bd 145 [(0,(i 2)),(1,t64),(2,a62),(3,a63)] fun t65=>
 aL (aW y 145 a61 t65 h59) fun t66 h67=>
 ob (ob (bQ y 145 a61 h67) fun r68=>some [r68,(i 0)]) fun vs69=>oR vs69 h67)) fun vs70 h71=>U3 vs70 fun a72 a73 a74=>oN [a72,a73,a74] h71) (ob (GV.asF (.fn 112 [] [t5,t3])) fun p17=>aL (c p17.1 (p17.2.1++[(.fn 114 [] [])]++p17.2.2) h13) fun t15 h16=>
 ld 3 t5 h16 fun t18=>
 bn .sub 3 t15 t18 fun t19=>
 bn .gtr 3 t19 (i 24) fun t20=>
 ob (GV.asB t20) fun q21=>jn (bC q21 (oN [t5,t7,t15] h16) (bd 145 [] fun t22=>
 aL (aW y 145 t7 t22 h16) fun t23 h24=>
 ob (ob (bQ y 145 t7 h24) fun r25=>some [r25,(i 5)]) fun vs26=>oR vs26 h24)) fun vs27 h28=>U3 vs27 fun a29 a30 a31=>ld 3 a29 h28 fun t32=>
 bd 145 [(0,(i 1)),(1,t32),(2,a31)] fun t33=>
 aL (aW y 145 a30 t33 h28) fun t34 h35=>
 ob (ob (bQ y 145 a30 h35) fun r36=>some [r36,(i 0)]) fun vs37=>oR vs37 h35)) fun vs75 h76=>U3 vs75 fun a77 a78 a79=>oN [a77,a78,a79] h76)) fun vs80 h81=>U3 vs80 fun a82 a83 a84=>ld 9 a82 h81 fun t85=>
 ld 3 a83 h81 fun t86=>
 ob (oZ y 9 t85 (some t86) none h81) fun t87=>
 K c 117 [t87] h81 fun t88 h89=>
 bn .eql 3 t88 (i 0) fun t90=>
 ob (GV.asB t90) fun q91=>jn (bC q91 (oN [a83,a84,t88] h89) (bd 145 [] fun t92=>
 aL (aW y 145 a84 t92 h89) fun t93 h94=>
 ob (ob (bQ y 145 a84 h94) fun r95=>some [r95,(i 4)]) fun vs96=>oR vs96 h94)) fun vs97 h98=>U3 vs97 fun a99 a100 a101=>ld 3 a99 h98 fun t102=>
 ld 3 a99 h98 fun t103=>
 bn .add 3 t103 a101 fun t104=>
 bd 145 [(0,(i 3)),(1,t102),(2,t104)] fun t105=>
 aL (aW y 145 a100 t105 h98) fun t106 h107=>
 ob (ob (bQ y 145 a100 h107) fun r108=>some [r108,(i 0)]) fun vs109=>oR vs109 h107
def B87 (c:CH) (ql:QH) (us:List GV) (H:GH):RS:=U2 us fun x1 x2=>
 K c 118 [x1,x2] H fun t3 h4=>
 ob (uO .not t3) fun t5=>
 ob (GV.asB t5) fun q6=>jn (bC q6 (oN [] h4) (K c 93 [x1,(i 4)] h4 fun t7 h8=>
 oN [] h8)) fun vs9 h10=>U0 vs9 (oR [] h10)
def B88 (c:CH) (ql:QH) (us:List GV) (H:GH):RS:=U2 us fun x1 x2=>
 ob (GV.nilck x1) fun t3=>
 fd 102 0 t3 fun t4=>
 K c 119 [t4] H fun t5 h6=>
 ob (GV.nilck x1) fun t7=>
 fd 102 0 t7 fun t8=>
 K c 120 [t8] h6 fun t9 h10=>
 bn .neq 3 t9 (i 1) fun t11=>
 aL (rG t11 false h10 (some (t5,h10))) fun t12 h13=>
 aL (rG t11 false h13 (aL (c 121 [t12] h13) sJ)) fun t14 h15=>
 aL (rG t11 false h15 (ob (uO .not t14) fun g16=>some (g16,h15))) fun t17 h18=>
 ob (cF t11 (.bool true) t17) fun t19=>
 ob (GV.asB t19) fun q20=>jn (bC q20 (oN [x1,x2,t5] h18) (ob (GV.nilck x1) fun t21=>
 fd 102 0 t21 fun t22=>
 K c 93 [t22,(i 4)] h18 fun t23 h24=>
 oN [x1,x2,t5] h24)) fun vs25 h26=>U3 vs25 fun a27 a28 a29=>ln 98 a28 fun t30=>
 jn (nB 0 (ql 34 [a27,a29,a28,t30,(i 0)] h26)) fun vs31 h32=>U2 vs31 fun a33 a34=>ob (GV.nilck a33) fun t35=>
 fd 102 0 t35 fun t36=>
 K c 122 [t36] h32 fun t37 h38=>
 oR [a34] h38
def L34 (c:CH) (ql:QH) (us:List GV) (H:GH):RS:=U5 us fun a39 a40 a41 a42 a43=>jn (bn .lss 3 a43 a42 fun t44=>
 ob (GV.asB t44) fun q45=>jn (bC q45 (oX 0 [a39,a40] H) (oN [a39,a40,a41,a42,a43] H)) fun vs46 h47=>U5 vs46 fun a48 a49 a50 a51 a52=>jn (nB 1 (ix 98 a50 a52 fun t53=>
 ld 9 t53 h47 fun t54=>
 bn .eql 9 t54 a49 fun t55=>
 ob (GV.asB t55) fun q56=>jn (bC q56 (oN [a48,a49,a50,a51,a52] h47) (ob (GV.nilck a48) fun t57=>
 fd 102 0 t57 fun t58=>
 K c 93 [t58,(i 5)] h47 fun t59 h60=>
 oN [a48,a49,a50,a51,a52] h60)) fun vs61 h62=>U5 vs61 fun a63 a64 a65 a66 a67=>oN [a63,a64,a65,a66,a67] h62)) fun vs68 h69=>U5 vs68 fun a70 a71 a72 a73 a74=>bn .add 3 a74 (i 1) fun t75=>
 oN [a70,a71,a72,a73,t75] h69) (ql 34)
def B89 (c:CH) (ql:QH) (us:List GV) (H:GH):RS:=U4 us fun x1 x2 x3 x4=>
 jn (nB 0 (ql 35 [x1,x2,x3,x4,(i 0)] H)) fun vs5 h6=>U0 vs5 (oR [] h6)
def L35 (c:CH) (ql:QH) (us:List GV) (H:GH):RS:=U5 us fun a7 a8 a9 a10 a11=>jn (ob (GV.nilck a7) fun t12=>
 fd 102 0 t12 fun t13=>
 K c 119 [t13] H fun t14 h15=>
 bn .eql 9 t14 a8 fun t16=>
 ob (GV.asB t16) fun q17=>jn (bC q17 (oX 0 [] h15) (oN [a7,a8,a9,a10,a11] h15)) fun vs18 h19=>U5 vs18 fun a20 a21 a22 a23 a24=>jn (nB 1 (bn .eql 3 a24 a22 fun t25=>
 ob (GV.asB t25) fun q26=>jn (bC q26 (oN [a20,a21,a22,a23,a24] h19) (ob (GV.nilck a20) fun t27=>
 fd 102 0 t27 fun t28=>
 K c 93 [t28,(i 3)] h19 fun t29 h30=>
 oN [a20,a21,a22,a23,a24] h30)) fun vs31 h32=>U5 vs31 fun a33 a34 a35 a36 a37=>ob (GV.nilck a33) fun t38=>
 fd 102 0 t38 fun t39=>
 K c 122 [t39] h32 fun t40 h41=>
 ob (GV.asF a36) fun p44=>aL (c p44.1 (p44.2.1++[]++p44.2.2) h41) fun t42 h43=>
 oN [a33,a34,a35,a36,a37] h43)) fun vs45 h46=>U5 vs45 fun a47 a48 a49 a50 a51=>bn .add 3 a51 (i 1) fun t52=>
 oN [a47,a48,a49,a50,t52] h46) (ql 35)
def B90 (c:CH) (ql:QH) (us:List GV) (H:GH):RS:=U1 us fun x1=>
 ob (GV.nilck x1) fun t2=>
 fd 102 0 t2 fun t3=>
 fd 100 2 t3 fun t4=>
 ld 98 t4 H fun t5=>
 K c 88 [x1,t5] H fun t6 h7=>
 bd 60 [(0,t6)] fun t8=>
 aL (bY y 60 h7) fun t9 h10=>
 aL (aW y 60 t9 t8 h10) fun t11 h12=>
 ob (GV.nilck x1) fun t13=>
 fd 102 0 t13 fun t14=>
 K c 87 [t14,(.str 58 1)] h12 fun t15 h16=>
 jn (nB 0 (ob (GV.nilck x1) fun t17=>
 fd 102 0 t17 fun t18=>
 K c 118 [t18,(.str 1819242338 4)] h16 fun t19 h20=>
 ob (GV.asB t19) fun q21=>jn (bC q21 (ob (GV.nilck x1) fun t25=>
 fd 102 0 t25 fun t26=>
 K c 118 [t26,(.str 1953656688 4)] h20 fun t27 h28=>
 ob (GV.asB t27) fun q29=>jn (bC q29 (fd 60 1 t9 fun t33=>
 aL (aW y 3 t33 (i 1) h28) fun t34 h35=>
 K c 123 [x1,(i 0),(i 4096)] h35 fun t36 h37=>
 fd 60 2 t9 fun t38=>
 aL (aW y 3 t38 t36 h37) fun t39 h40=>
 ob (GV.nilck x1) fun t41=>
 fd 102 0 t41 fun t42=>
 K c 87 [t42,(.str 11822 2)] h40 fun t43 h44=>
 K c 124 [x1,t9] h44 fun t45 h46=>
 oN [x1,t9] h46) (fd 60 1 t9 fun t30=>
 aL (aW y 3 t30 (i 3) h28) fun t31 h32=>
 oN [x1,t9] h32)) fun vs47 h48=>U2 vs47 fun a49 a50=>oN [a49,a50] h48) (fd 60 1 t9 fun t22=>
 aL (aW y 3 t22 (i 2) h20) fun t23 h24=>
 oN [x1,t9] h24)) fun vs51 h52=>U2 vs51 fun a53 a54=>oN [a53,a54] h52)) fun vs55 h56=>U2 vs55 fun a57 a58=>ob (GV.nilck a57) fun t59=>
 fd 102 0 t59 fun t60=>
 K c 87 [t60,(.str 59 1)] h56 fun t61 h62=>
 ob (GV.nilck a57) fun t63=>
 fd 102 0 t63 fun t64=>
 fd 100 2 t64 fun t65=>
 ld 98 t65 h62 fun t66=>
 ob (Option.casesOn (motive:=fun _=>Option (Option eY)) (ob (GV.asP t65) fun p=>some p.1) (some none) fun k68=>ob (GH.ver h62 k68) fun k69=>some (some (k68,k69))) fun e67=>
 fd 60 0 a58 fun t70=>
 ld 9 t70 h62 fun t71=>
 ob (Option.casesOn (motive:=fun _=>Option (Option eY)) (ob (GV.asP t70) fun p=>some p.1) (some none) fun k73=>ob (GH.ver h62 k73) fun k74=>some (some (k73,k74))) fun e72=>
 aL (cV y 98 1 [(0,t71)] h62) fun t75 h76=>
 ob (Ai h76 e67 (some ())) fun _=>
 aL (sT y 98 98 t66 t75 h76) fun t77 h78=>
 ob (some ()) fun _=>
 ob (GV.nilck a57) fun t79=>
 fd 102 0 t79 fun t80=>
 fd 100 2 t80 fun t81=>
 aL (aW y 98 t81 t77 h78) fun t82 h83=>
 ob (some ()) fun _=>
 ob (GV.nilck a57) fun t84=>
 fd 102 1 t84 fun t85=>
 fd 33 1 t85 fun t86=>
 ld 30 t86 h83 fun t87=>
 ob (Option.casesOn (motive:=fun _=>Option (Option eY)) (ob (GV.asP t86) fun p=>some p.1) (some none) fun k89=>ob (GH.ver h83 k89) fun k90=>some (some (k89,k90))) fun e88=>
 ld 60 a58 h83 fun t91=>
 ob (Option.casesOn (motive:=fun _=>Option (Option eY)) (ob (GV.asP a58) fun p=>some p.1) (some none) fun k93=>ob (GH.ver h83 k93) fun k94=>some (some (k93,k94))) fun e92=>
 aL (cV y 30 1 [(0,t91)] h83) fun t95 h96=>
 ob (Ai h96 e88 (some ())) fun _=>
 aL (sT y 30 30 t87 t95 h96) fun t97 h98=>
 ob (some ()) fun _=>
 ob (GV.nilck a57) fun t99=>
 fd 102 1 t99 fun t100=>
 fd 33 1 t100 fun t101=>
 aL (aW y 30 t101 t97 h98) fun t102 h103=>
 ob (some ()) fun _=>
 oR [] h103
def B91 (c:CH) (ql:QH) (us:List GV) (H:GH):RS:=U1 us fun x1=>
 ob (GV.nilck x1) fun t2=>
 fd 102 2 t2 fun t3=>
 ld 98 t3 H fun t4=>
 K c 88 [x1,t4] H fun t5 h6=>
 bd 65 [(0,t5)] fun t7=>
 aL (bY y 65 h6) fun t8 h9=>
 aL (aW y 65 t8 t7 h9) fun t10 h11=>
 ob (GV.nilck x1) fun t12=>
 fd 102 2 t12 fun t13=>
 ld 98 t13 h11 fun t14=>
 ob (Option.casesOn (motive:=fun _=>Option (Option eY)) (ob (GV.asP t13) fun p=>some p.1) (some none) fun k16=>ob (GH.ver h11 k16) fun k17=>some (some (k16,k17))) fun e15=>
 fd 65 0 t8 fun t18=>
 ld 9 t18 h11 fun t19=>
 ob (Option.casesOn (motive:=fun _=>Option (Option eY)) (ob (GV.asP t18) fun p=>some p.1) (some none) fun k21=>ob (GH.ver h11 k21) fun k22=>some (some (k21,k22))) fun e20=>
 aL (cV y 98 1 [(0,t19)] h11) fun t23 h24=>
 ob (Ai h24 e15 (some ())) fun _=>
 aL (sT y 98 98 t14 t23 h24) fun t25 h26=>
 ob (some ()) fun _=>
 ob (GV.nilck x1) fun t27=>
 fd 102 2 t27 fun t28=>
 aL (aW y 98 t28 t25 h26) fun t29 h30=>
 ob (some ()) fun _=>
 ob (GV.nilck x1) fun t31=>
 fd 102 0 t31 fun t32=>
 K c 87 [t32,(.str 58 1)] h30 fun t33 h34=>
 ob (GV.nilck x1) fun t35=>
 fd 102 0 t35 fun t36=>
 K c 125 [t36] h34 fun t37 h38=>
 fd 65 1 t8 fun t39=>
 aL (aW y 62 t39 t37 h38) fun t40 h41=>
 ob (GV.nilck x1) fun t42=>
 fd 102 0 t42 fun t43=>
 K c 87 [t43,(.str 15917 2)] h41 fun t44 h45=>
 jn (nB 0 (ql 36 [x1,t8] h45)) fun vs46 h47=>U2 vs46 fun a48 a49=>ob (GV.nilck a48) fun t50=>
 fd 102 0 t50 fun t51=>
 K c 87 [t51,(.str 59 1)] h47 fun t52 h53=>
 ob (GV.nilck a48) fun t54=>
 fd 102 1 t54 fun t55=>
 fd 33 2 t55 fun t56=>
 ld 31 t56 h53 fun t57=>
 ob (Option.casesOn (motive:=fun _=>Option (Option eY)) (ob (GV.asP t56) fun p=>some p.1) (some none) fun k59=>ob (GH.ver h53 k59) fun k60=>some (some (k59,k60))) fun e58=>
 ld 65 a49 h53 fun t61=>
 ob (Option.casesOn (motive:=fun _=>Option (Option eY)) (ob (GV.asP a49) fun p=>some p.1) (some none) fun k63=>ob (GH.ver h53 k63) fun k64=>some (some (k63,k64))) fun e62=>
 aL (cV y 31 1 [(0,t61)] h53) fun t65 h66=>
 ob (Ai h66 e58 (some ())) fun _=>
 aL (sT y 31 31 t57 t65 h66) fun t67 h68=>
 ob (some ()) fun _=>
 ob (GV.nilck a48) fun t69=>
 fd 102 1 t69 fun t70=>
 fd 33 2 t70 fun t71=>
 aL (aW y 31 t71 t67 h68) fun t72 h73=>
 ob (some ()) fun _=>
 oR [] h73
def L36 (c:CH) (ql:QH) (us:List GV) (H:GH):RS:=U2 us fun a74 a75=>jn (jn (nB 1 (ob (GV.nilck a74) fun t76=>
 fd 102 0 t76 fun t77=>
 K c 126 [t77] H fun t78 h79=>
 bd 68 [(0,t78)] fun t80=>
 aL (bY y 68 h79) fun t81 h82=>
 aL (aW y 68 t81 t80 h82) fun t83 h84=>
 ob (GV.nilck a74) fun t85=>
 fd 102 0 t85 fun t86=>
 K c 87 [t86,(.str 15674 2)] h84 fun t87 h88=>
 ob (GV.nilck a74) fun t89=>
 fd 102 0 t89 fun t90=>
 K c 125 [t90] h88 fun t91 h92=>
 fd 68 1 t81 fun t93=>
 aL (aW y 62 t93 t91 h92) fun t94 h95=>
 fd 65 2 a75 fun t96=>
 ld 63 t96 h95 fun t97=>
 ld 68 t81 h95 fun t98=>
 aL (cV y 63 1 [(0,t98)] h95) fun t99 h100=>
 aL (sT y 63 63 t97 t99 h100) fun t101 h102=>
 fd 65 2 a75 fun t103=>
 aL (aW y 63 t103 t101 h102) fun t104 h105=>
 ob (GV.nilck a74) fun t106=>
 fd 102 0 t106 fun t107=>
 K c 118 [t107,(.str 44 1)] h105 fun t108 h109=>
 ob (uO .not t108) fun t110=>
 ob (GV.asB t110) fun q111=>jn (bC q111 (oN [a74,a75] h109) (oX 0 [a74,a75] h109)) fun vs112 h113=>U2 vs112 fun a114 a115=>oN [a114,a115] h113)) fun vs116 h117=>U2 vs116 fun a118 a119=>oN [a118,a119] h117) (ql 36)
def B92 (c:CH) (ql:QH) (us:List GV) (H:GH):RS:=U1 us fun x1=>
 ob (GV.nilck x1) fun t2=>
 fd 100 1 t2 fun t3=>
 ld 94 t3 H fun t4=>
 ln 94 t4 fun t5=>
 bn .eql 3 t5 (i 0) fun t6=>
 oR [t6] H
def B93 (c:CH) (ql:QH) (us:List GV) (H:GH):RS:=U2 us fun x1 x2=>
 ob (GV.nilck x1) fun t3=>
 fd 100 0 t3 fun t4=>
 ld 9 t4 H fun t5=>
 ln 9 t5 fun t6=>
 ob (GV.nilck x1) fun t7=>
 fd 100 1 t7 fun t8=>
 ld 94 t8 H fun t9=>
 ln 94 t9 fun t10=>
 bn .gtr 3 t10 (i 0) fun t11=>
 ob (GV.asB t11) fun q12=>jn (bC q12 (oN [x2,t6] H) (ob (GV.nilck x1) fun t13=>
 fd 100 1 t13 fun t14=>
 ld 94 t14 H fun t15=>
 ix 94 t15 (i 0) fun t16=>
 fd 145 1 t16 fun t17=>
 ld 3 t17 H fun t18=>
 oN [x2,t18] H)) fun vs19 h20=>U2 vs19 fun a21 a22=>bd 149 [(0,a22),(1,a21)] fun t23=>
 none
def B94 (c:CH) (ql:QH) (us:List GV) (H:GH):RS:=U1 us fun x1=>
 aL (lV x1 H) fun t2 h3=>
 fd 33 0 t2 fun t4=>
 ld 9 t4 h3 fun t5=>
 K c 121 [t5] h3 fun t6 h7=>
 ob (uO .not t6) fun t8=>
 ob (GV.asB t8) fun q9=>jn (bC q9 (oN [t2] h7) (oR [(.bool false)] h7)) fun vs10 h11=>U1 vs10 fun a12=>aL (uN h11) fun t13 h14=>
 fd 33 1 a12 fun t15=>
 ld 30 t15 h14 fun t16=>
 ln 30 t16 fun t17=>
 jn (nB 0 (ql 37 [a12,t13,t16,t17,(i 0)] h14)) fun vs18 h19=>U1 vs18 fun a20=>aL (uN h19) fun t21 h22=>
 fd 33 2 a20 fun t23=>
 ld 31 t23 h22 fun t24=>
 ln 31 t24 fun t25=>
 jn (nB 2 (ql 38 [t21,t24,t25,(i 0)] h22)) fun vs26 h27=>U0 vs26 (oR [(.bool true)] h27)
def L37 (c:CH) (ql:QH) (us:List GV) (H:GH):RS:=U5 us fun a28 a29 a30 a31 a32=>jn (bn .lss 3 a32 a31 fun t33=>
 ob (GV.asB t33) fun q34=>jn (bC q34 (oX 0 [a28] H) (oN [a28,a29,a30,a31,a32] H)) fun vs35 h36=>U5 vs35 fun a37 a38 a39 a40 a41=>jn (nB 1 (ix 30 a39 a41 fun t42=>
 ld 60 t42 h36 fun t43=>
 aL (bY y 60 h36) fun t44 h45=>
 aL (aW y 60 t44 t43 h45) fun t46 h47=>
 fd 60 0 t44 fun t48=>
 ld 9 t48 h47 fun t49=>
 K c 121 [t49] h47 fun t50 h51=>
 ob (uO .not t50) fun t52=>
 aL (rG t52 false h51 (some (a38,h51))) fun t53 h54=>
 aL (rG t52 false h54 (ob (cP y 60 0 t44) fun g55=>some (g55,h54))) fun t56 h57=>
 aL (rG t52 false h57 (ob (bQ y 9 t56 h57) fun g58=>some (g58,h57))) fun t59 h60=>
 aL (rG t52 false h60 (ob (IX y 189 false t53 t59 h60) fun g61=>some (g61,h60))) fun t62 h63=>
 ob (cF t52 (.bool true) t62) fun t64=>
 ob (GV.asB t64) fun q65=>jn (bC q65 (oN [a37,a38,t44,a39,a40,a41] h63) (oR [(.bool false)] h63)) fun vs66 h67=>U6 vs66 fun a68 a69 a70 a71 a72 a73=>fd 60 0 a70 fun t74=>
 ld 9 t74 h67 fun t75=>
 aL (EO y 189 a69 t75 (.bool true) h67) fun t76 h77=>
 oN [a68,a69,a71,a72,a73] h77)) fun vs78 h79=>U5 vs78 fun a80 a81 a82 a83 a84=>bn .add 3 a84 (i 1) fun t85=>
 oN [a80,a81,a82,a83,t85] h79) (ql 37)
def L38 (c:CH) (ql:QH) (us:List GV) (H:GH):RS:=U4 us fun a86 a87 a88 a89=>jn (bn .lss 3 a89 a88 fun t90=>
 ob (GV.asB t90) fun q91=>jn (bC q91 (oX 2 [] H) (oN [a86,a87,a88,a89] H)) fun vs92 h93=>U4 vs92 fun a94 a95 a96 a97=>jn (nB 3 (ix 31 a95 a97 fun t98=>
 ld 65 t98 h93 fun t99=>
 aL (bY y 65 h93) fun t100 h101=>
 aL (aW y 65 t100 t99 h101) fun t102 h103=>
 fd 65 0 t100 fun t104=>
 ld 9 t104 h103 fun t105=>
 K c 121 [t105] h103 fun t106 h107=>
 ob (uO .not t106) fun t108=>
 aL (rG t108 false h107 (some (a94,h107))) fun t109 h110=>
 aL (rG t108 false h110 (ob (cP y 65 0 t100) fun g111=>some (g111,h110))) fun t112 h113=>
 aL (rG t108 false h113 (ob (bQ y 9 t112 h113) fun g114=>some (g114,h113))) fun t115 h116=>
 aL (rG t108 false h116 (ob (IX y 189 false t109 t115 h116) fun g117=>some (g117,h116))) fun t118 h119=>
 ob (cF t108 (.bool true) t118) fun t120=>
 ob (GV.asB t120) fun q121=>jn (bC q121 (oN [a94,t100,a95,a96,a97] h119) (oR [(.bool false)] h119)) fun vs122 h123=>U5 vs122 fun a124 a125 a126 a127 a128=>fd 65 0 a125 fun t129=>
 ld 9 t129 h123 fun t130=>
 aL (EO y 189 a124 t130 (.bool true) h123) fun t131 h132=>
 oN [a124,a126,a127,a128] h132)) fun vs133 h134=>U4 vs133 fun a135 a136 a137 a138=>bn .add 3 a138 (i 1) fun t139=>
 oN [a135,a136,a137,t139] h134) (ql 38)
def B95 (c:CH) (ql:QH) (us:List GV) (H:GH):RS:=U1 us fun x1=>
 aL (lV x1 H) fun t2 h3=>
 fd 60 1 t2 fun t4=>
 ld 3 t4 h3 fun t5=>
 K c 127 [t5] h3 fun t6 h7=>
 ob (uO .not t6) fun t8=>
 ob (GV.asB t8) fun q9=>jn (bC q9 (oN [t2] h7) (oR [(.bool false)] h7)) fun vs10 h11=>U1 vs10 fun a12=>fd 60 1 a12 fun t13=>
 ld 3 t13 h11 fun t14=>
 bn .neq 3 t14 (i 1) fun t15=>
 ob (GV.asB t15) fun q16=>jn (bC q16 (oN [a12] h11) (fd 60 2 a12 fun t17=>
 ld 3 t17 h11 fun t18=>
 bn .eql 3 t18 (i 0) fun t19=>
 aL (rG t19 true h11 (ob (cP y 60 3 a12) fun g20=>some (g20,h11))) fun t21 h22=>
 aL (rG t19 true h22 (ob (bQ y 3 t21 h22) fun g23=>some (g23,h22))) fun t24 h25=>
 aL (rG t19 true h25 (ob (f_ y .eql 3 t24 (i 0)) fun g26=>some (g26,h25))) fun t27 h28=>
 ob (cF t19 t27 (.bool false)) fun t29=>
 aL (rG t29 true h28 (ob (cP y 60 4 a12) fun g30=>some (g30,h28))) fun t31 h32=>
 aL (rG t29 true h32 (ob (bQ y 3 t31 h32) fun g33=>some (g33,h32))) fun t34 h35=>
 aL (rG t29 true h35 (ob (f_ y .eql 3 t34 (i 0)) fun g36=>some (g36,h35))) fun t37 h38=>
 ob (cF t29 t37 (.bool false)) fun t39=>
 aL (rG t39 true h38 (ob (cP y 60 5 a12) fun g40=>some (g40,h38))) fun t41 h42=>
 aL (rG t39 true h42 (ob (bQ y 3 t41 h42) fun g43=>some (g43,h42))) fun t44 h45=>
 aL (rG t39 true h45 (ob (f_ y .eql 3 t44 (i 0)) fun g46=>some (g46,h45))) fun t47 h48=>
 ob (cF t39 t47 (.bool false)) fun t49=>
 oR [t49] h48)) fun vs50 h51=>U1 vs50 fun a52=>fd 60 2 a52 fun t53=>
 ld 3 t53 h51 fun t54=>
 K c 128 [t54,(i 0),(i 4096)] h51 fun t55 h56=>
 ob (uO .not t55) fun t57=>
 aL (rG t57 false h56 (ob (cP y 60 4 a52) fun g58=>some (g58,h56))) fun t59 h60=>
 aL (rG t57 false h60 (ob (bQ y 3 t59 h60) fun g61=>some (g61,h60))) fun t62 h63=>
 aL (rG t57 false h63 (aL (c 128 [t62,(i 0),(i 255)] h63) sJ)) fun t64 h65=>
 aL (rG t57 false h65 (ob (uO .not t64) fun g66=>some (g66,h65))) fun t67 h68=>
 ob (cF t57 (.bool true) t67) fun t69=>
 aL (rG t69 false h68 (ob (cP y 60 5 a52) fun g70=>some (g70,h68))) fun t71 h72=>
 aL (rG t69 false h72 (ob (bQ y 3 t71 h72) fun g73=>some (g73,h72))) fun t74 h75=>
 aL (rG t69 false h75 (aL (c 128 [t74,(i 0),(i 255)] h75) sJ)) fun t76 h77=>
 aL (rG t69 false h77 (ob (uO .not t76) fun g78=>some (g78,h77))) fun t79 h80=>
 ob (cF t69 (.bool true) t79) fun t81=>
 ob (GV.asB t81) fun q82=>jn (bC q82 (oN [a52] h80) (oR [(.bool false)] h80)) fun vs83 h84=>U1 vs83 fun a85=>fd 60 4 a85 fun t86=>
 ld 3 t86 h84 fun t87=>
 bn .eql 3 t87 (i 0) fun t88=>
 aL (rG t88 true h84 (ob (cP y 60 5 a85) fun g89=>some (g89,h84))) fun t90 h91=>
 aL (rG t88 true h91 (ob (bQ y 3 t90 h91) fun g92=>some (g92,h91))) fun t93 h94=>
 aL (rG t88 true h94 (ob (f_ y .eql 3 t93 (i 0)) fun g95=>some (g95,h94))) fun t96 h97=>
 ob (cF t88 t96 (.bool false)) fun t98=>
 ob (GV.asB t98) fun q99=>jn (bC q99 (oN [a85] h97) (fd 60 3 a85 fun t100=>
 ld 3 t100 h97 fun t101=>
 K c 128 [t101,(i 0),(i 4096)] h97 fun t102 h103=>
 oR [t102] h103)) fun vs104 h105=>U1 vs104 fun a106=>fd 60 4 a106 fun t107=>
 ld 3 t107 h105 fun t108=>
 bn .eql 3 t108 (i 0) fun t109=>
 aL (rG t109 false h105 (ob (cP y 60 5 a106) fun g110=>some (g110,h105))) fun t111 h112=>
 aL (rG t109 false h112 (ob (bQ y 3 t111 h112) fun g113=>some (g113,h112))) fun t114 h115=>
 aL (rG t109 false h115 (ob (f_ y .eql 3 t114 (i 0)) fun g116=>some (g116,h115))) fun t117 h118=>
 ob (cF t109 (.bool true) t117) fun t119=>
 aL (rG t119 true h118 (ob (cP y 60 3 a106) fun g120=>some (g120,h118))) fun t121 h122=>
 aL (rG t119 true h122 (ob (bQ y 3 t121 h122) fun g123=>some (g123,h122))) fun t124 h125=>
 aL (rG t119 true h125 (aL (c 128 [t124,(.int .i64 (.negSucc 4095)),(i 4096)] h125) sJ)) fun t126 h127=>
 ob (cF t119 t126 (.bool false)) fun t128=>
 oR [t128] h127
def B96 (c:CH) (ql:QH) (us:List GV) (H:GH):RS:=U2 us fun x1 x2=>
 aL (lV x1 H) fun t3 h4=>
 fd 65 2 t3 fun t5=>
 ld 63 t5 h4 fun t6=>
 ln 63 t6 fun t7=>
 bn .eql 3 t7 (i 0) fun t8=>
 aL (rG t8 false h4 (ob (cP y 65 2 t3) fun g9=>some (g9,h4))) fun t10 h11=>
 aL (rG t8 false h11 (ob (bQ y 63 t10 h11) fun g12=>some (g12,h11))) fun t13 h14=>
 aL (rG t8 false h14 (ob (sU y 63 t13) fun g15=>some (g15,h14))) fun t16 h17=>
 aL (rG t8 false h17 (ob (f_ y .gtr 3 t16 (i 6)) fun g18=>some (g18,h17))) fun t19 h20=>
 ob (cF t8 (.bool true) t19) fun t21=>
 aL (rG t21 false h20 (ob (cP y 65 1 t3) fun g22=>some (g22,h20))) fun t23 h24=>
 aL (rG t21 false h24 (ob (bQ y 62 t23 h24) fun g25=>some (g25,h24))) fun t26 h27=>
 aL (rG t21 false h27 (some (x2,h27))) fun t28 h29=>
 aL (rG t21 false h29 (aL (c 46 [t26,t28] h29) sJ)) fun t30 h31=>
 aL (rG t21 false h31 (ob (uO .not t30) fun g32=>some (g32,h31))) fun t33 h34=>
 ob (cF t21 (.bool true) t33) fun t35=>
 ob (GV.asB t35) fun q36=>jn (bC q36 (oN [x2,t3] h34) (oR [(.bool false)] h34)) fun vs37 h38=>U2 vs37 fun a39 a40=>aL (uN h38) fun t41 h42=>
 fd 65 2 a40 fun t43=>
 ld 63 t43 h42 fun t44=>
 ln 63 t44 fun t45=>
 jn (nB 0 (ql 39 [a39,t41,t44,t45,(i 0)] h42)) fun vs46 h47=>U0 vs46 (oR [(.bool true)] h47)
def L39 (c:CH) (ql:QH) (us:List GV) (H:GH):RS:=U5 us fun a48 a49 a50 a51 a52=>jn (bn .lss 3 a52 a51 fun t53=>
 ob (GV.asB t53) fun q54=>jn (bC q54 (oX 0 [] H) (oN [a48,a49,a50,a51,a52] H)) fun vs55 h56=>U5 vs55 fun a57 a58 a59 a60 a61=>jn (nB 1 (ix 63 a59 a61 fun t62=>
 ld 68 t62 h56 fun t63=>
 aL (bY y 68 h56) fun t64 h65=>
 aL (aW y 68 t64 t63 h65) fun t66 h67=>
 fd 68 0 t64 fun t68=>
 ld 3 t68 h67 fun t69=>
 bn .sub 3 a57 (i 1) fun t70=>
 K c 128 [t69,(i 0),t70] h67 fun t71 h72=>
 ob (uO .not t71) fun t73=>
 aL (rG t73 false h72 (some (a58,h72))) fun t74 h75=>
 aL (rG t73 false h75 (ob (cP y 68 0 t64) fun g76=>some (g76,h75))) fun t77 h78=>
 aL (rG t73 false h78 (ob (bQ y 3 t77 h78) fun g79=>some (g79,h78))) fun t80 h81=>
 aL (rG t73 false h81 (ob (IX y 191 false t74 t80 h81) fun g82=>some (g82,h81))) fun t83 h84=>
 ob (cF t73 (.bool true) t83) fun t85=>
 aL (rG t85 false h84 (ob (cP y 68 1 t64) fun g86=>some (g86,h84))) fun t87 h88=>
 aL (rG t85 false h88 (ob (bQ y 62 t87 h88) fun g89=>some (g89,h88))) fun t90 h91=>
 aL (rG t85 false h91 (some (a57,h91))) fun t92 h93=>
 aL (rG t85 false h93 (aL (c 46 [t90,t92] h93) sJ)) fun t94 h95=>
 aL (rG t85 false h95 (ob (uO .not t94) fun g96=>some (g96,h95))) fun t97 h98=>
 ob (cF t85 (.bool true) t97) fun t99=>
 ob (GV.asB t99) fun q100=>jn (bC q100 (oN [a57,a58,t64,a59,a60,a61] h98) (oR [(.bool false)] h98)) fun vs101 h102=>U6 vs101 fun a103 a104 a105 a106 a107 a108=>fd 68 0 a105 fun t109=>
 ld 3 t109 h102 fun t110=>
 aL (EO y 191 a104 t110 (.bool true) h102) fun t111 h112=>
 oN [a103,a104,a106,a107,a108] h112)) fun vs113 h114=>U5 vs113 fun a115 a116 a117 a118 a119=>bn .add 3 a119 (i 1) fun t120=>
 oN [a115,a116,a117,a118,t120] h114) (ql 39)
def B97 (c:CH) (ql:QH) (us:List GV) (H:GH):RS:=U1 us fun x1=>
 aL (lV x1 H) fun t2 h3=>
 fd 33 1 t2 fun t4=>
 ld 30 t4 h3 fun t5=>
 ln 30 t5 fun t6=>
 aL (EN y 22 t6 t6 h3) fun t7 h8=>
 fd 33 1 t2 fun t9=>
 ld 30 t9 h8 fun t10=>
 ln 30 t10 fun t11=>
 jn (nB 0 (ql 40 [t7,t10,t11,(i 0)] h8)) fun vs12 h13=>U1 vs12 fun a14=>oR [a14] h13
def L40 (c:CH) (ql:QH) (us:List GV) (H:GH):RS:=U4 us fun a15 a16 a17 a18=>jn (bn .lss 3 a18 a17 fun t19=>
 ob (GV.asB t19) fun q20=>jn (bC q20 (oX 0 [a15] H) (oN [a15,a16,a17,a18] H)) fun vs21 h22=>U4 vs21 fun a23 a24 a25 a26=>jn (nB 1 (ix 30 a24 a26 fun t27=>
 ld 60 t27 h22 fun t28=>
 aL (bY y 60 h22) fun t29 h30=>
 aL (aW y 60 t29 t28 h30) fun t31 h32=>
 fd 60 1 t29 fun t33=>
 ld 3 t33 h32 fun t34=>
 ix 22 a23 a26 fun t35=>
 aL (aW y 3 t35 t34 h32) fun t36 h37=>
 oN [a23,a24,a25,a26] h37)) fun vs38 h39=>U4 vs38 fun a40 a41 a42 a43=>bn .add 3 a43 (i 1) fun t44=>
 oN [a40,a41,a42,t44] h39) (ql 40)
def B98 (c:CH) (ql:QH) (us:List GV) (H:GH):RS:=U2 us fun x1 x2=>
 aL (lV x1 H) fun t3 h4=>
 fd 65 1 t3 fun t5=>
 ld 62 t5 h4 fun t6=>
 K c 129 [t6,x2,(.bool false)] h4 fun t7 h8=>
 ex 0 t7 fun t9=>
 ex 1 t7 fun t10=>
 bn .neq 3 t9 (i 2) fun t11=>
 ob (GV.asB t11) fun q12=>jn (bC q12 (oN [x2,t3] h8) (oR [(.bool false)] h8)) fun vs13 h14=>U2 vs13 fun a15 a16=>fd 65 2 a16 fun t17=>
 ld 63 t17 h14 fun t18=>
 ln 63 t18 fun t19=>
 jn (nB 0 (ql 41 [a15,t18,t19,(i 0)] h14)) fun vs20 h21=>U0 vs20 (oR [(.bool true)] h21)
def L41 (c:CH) (ql:QH) (us:List GV) (H:GH):RS:=U4 us fun a22 a23 a24 a25=>jn (bn .lss 3 a25 a24 fun t26=>
 ob (GV.asB t26) fun q27=>jn (bC q27 (oX 0 [] H) (oN [a22,a23,a24,a25] H)) fun vs28 h29=>U4 vs28 fun a30 a31 a32 a33=>jn (nB 1 (ix 63 a31 a33 fun t34=>
 ld 68 t34 h29 fun t35=>
 aL (bY y 68 h29) fun t36 h37=>
 aL (aW y 68 t36 t35 h37) fun t38 h39=>
 fd 68 1 t36 fun t40=>
 ld 62 t40 h39 fun t41=>
 K c 129 [t41,a30,(.bool false)] h39 fun t42 h43=>
 ex 0 t42 fun t44=>
 ex 1 t42 fun t45=>
 fd 68 0 t36 fun t46=>
 ld 3 t46 h43 fun t47=>
 ix 22 a30 t47 fun t48=>
 ld 3 t48 h43 fun t49=>
 bn .neq 3 t44 t49 fun t50=>
 ob (GV.asB t50) fun q51=>jn (bC q51 (oN [a30,a31,a32,a33] h43) (oR [(.bool false)] h43)) fun vs52 h53=>U4 vs52 fun a54 a55 a56 a57=>oN [a54,a55,a56,a57] h53)) fun vs58 h59=>U4 vs58 fun a60 a61 a62 a63=>bn .add 3 a63 (i 1) fun t64=>
 oN [a60,a61,a62,t64] h59) (ql 41)
def B99 (c:CH) (ql:QH) (us:List GV) (H:GH):RS:=U2 us fun x1 x2=>
 ln 31 x1 fun t3=>
 jn (nB 0 (ql 42 [x1,x2,t3,(i 0)] H)) fun vs4 h5=>U0 vs4 (oR [(.int .i64 (.negSucc 0))] h5)
def L42 (c:CH) (ql:QH) (us:List GV) (H:GH):RS:=U4 us fun a6 a7 a8 a9=>jn (bn .lss 3 a9 a8 fun t10=>
 ob (GV.asB t10) fun q11=>jn (bC q11 (oX 0 [] H) (oN [a6,a7,a8,a9] H)) fun vs12 h13=>U4 vs12 fun a14 a15 a16 a17=>jn (nB 1 (ix 31 a14 a17 fun t18=>
 ld 65 t18 h13 fun t19=>
 ob (GV.asF a15) fun p22=>aL (c p22.1 (p22.2.1++[t19]++p22.2.2) h13) fun t20 h21=>
 ob (GV.asB t20) fun q23=>jn (bC q23 (oN [a14,a15,a16,a17] h21) (oR [a17] h21)) fun vs24 h25=>U4 vs24 fun a26 a27 a28 a29=>oN [a26,a27,a28,a29] h25)) fun vs30 h31=>U4 vs30 fun a32 a33 a34 a35=>bn .add 3 a35 (i 1) fun t36=>
 oN [a32,a33,a34,t36] h31) (ql 42)
def WG (c:CH) (ql:QH) (us:List GV) (H:GH):RS:=U1 us fun x1=>
 K c 46 [x1,(i 6)] H fun t2 h3=>
 ob (uO .not t2) fun t4=>
 ob (GV.asB t4) fun q5=>jn (bC q5 (oN [x1,(.int .u32 (.ofNat 0)),(.int .u32 (.ofNat 0))] h3) (oR [(.int .u32 (.ofNat 0)),(.int .u32 (.ofNat 0))] h3)) fun vs6 h7=>U3 vs6 fun a8 a9 a10=>ln 62 a8 fun t11=>
 jn (nB 0 (ql 43 [a9,a10,a8,t11,(i 0)] h7)) fun vs12 h13=>U2 vs12 fun a14 a15=>oR [a14,a15] h13
def L43 (c:CH) (ql:QH) (us:List GV) (H:GH):RS:=U5 us fun a16 a17 a18 a19 a20=>jn (bn .lss 3 a20 a19 fun t21=>
 ob (GV.asB t21) fun q22=>jn (bC q22 (oX 0 [a16,a17] H) (oN [a16,a17,a18,a19,a20] H)) fun vs23 h24=>U5 vs23 fun a25 a26 a27 a28 a29=>jn (nB 1 (ix 62 a27 a29 fun t30=>
 ld 130 t30 h24 fun t31=>
 aL (bY y 130 h24) fun t32 h33=>
 aL (aW y 130 t32 t31 h33) fun t34 h35=>
 fd 130 0 t32 fun t36=>
 ld 3 t36 h35 fun t37=>
 jn (nB 2 (bn .eql 3 t37 (i 5) fun t38=>
 ob (GV.asB t38) fun q39=>jn (bC q39 (bn .eql 3 t37 (i 12) fun t44=>
 ob (GV.asB t44) fun q45=>jn (bC q45 (oN [a25,a26,a27,a28,a29] h35) (fd 130 1 t32 fun t46=>
 ld 3 t46 h35 fun t47=>
 bn .shl 25 (.int .u32 (.ofNat 1)) t47 fun t48=>
 bn .or 25 a26 t48 fun t49=>
 oN [a25,t49,a27,a28,a29] h35)) fun vs50 h51=>U5 vs50 fun a52 a53 a54 a55 a56=>oN [a52,a53,a54,a55,a56] h51) (fd 130 1 t32 fun t40=>
 ld 3 t40 h35 fun t41=>
 bn .shl 25 (.int .u32 (.ofNat 1)) t41 fun t42=>
 bn .or 25 a25 t42 fun t43=>
 oN [t43,a26,a27,a28,a29] h35)) fun vs57 h58=>U5 vs57 fun a59 a60 a61 a62 a63=>oN [a59,a60,a61,a62,a63] h58)) fun vs64 h65=>U5 vs64 fun a66 a67 a68 a69 a70=>oN [a66,a67,a68,a69,a70] h65)) fun vs71 h72=>U5 vs71 fun a73 a74 a75 a76 a77=>bn .add 3 a77 (i 1) fun t78=>
 oN [a73,a74,a75,a76,t78] h72) (ql 43)
def WH (c:CH) (ql:QH) (us:List GV) (H:GH):RS:=U2 us fun x1 x2=>
 bn .lss 3 x2 (i 0) fun t3=>
 ob (GV.asB t3) fun q4=>jn (bC q4 (oN [x1,x2] H) (none)) fun vs5 h6=>U2 vs5 fun a7 a8=>ob (MK y 62 a7) fun t9=>
 ln 62 a7 fun t10=>
 bn .sub 3 t9 t10 fun t11=>
 bn .sub 3 a8 t11 fun t12=>
 bn .gtr 3 t12 (i 0) fun t13=>
 ob (GV.asB t13) fun q14=>jn (bC q14 (oN [a7] h6) (ob (MK y 62 a7) fun t15=>
 ob (oZ y 62 a7 none (some t15) h6) fun t16=>
 aL (sT y 62 3 t16 t12 h6) fun t17 h18=>
 ln 62 a7 fun t19=>
 ob (oZ y 62 t17 none (some t19) h18) fun t20=>
 oN [t20] h18)) fun vs21 h22=>U1 vs21 fun a23=>oR [a23] h22
def WI (c:CH) (ql:QH) (us:List GV) (H:GH):RS:=U1 us fun x1=>
 jn (nB 0 (bn .lss 3 x1 (i 1) fun t2=>
 aL (rG t2 false H (some (x1,H))) fun t3 h4=>
 aL (rG t2 false h4 (ob (f_ y .gtr 3 t3 (i 43)) fun g5=>some (g5,h4))) fun t6 h7=>
 ob (cF t2 (.bool true) t6) fun t8=>
 ob (GV.asB t8) fun q9=>jn (bC q9 (bn .leq 3 x1 (i 17) fun t10=>
 ob (GV.asB t10) fun q11=>jn (bC q11 (bn .leq 3 x1 (i 29) fun t12=>
 ob (GV.asB t12) fun q13=>jn (bC q13 (bn .leq 3 x1 (i 42) fun t14=>
 ob (GV.asB t14) fun q15=>jn (bC q15 (oN [] h7) (oR [(i 2)] h7)) fun vs16 h17=>U0 vs16 (oN [] h17)) (oR [(i 1)] h7)) fun vs18 h19=>U0 vs18 (oN [] h19)) (oR [(i 0)] h7)) fun vs20 h21=>U0 vs20 (oN [] h21)) (oR [(.int .i64 (.negSucc 0))] h7)) fun vs22 h23=>U0 vs22 (oN [] h23))) fun vs24 h25=>U0 vs24 (oR [(i 3)] h25)
def WJ (c:CH) (ql:QH) (us:List GV) (H:GH):RS:=U2 us fun x1 x2=>
 K c 75 [x1,(i 0)] H fun t3 h4=>
 ln 62 x1 fun t5=>
 bn .neq 3 t3 t5 fun t6=>
 ob (GV.asB t6) fun q7=>jn (bC q7 (oN [x1,x2] h4) (oR [(i 0),(.bool false)] h4)) fun vs8 h9=>U2 vs8 fun a10 a11=>ln 62 a10 fun t12=>
 bn .sub 3 t12 (i 1) fun t13=>
 jn (nB 0 (ql 44 [a10,a11,.snil,t13] h9)) fun vs14 h15=>U1 vs14 fun a16=>ix 22 a16 (i 0) fun t17=>
 ld 3 t17 h15 fun t18=>
 oR [t18,(.bool true)] h15
def L44 (c:CH) (ql:QH) (us:List GV) (H:GH):RS:=U4 us fun a19 a20 a21 a22=>jn (bn .geq 3 a22 (i 0) fun t23=>
 ob (GV.asB t23) fun q24=>jn (bC q24 (oX 0 [a21] H) (oN [a19,a20,a21,a22] H)) fun vs25 h26=>U4 vs25 fun a27 a28 a29 a30=>jn (nB 1 (ln 22 a29 fun t31=>
 ix 62 a27 a30 fun t32=>
 fd 130 0 t32 fun t33=>
 ld 3 t33 h26 fun t34=>
 K c 106 [t34] h26 fun t35 h36=>
 bn .sub 3 t31 t35 fun t37=>
 ob (oZ y 22 a29 (some t37) none h36) fun t38=>
 ln 22 t38 fun t39=>
 jn (nB 2 (ql 45 [a27,a28,a29,a30,t37,(i 0),t38,t39,(i 0)] h36)) fun vs40 h41=>U6 vs40 fun a42 a43 a44 a45 a46 a47=>ob (oZ y 22 a44 none (some a46) h41) fun t48=>
 ix 62 a42 a45 fun t49=>
 fd 130 0 t49 fun t50=>
 ld 3 t50 h41 fun t51=>
 ob (GV.asF a43) fun p54=>aL (c p54.1 (p54.2.1++[t51,a47]++p54.2.2) h41) fun t52 h53=>
 aL (cV y 22 1 [(0,t52)] h53) fun t55 h56=>
 aL (sT y 22 22 t48 t55 h56) fun t57 h58=>
 oN [a42,a43,t57,a45] h58)) fun vs59 h60=>U4 vs59 fun a61 a62 a63 a64=>bn .sub 3 a64 (i 1) fun t65=>
 oN [a61,a62,a63,t65] h60) (ql 44)
def L45 (c:CH) (ql:QH) (us:List GV) (H:GH):RS:=U9 us fun a66 a67 a68 a69 a70 a71 a72 a73 a74=>jn (bn .lss 3 a74 a73 fun t75=>
 ob (GV.asB t75) fun q76=>jn (bC q76 (oX 2 [a66,a67,a68,a69,a70,a71] H) (oN [a66,a67,a68,a69,a70,a71,a72,a73,a74] H)) fun vs77 h78=>U9 vs77 fun a79 a80 a81 a82 a83 a84 a85 a86 a87=>jn (nB 3 (ix 22 a85 a87 fun t88=>
 ld 3 t88 h78 fun t89=>
 ob (PX a84 t89) fun t90=>
 oN [a79,a80,a81,a82,a83,t90,a85,a86,a87] h78)) fun vs91 h92=>U9 vs91 fun a93 a94 a95 a96 a97 a98 a99 a100 a101=>bn .add 3 a101 (i 1) fun t102=>
 oN [a93,a94,a95,a96,a97,a98,a99,a100,t102] h92) (ql 45)
def WK (c:CH) (ql:QH) (us:List GV) (H:GH):RS:=U2 us fun x1 x2=>
 bn .add 3 x2 (i 1) fun t3=>
 oR [t3] H
def WL (c:CH) (ql:QH) (us:List GV) (H:GH):RS:=U2 us fun x1 x2=>
 K c 110 [x1] H fun t3 h4=>
 ob (GV.asB t3) fun q5=>jn (bC q5 (oN [x2] h4) (bn .add 3 x2 (i 1) fun t6=>
 oR [t6] h4)) fun vs7 h8=>U1 vs7 fun a9=>oR [a9] h8
def WM (c:CH) (ql:QH) (us:List GV) (H:GH):RS:=U1 us fun x1=>
 bn .geq 3 x1 (i 20) fun t2=>
 aL (rG t2 true H (some (x1,H))) fun t3 h4=>
 aL (rG t2 true h4 (ob (f_ y .leq 3 t3 (i 29)) fun g5=>some (g5,h4))) fun t6 h7=>
 ob (cF t2 t6 (.bool false)) fun t8=>
 oR [t8] h7
def WN (c:CH) (ql:QH) (us:List GV) (H:GH):RS:=U3 us fun x1 x2 x3=>
 ld 3 x2 H fun t4=>
 jn (nB 0 (ql 46 [x1,x3,t4] H)) fun vs5 h6=>U1 vs5 fun a7=>oR [a7] h6
def L46 (c:CH) (ql:QH) (us:List GV) (H:GH):RS:=U3 us fun a8 a9 a10=>jn (ld 9 a9 H fun t11=>
 ln 9 t11 fun t12=>
 bn .lss 3 a10 t12 fun t13=>
 aL (rG t13 true H (some (a8,H))) fun t14 h15=>
 aL (rG t13 true h15 (ob (bQ y 9 a9 h15) fun g16=>some (g16,h15))) fun t17 h18=>
 aL (rG t13 true h18 (some (a10,h18))) fun t19 h20=>
 aL (rG t13 true h20 (ob (Ko y 9 t17 t19) fun g21=>some (g21,h20))) fun t22 h23=>
 aL (rG t13 true h23 (ob (GV.asF t14) fun p24=>aL (c p24.1 (p24.2.1++[t22]++p24.2.2) h23) sJ)) fun t25 h26=>
 ob (cF t13 t25 (.bool false)) fun t27=>
 ob (GV.asB t27) fun q28=>jn (bC q28 (oX 0 [a10] h26) (oN [a8,a9,a10] h26)) fun vs29 h30=>U3 vs29 fun a31 a32 a33=>jn (nB 1 (bn .add 3 a33 (i 1) fun t34=>
 oN [a31,a32,t34] h30)) fun vs35 h36=>U3 vs35 fun a37 a38 a39=>oN [a37,a38,a39] h36) (ql 46)
def WO (c:CH) (ql:QH) (us:List GV) (H:GH):RS:=U1 us fun x1=>
 bn .geq 5 x1 (.int .u8 (.ofNat 97)) fun t2=>
 aL (rG t2 true H (some (x1,H))) fun t3 h4=>
 aL (rG t2 true h4 (ob (f_ y .leq 5 t3 (.int .u8 (.ofNat 122))) fun g5=>some (g5,h4))) fun t6 h7=>
 ob (cF t2 t6 (.bool false)) fun t8=>
 aL (rG t8 false h7 (some (x1,h7))) fun t9 h10=>
 aL (rG t8 false h10 (ob (f_ y .geq 5 t9 (.int .u8 (.ofNat 65))) fun g11=>some (g11,h10))) fun t12 h13=>
 aL (rG t8 false h13 (some (t12,h13))) fun t14 h15=>
 aL (rG t14 true h15 (some (x1,h15))) fun t16 h17=>
 aL (rG t14 true h17 (ob (f_ y .leq 5 t16 (.int .u8 (.ofNat 90))) fun g18=>some (g18,h17))) fun t19 h20=>
 aL (rG t8 false h20 (ob (cF t14 t19 (.bool false)) fun g21=>some (g21,h20))) fun t22 h23=>
 ob (cF t8 (.bool true) t22) fun t24=>
 oR [t24] h23
def WP (c:CH) (ql:QH) (us:List GV) (H:GH):RS:=U1 us fun x1=>
 K c 113 [x1] H fun t2 h3=>
 aL (rG t2 false h3 (some (x1,h3))) fun t4 h5=>
 aL (rG t2 false h5 (aL (c 115 [t4] h5) sJ)) fun t6 h7=>
 ob (cF t2 (.bool true) t6) fun t8=>
 aL (rG t8 false h7 (some (x1,h7))) fun t9 h10=>
 aL (rG t8 false h10 (ob (f_ y .eql 5 t9 (.int .u8 (.ofNat 95))) fun g11=>some (g11,h10))) fun t12 h13=>
 ob (cF t8 (.bool true) t12) fun t14=>
 oR [t14] h13
def WQ (c:CH) (ql:QH) (us:List GV) (H:GH):RS:=U1 us fun x1=>
 bn .geq 5 x1 (.int .u8 (.ofNat 48)) fun t2=>
 aL (rG t2 true H (some (x1,H))) fun t3 h4=>
 aL (rG t2 true h4 (ob (f_ y .leq 5 t3 (.int .u8 (.ofNat 57))) fun g5=>some (g5,h4))) fun t6 h7=>
 ob (cF t2 t6 (.bool false)) fun t8=>
 oR [t8] h7
def WR (c:CH) (ql:QH) (us:List GV) (H:GH):RS:=U1 us fun x1=>
 ob (Ko y 9 x1 (i 0)) fun t2=>
 bn .eql 5 t2 (.int .u8 (.ofNat 48)) fun t3=>
 aL (rG t3 true H (some (x1,H))) fun t4 h5=>
 aL (rG t3 true h5 (ob (sU y 9 t4) fun g6=>some (g6,h5))) fun t7 h8=>
 aL (rG t3 true h8 (ob (f_ y .gtr 3 t7 (i 1)) fun g9=>some (g9,h8))) fun t10 h11=>
 ob (cF t3 t10 (.bool false)) fun t12=>
 ob (GV.asB t12) fun q13=>jn (bC q13 (oN [x1] h11) (oR [(i 0),(.bool false)] h11)) fun vs14 h15=>U1 vs14 fun a16=>ln 9 a16 fun t17=>
 jn (nB 0 (ql 47 [a16,(i 0),t17,(i 0)] h15)) fun vs18 h19=>U1 vs18 fun a20=>oR [a20,(.bool true)] h19
def L47 (c:CH) (ql:QH) (us:List GV) (H:GH):RS:=U4 us fun a21 a22 a23 a24=>jn (bn .lss 3 a24 a23 fun t25=>
 ob (GV.asB t25) fun q26=>jn (bC q26 (oX 0 [a22] H) (oN [a21,a22,a23,a24] H)) fun vs27 h28=>U4 vs27 fun a29 a30 a31 a32=>jn (nB 1 (bn .mul 3 (i 10) a30 fun t33=>
 ob (Ko y 9 a29 a32) fun t34=>
 bn .sub 5 t34 (.int .u8 (.ofNat 48)) fun t35=>
 ob (Lw y 5 3 t35) fun t36=>
 bn .add 3 t33 t36 fun t37=>
 bn .gtr 3 t37 (i 1073741824) fun t38=>
 ob (GV.asB t38) fun q39=>jn (bC q39 (oN [a29,t37,a31,a32] h28) (oR [(i 0),(.bool false)] h28)) fun vs40 h41=>U4 vs40 fun a42 a43 a44 a45=>oN [a42,a43,a44,a45] h41)) fun vs46 h47=>U4 vs46 fun a48 a49 a50 a51=>bn .add 3 a51 (i 1) fun t52=>
 oN [a48,a49,a50,t52] h47) (ql 47)
def WS (c:CH) (ql:QH) (us:List GV) (H:GH):RS:=U1 us fun x1=>
 aL (cV y 98 9 [(0,(.str 11822 2)),(1,(.str 15917 2)),(2,(.str 15674 2)),(3,(.str 9766 2)),(4,(.str 31868 2)),(5,(.str 15677 2)),(6,(.str 15649 2)),(7,(.str 15676 2)),(8,(.str 15678 2))] H) fun t2 h3=>
 ln 98 t2 fun t4=>
 jn (nB 0 (ql 48 [x1,t2,t4,(i 0)] h3)) fun vs5 h6=>U1 vs5 fun a7=>ob (Ko y 9 a7 (i 0)) fun t8=>
 K c 141 [(.str 172099982263598878148345807877454395 15),t8] h6 fun t9 h10=>
 bn .geq 3 t9 (i 0) fun t11=>
 ob (GV.asB t11) fun q12=>jn (bC q12 (oN [] h10) (oR [(i 1)] h10)) fun vs13 h14=>U0 vs13 (oR [(i 0)] h14)
def L48 (c:CH) (ql:QH) (us:List GV) (H:GH):RS:=U4 us fun a15 a16 a17 a18=>jn (bn .lss 3 a18 a17 fun t19=>
 ob (GV.asB t19) fun q20=>jn (bC q20 (oX 0 [a15] H) (oN [a15,a16,a17,a18] H)) fun vs21 h22=>U4 vs21 fun a23 a24 a25 a26=>jn (nB 1 (ix 98 a24 a26 fun t27=>
 ld 9 t27 h22 fun t28=>
 K c 140 [a23,t28] h22 fun t29 h30=>
 ob (GV.asB t29) fun q31=>jn (bC q31 (oN [a23,a24,a25,a26] h30) (oR [(i 2)] h30)) fun vs32 h33=>U4 vs32 fun a34 a35 a36 a37=>oN [a34,a35,a36,a37] h33)) fun vs38 h39=>U4 vs38 fun a40 a41 a42 a43=>bn .add 3 a43 (i 1) fun t44=>
 oN [a40,a41,a42,t44] h39) (ql 48)
def WU (c:CH) (ql:QH) (us:List GV) (H:GH):RS:=U2 us fun x1 x2=>
 K c 119 [x1] H fun t3 h4=>
 bn .neq 9 t3 x2 fun t5=>
 ob (GV.asB t5) fun q6=>jn (bC q6 (oN [x1] h4) (oR [(.bool false)] h4)) fun vs7 h8=>U1 vs7 fun a9=>K c 122 [a9] h8 fun t10 h11=>
 oR [(.bool true)] h11
def WV (c:CH) (ql:QH) (us:List GV) (H:GH):RS:=U1 us fun x1=>
 ob (GV.nilck x1) fun t2=>
 fd 100 1 t2 fun t3=>
 ld 94 t3 H fun t4=>
 ln 94 t4 fun t5=>
 bn .eql 3 t5 (i 0) fun t6=>
 ob (GV.asB t6) fun q7=>jn (bC q7 (oN [x1] H) (oR [(.str 0 0)] H)) fun vs8 h9=>U1 vs8 fun a10=>ob (GV.nilck a10) fun t11=>
 fd 100 0 t11 fun t12=>
 ld 9 t12 h9 fun t13=>
 ob (GV.nilck a10) fun t14=>
 fd 100 1 t14 fun t15=>
 ld 94 t15 h9 fun t16=>
 ix 94 t16 (i 0) fun t17=>
 fd 145 1 t17 fun t18=>
 ld 3 t18 h9 fun t19=>
 ob (GV.nilck a10) fun t20=>
 fd 100 1 t20 fun t21=>
 ld 94 t21 h9 fun t22=>
 ix 94 t22 (i 0) fun t23=>
 fd 145 2 t23 fun t24=>
 ld 3 t24 h9 fun t25=>
 ob (oZ y 9 t13 (some t19) (some t25) h9) fun t26=>
 oR [t26] h9
def WW (c:CH) (ql:QH) (us:List GV) (H:GH):RS:=U1 us fun x1=>
 ob (GV.nilck x1) fun t2=>
 fd 100 1 t2 fun t3=>
 ld 94 t3 H fun t4=>
 ln 94 t4 fun t5=>
 bn .eql 3 t5 (i 0) fun t6=>
 ob (GV.asB t6) fun q7=>jn (bC q7 (oN [x1] H) (oR [(i 0)] H)) fun vs8 h9=>U1 vs8 fun a10=>ob (GV.nilck a10) fun t11=>
 fd 100 1 t11 fun t12=>
 ld 94 t12 h9 fun t13=>
 ix 94 t13 (i 0) fun t14=>
 fd 145 0 t14 fun t15=>
 ld 3 t15 h9 fun t16=>
 oR [t16] h9
def WX (c:CH) (ql:QH) (us:List GV) (H:GH):RS:=U1 us fun x1=>
 ln 9 x1 fun t2=>
 bn .lss 3 t2 (i 1) fun t3=>
 aL (rG t3 false H (some (x1,H))) fun t4 h5=>
 aL (rG t3 false h5 (ob (sU y 9 t4) fun g6=>some (g6,h5))) fun t7 h8=>
 aL (rG t3 false h8 (ob (f_ y .gtr 3 t7 (i 24)) fun g9=>some (g9,h8))) fun t10 h11=>
 ob (cF t3 (.bool true) t10) fun t12=>
 aL (rG t12 false h11 (some (x1,h11))) fun t13 h14=>
 aL (rG t12 false h14 (ob (Ko y 9 t13 (i 0)) fun g15=>some (g15,h14))) fun t16 h17=>
 aL (rG t12 false h17 (aL (c 113 [t16] h17) sJ)) fun t18 h19=>
 aL (rG t12 false h19 (ob (uO .not t18) fun g20=>some (g20,h19))) fun t21 h22=>
 ob (cF t12 (.bool true) t21) fun t23=>
 ob (GV.asB t23) fun q24=>jn (bC q24 (oN [x1] h22) (oR [(.bool false)] h22)) fun vs25 h26=>U1 vs25 fun a27=>ln 9 a27 fun t28=>
 jn (nB 0 (ql 49 [a27,t28,(i 0)] h26)) fun vs29 h30=>U1 vs29 fun a31=>K c 142 [a31] h30 fun t32 h33=>
 ob (uO .not t32) fun t34=>
 oR [t34] h33
def L49 (c:CH) (ql:QH) (us:List GV) (H:GH):RS:=U3 us fun a35 a36 a37=>jn (bn .lss 3 a37 a36 fun t38=>
 ob (GV.asB t38) fun q39=>jn (bC q39 (oX 0 [a35] H) (oN [a35,a36,a37] H)) fun vs40 h41=>U3 vs40 fun a42 a43 a44=>jn (nB 1 (ob (Ko y 9 a42 a44) fun t45=>
 K c 114 [t45] h41 fun t46 h47=>
 ob (uO .not t46) fun t48=>
 ob (GV.asB t48) fun q49=>jn (bC q49 (oN [a42,a43,a44] h47) (oR [(.bool false)] h47)) fun vs50 h51=>U3 vs50 fun a52 a53 a54=>oN [a52,a53,a54] h51)) fun vs55 h56=>U3 vs55 fun a57 a58 a59=>bn .add 3 a59 (i 1) fun t60=>
 oN [a57,a58,t60] h56) (ql 49)
def WY (c:CH) (ql:QH) (us:List GV) (H:GH):RS:=U1 us fun x1=>
 aL (bY y 145 H) fun t2 h3=>
 ob (GV.nilck x1) fun t4=>
 fd 100 1 t4 fun t5=>
 ld 94 t5 h3 fun t6=>
 ln 94 t6 fun t7=>
 bn .eql 3 t7 (i 0) fun t8=>
 ob (GV.asB t8) fun q9=>jn (bC q9 (oN [x1,t2] h3) (K c 93 [x1,(i 4)] h3 fun t10 h11=>
 oN [x1,t2] h11)) fun vs12 h13=>U2 vs12 fun a14 a15=>ob (GV.nilck a14) fun t16=>
 fd 100 1 t16 fun t17=>
 ld 94 t17 h13 fun t18=>
 ix 94 t18 (i 0) fun t19=>
 ld 145 t19 h13 fun t20=>
 aL (bY y 145 h13) fun t21 h22=>
 aL (aW y 145 t21 t20 h22) fun t23 h24=>
 ob (GV.nilck a14) fun t25=>
 fd 100 1 t25 fun t26=>
 ld 94 t26 h24 fun t27=>
 ob (oZ y 94 t27 (some (i 1)) none h24) fun t28=>
 ob (GV.nilck a14) fun t29=>
 fd 100 1 t29 fun t30=>
 aL (aW y 94 t30 t28 h24) fun t31 h32=>
 ld 145 t21 h32 fun t33=>
 aL (aW y 145 a15 t33 h32) fun t34 h35=>
 ob (ob (bQ y 145 a15 h35) fun r36=>some [r36]) fun vs37=>oR vs37 h35
def WZ (c:CH) (ql:QH) (us:List GV) (H:GH):RS:=U3 us fun x1 x2 x3=>
 ob (GV.nilck x1) fun t4=>
 fd 102 0 t4 fun t5=>
 K c 120 [t5] H fun t6 h7=>
 bn .neq 3 t6 (i 2) fun t8=>
 ob (GV.asB t8) fun q9=>jn (bC q9 (oN [x1,x2,x3] h7) (ob (GV.nilck x1) fun t10=>
 fd 102 0 t10 fun t11=>
 K c 93 [t11,(i 4)] h7 fun t12 h13=>
 oN [x1,x2,x3] h13)) fun vs14 h15=>U3 vs14 fun a16 a17 a18=>ob (GV.nilck a16) fun t19=>
 fd 102 0 t19 fun t20=>
 fd 100 1 t20 fun t21=>
 ld 94 t21 h15 fun t22=>
 ix 94 t22 (i 0) fun t23=>
 fd 145 3 t23 fun t24=>
 ld 3 t24 h15 fun t25=>
 bn .lss 3 t25 a17 fun t26=>
 aL (rG t26 false h15 (some (t25,h15))) fun t27 h28=>
 aL (rG t26 false h28 (some (a18,h28))) fun t29 h30=>
 aL (rG t26 false h30 (ob (f_ y .gtr 3 t27 t29) fun g31=>some (g31,h30))) fun t32 h33=>
 ob (cF t26 (.bool true) t32) fun t34=>
 ob (GV.asB t34) fun q35=>jn (bC q35 (oN [a16] h33) (ob (GV.nilck a16) fun t36=>
 fd 102 0 t36 fun t37=>
 K c 93 [t37,(i 2)] h33 fun t38 h39=>
 oN [a16] h39)) fun vs40 h41=>U1 vs40 fun a42=>ob (GV.nilck a42) fun t43=>
 fd 102 0 t43 fun t44=>
 K c 122 [t44] h41 fun t45 h46=>
 pt 145 3 t45 fun t47=>
 oR [t47] h46
def W_ (c:CH) (ql:QH) (us:List GV) (H:GH):RS:=U2 us fun x1 x2=>
 ob (GV.nilck x1) fun t3=>
 fd 102 0 t3 fun t4=>
 K c 120 [t4] H fun t5 h6=>
 bn .eql 3 t5 (i 2) fun t7=>
 ob (GV.asB t7) fun q8=>jn (bC q8 (oN [x1,x2,(i 1)] h6) (K c 143 [x1] h6 fun t9 h10=>
 ob (GV.nilck x1) fun t11=>
 fd 102 0 t11 fun t12=>
 K c 118 [t12,(.str 42 1)] h10 fun t13 h14=>
 ob (uO .not t13) fun t15=>
 ob (GV.asB t15) fun q16=>jn (bC q16 (oN [x1,x2,t9] h14) (ob (GV.nilck x2) fun t17=>
 fd 60 3 t17 fun t18=>
 aL (aW y 3 t18 t9 h14) fun t19 h20=>
 oR [] h20)) fun vs21 h22=>U3 vs21 fun a23 a24 a25=>oN [a23,a24,a25] h22)) fun vs26 h27=>U3 vs26 fun a28 a29 a30=>jn (nB 0 (ob (GV.nilck a28) fun t31=>
 fd 102 0 t31 fun t32=>
 K c 118 [t32,(.str 110 1)] h27 fun t33 h34=>
 ob (GV.asB t33) fun q35=>jn (bC q35 (ob (GV.nilck a28) fun t40=>
 fd 102 0 t40 fun t41=>
 K c 118 [t41,(.str 7562345 3)] h34 fun t42 h43=>
 ob (GV.asB t42) fun q44=>jn (bC q44 (ob (GV.nilck a28) fun t49=>
 fd 102 0 t49 fun t50=>
 K c 93 [t50,(i 4)] h43 fun t51 h52=>
 oN [a28,a29] h52) (ob (GV.nilck a29) fun t45=>
 fd 60 5 t45 fun t46=>
 aL (aW y 3 t46 a30 h43) fun t47 h48=>
 oN [a28,a29] h48)) fun vs53 h54=>U2 vs53 fun a55 a56=>oN [a55,a56] h54) (ob (GV.nilck a29) fun t36=>
 fd 60 4 t36 fun t37=>
 aL (aW y 3 t37 a30 h34) fun t38 h39=>
 oN [a28,a29] h39)) fun vs57 h58=>U2 vs57 fun a59 a60=>oN [a59,a60] h58)) fun vs61 h62=>U2 vs61 fun a63 a64=>jn (nB 1 (ob (GV.nilck a63) fun t65=>
 fd 102 0 t65 fun t66=>
 K c 118 [t66,(.str 43 1)] h62 fun t67 h68=>
 ob (GV.asB t67) fun q69=>jn (bC q69 (ob (GV.nilck a63) fun t76=>
 fd 102 0 t76 fun t77=>
 K c 118 [t77,(.str 45 1)] h68 fun t78 h79=>
 ob (GV.asB t78) fun q80=>jn (bC q80 (oN [] h79) (K c 123 [a63,(i 0),(i 4096)] h79 fun t81 h82=>
 ob (uO .neg t81) fun t83=>
 ob (GV.nilck a64) fun t84=>
 fd 60 3 t84 fun t85=>
 aL (aW y 3 t85 t83 h82) fun t86 h87=>
 oN [] h87)) fun vs88 h89=>U0 vs88 (oN [] h89)) (K c 123 [a63,(i 0),(i 4096)] h68 fun t70 h71=>
 ob (GV.nilck a64) fun t72=>
 fd 60 3 t72 fun t73=>
 aL (aW y 3 t73 t70 h71) fun t74 h75=>
 oN [] h75)) fun vs90 h91=>U0 vs90 (oN [] h91))) fun vs92 h93=>U0 vs92 (oR [] h93)
def Xa (c:CH) (ql:QH) (us:List GV) (H:GH):RS:=U1 us fun x1=>
 K c 144 [x1,(i 1)] H fun t2 h3=>
 K c 118 [x1,(.str 63 1)] h3 fun t4 h5=>
 ob (uO .not t4) fun t6=>
 ob (GV.asB t6) fun q7=>jn (bC q7 (oN [x1,t2] h5) (oR [t2] h5)) fun vs8 h9=>U2 vs8 fun a10 a11=>K c 125 [a10] h9 fun t12 h13=>
 K c 87 [a10,(.str 58 1)] h13 fun t14 h15=>
 K c 125 [a10] h15 fun t16 h17=>
 aL (cV y 169 3 [(0,a11),(1,t12),(2,t16)] h17) fun t18 h19=>
 K c 145 [(i 43),t18] h19 fun t20 h21=>
 oR [t20] h21
def Xb (c:CH) (ql:QH) (us:List GV) (H:GH):RS:=U1 us fun x1=>
 K c 119 [x1] H fun t2 h3=>
 K c 120 [x1] h3 fun t4 h5=>
 bn .neq 3 t4 (i 1) fun t6=>
 aL (rG t6 false h5 (some (t2,h5))) fun t7 h8=>
 aL (rG t6 false h8 (aL (c 121 [t7] h8) sJ)) fun t9 h10=>
 aL (rG t6 false h10 (ob (uO .not t9) fun g11=>some (g11,h10))) fun t12 h13=>
 ob (cF t6 (.bool true) t12) fun t14=>
 ob (GV.asB t14) fun q15=>jn (bC q15 (oN [x1,t2] h13) (K c 93 [x1,(i 4)] h13 fun t16 h17=>
 oN [x1,t2] h17)) fun vs18 h19=>U2 vs18 fun a20 a21=>ob (GV.nilck a20) fun t22=>
 fd 100 2 t22 fun t23=>
 ld 98 t23 h19 fun t24=>
 K c 146 [t24,a21] h19 fun t25 h26=>
 bn .lss 3 t25 (i 0) fun t27=>
 ob (GV.asB t27) fun q28=>jn (bC q28 (oN [a20,t25] h26) (K c 93 [a20,(i 5)] h26 fun t29 h30=>
 oN [a20,t25] h30)) fun vs31 h32=>U2 vs31 fun a33 a34=>K c 122 [a33] h32 fun t35 h36=>
 oR [a34] h36
def Xc (c:CH) (ql:QH) (us:List GV) (H:GH):RS:=U1 us fun x1=>
 bn .eql 3 x1 (i 1) fun t2=>
 aL (rG t2 false H (some (x1,H))) fun t3 h4=>
 aL (rG t2 false h4 (ob (f_ y .eql 3 t3 (i 2)) fun g5=>some (g5,h4))) fun t6 h7=>
 ob (cF t2 (.bool true) t6) fun t8=>
 aL (rG t8 false h7 (some (x1,h7))) fun t9 h10=>
 aL (rG t8 false h10 (ob (f_ y .eql 3 t9 (i 3)) fun g11=>some (g11,h10))) fun t12 h13=>
 ob (cF t8 (.bool true) t12) fun t14=>
 oR [t14] h13
def Xd (c:CH) (ql:QH) (us:List GV) (H:GH):RS:=U3 us fun x1 x2 x3=>
 bn .geq 3 x1 x2 fun t4=>
 aL (rG t4 true H (some (x1,H))) fun t5 h6=>
 aL (rG t4 true h6 (some (x3,h6))) fun t7 h8=>
 aL (rG t4 true h8 (ob (f_ y .leq 3 t5 t7) fun g9=>some (g9,h8))) fun t10 h11=>
 ob (cF t4 t10 (.bool false)) fun t12=>
 oR [t12] h11
def Xe (c:CH) (ql:QH) (us:List GV) (H:GH):RS:=U3 us fun x1 x2 x3=>
 ln 22 x2 fun t4=>
 bn .gtr 3 t4 (i 6) fun t5=>
 ob (GV.asB t5) fun q6=>jn (bC q6 (oN [x1,x2,x3] H) (oR [(i 0),(i 7)] H)) fun vs7 h8=>U3 vs7 fun a9 a10 a11=>ln 22 a10 fun t12=>
 jn (nB 0 (ql 50 [a9,a10,a11,a10,t12,(i 0)] h8)) fun vs13 h14=>U3 vs13 fun a15 a16 a17=>ln 22 a16 fun t18=>
 K c 46 [a15,t18] h14 fun t19 h20=>
 ob (uO .not t19) fun t21=>
 ob (GV.asB t21) fun q22=>jn (bC q22 (oN [a15,a16,a17] h20) (oR [(i 0),(i 7)] h20)) fun vs23 h24=>U3 vs23 fun a25 a26 a27=>bd 208 [(0,a25),(1,a26)] fun t28=>
 aL (bY y 208 h24) fun t29 h30=>
 aL (aW y 208 t29 t28 h30) fun t31 h32=>
 ld 208 t29 h32 fun t33=>
 K c 147 [t33,(i 0),a27] h32 fun t34 h35=>
 ex 0 t34 fun t36=>
 ex 1 t34 fun t37=>
 bn .eql 3 t36 (i 0) fun t38=>
 ob (GV.asB t38) fun q39=>jn (bC q39 (oN [t36] h35) (oR [(i 0),(i 6)] h35)) fun vs40 h41=>U1 vs40 fun a42=>oR [a42,(i 0)] h41
def L50 (c:CH) (ql:QH) (us:List GV) (H:GH):RS:=U6 us fun a43 a44 a45 a46 a47 a48=>jn (bn .lss 3 a48 a47 fun t49=>
 ob (GV.asB t49) fun q50=>jn (bC q50 (oX 0 [a43,a44,a45] H) (oN [a43,a44,a45,a46,a47,a48] H)) fun vs51 h52=>U6 vs51 fun a53 a54 a55 a56 a57 a58=>jn (nB 1 (ix 22 a56 a58 fun t59=>
 ld 3 t59 h52 fun t60=>
 K c 127 [t60] h52 fun t61 h62=>
 ob (uO .not t61) fun t63=>
 ob (GV.asB t63) fun q64=>jn (bC q64 (oN [a53,a54,a55,a56,a57,a58] h62) (oR [(i 0),(i 7)] h62)) fun vs65 h66=>U6 vs65 fun a67 a68 a69 a70 a71 a72=>oN [a67,a68,a69,a70,a71,a72] h66)) fun vs73 h74=>U6 vs73 fun a75 a76 a77 a78 a79 a80=>bn .add 3 a80 (i 1) fun t81=>
 oN [a75,a76,a77,a78,a79,t81] h74) (ql 50)
def Xf (c:CH) (ql:QH) (us:List GV) (H:GH):RS:=U2 us fun x1 x2=>
 K c 154 [x1,x2] H fun t3 h4=>
 oR [t3] h4
def Xg (c:CH) (ql:QH) (us:List GV) (H:GH):RS:=U2 us fun x1 x2=>
 K c 155 [x1,x2] H fun t3 h4=>
 oR [t3] h4
def Xh (c:CH) (ql:QH) (us:List GV) (H:GH):RS:=U1 us fun x1=>
 jn (nB 0 (bn .eql 9 x1 (.str 30787916450984560 7) fun t2=>
 ob (GV.asB t2) fun q3=>jn (bC q3 (bn .eql 9 x1 (.str 7496054 3) fun t4=>
 ob (GV.asB t4) fun q5=>jn (bC q5 (bn .eql 9 x1 (.str 1701606770 4) fun t6=>
 ob (GV.asB t6) fun q7=>jn (bC q7 (bn .eql 9 x1 (.str 1819242338 4) fun t8=>
 ob (GV.asB t8) fun q9=>jn (bC q9 (bn .eql 9 x1 (.str 1953656688 4) fun t10=>
 ob (GV.asB t10) fun q11=>jn (bC q11 (bn .eql 9 x1 (.str 1702195828 4) fun t12=>
 ob (GV.asB t12) fun q13=>jn (bC q13 (bn .eql 9 x1 (.str 435728179558 5) fun t14=>
 ob (GV.asB t14) fun q15=>jn (bC q15 (bn .eql 9 x1 (.str 1701736302 4) fun t16=>
 oN [x1,t16] H) (oN [x1,t14] H)) fun vs17 h18=>U2 vs17 fun a19 a20=>oN [a19,a20] h18) (oN [x1,t12] H)) fun vs21 h22=>U2 vs21 fun a23 a24=>oN [a23,a24] h22) (oN [x1,t10] H)) fun vs25 h26=>U2 vs25 fun a27 a28=>oN [a27,a28] h26) (oN [x1,t8] H)) fun vs29 h30=>U2 vs29 fun a31 a32=>oN [a31,a32] h30) (oN [x1,t6] H)) fun vs33 h34=>U2 vs33 fun a35 a36=>oN [a35,a36] h34) (oN [x1,t4] H)) fun vs37 h38=>U2 vs37 fun a39 a40=>oN [a39,a40] h38) (oN [x1,t2] H)) fun vs41 h42=>U2 vs41 fun a43 a44=>ob (GV.asB a44) fun q45=>jn (bC q45 (bn .eql 9 a43 (.str 110 1) fun t46=>
 ob (GV.asB t46) fun q47=>jn (bC q47 (bn .eql 9 a43 (.str 7562345 3) fun t48=>
 ob (GV.asB t48) fun q49=>jn (bC q49 (bn .eql 9 a43 (.str 25705 2) fun t50=>
 ob (GV.asB t50) fun q51=>jn (bC q51 (bn .eql 9 a43 (.str 6776164 3) fun t52=>
 ob (GV.asB t52) fun q53=>jn (bC q53 (bn .eql 9 a43 (.str 1953460082 4) fun t54=>
 ob (GV.asB t54) fun q55=>jn (bC q55 (bn .eql 9 a43 (.str 113 1) fun t56=>
 ob (GV.asB t56) fun q57=>jn (bC q57 (bn .eql 9 a43 (.str 127991760381303 6) fun t58=>
 ob (GV.asB t58) fun q59=>jn (bC q59 (bn .eql 9 a43 (.str 1801675106 4) fun t60=>
 oN [a43,t60] h42) (oN [a43,t58] h42)) fun vs61 h62=>U2 vs61 fun a63 a64=>oN [a63,a64] h62) (oN [a43,t56] h42)) fun vs65 h66=>U2 vs65 fun a67 a68=>oN [a67,a68] h66) (oN [a43,t54] h42)) fun vs69 h70=>U2 vs69 fun a71 a72=>oN [a71,a72] h70) (oN [a43,t52] h42)) fun vs73 h74=>U2 vs73 fun a75 a76=>oN [a75,a76] h74) (oN [a43,t50] h42)) fun vs77 h78=>U2 vs77 fun a79 a80=>oN [a79,a80] h78) (oN [a43,t48] h42)) fun vs81 h82=>U2 vs81 fun a83 a84=>oN [a83,a84] h82) (oN [a43,t46] h42)) fun vs85 h86=>U2 vs85 fun a87 a88=>ob (GV.asB a88) fun q89=>jn (bC q89 (bn .eql 9 a87 (.str 7105633 3) fun t90=>
 ob (GV.asB t90) fun q91=>jn (bC q91 (bn .eql 9 a87 (.str 1701670771 4) fun t92=>
 ob (GV.asB t92) fun q93=>jn (bC q93 (bn .eql 9 a87 (.str 500069396323 5) fun t94=>
 ob (GV.asB t94) fun q95=>jn (bC q95 (bn .eql 9 a87 (.str 500153084262 5) fun t96=>
 ob (GV.asB t96) fun q97=>jn (bC q97 (bn .eql 9 a87 (.str 7235949 3) fun t98=>
 ob (GV.asB t98) fun q99=>jn (bC q99 (bn .eql 9 a87 (.str 7889261 3) fun t100=>
 ob (GV.asB t100) fun q101=>jn (bC q101 (bn .eql 9 a87 (.str 7173491 3) fun t102=>
 ob (GV.asB t102) fun q103=>jn (bC q103 (bn .eql 9 a87 (.str 7890285 3) fun t104=>
 ob (GV.asB t104) fun q105=>jn (bC q105 (bn .eql 9 a87 (.str 110425477965171 6) fun t106=>
 ob (GV.asB t106) fun q107=>jn (bC q107 (bn .eql 9 a87 (.str 1684104552 4) fun t108=>
 oN [t108] h86) (oN [t106] h86)) fun vs109 h110=>U1 vs109 fun a111=>oN [a111] h110) (oN [t104] h86)) fun vs112 h113=>U1 vs112 fun a114=>oN [a114] h113) (oN [t102] h86)) fun vs115 h116=>U1 vs115 fun a117=>oN [a117] h116) (oN [t100] h86)) fun vs118 h119=>U1 vs118 fun a120=>oN [a120] h119) (oN [t98] h86)) fun vs121 h122=>U1 vs121 fun a123=>oN [a123] h122) (oN [t96] h86)) fun vs124 h125=>U1 vs124 fun a126=>oN [a126] h125) (oN [t94] h86)) fun vs127 h128=>U1 vs127 fun a129=>oN [a129] h128) (oN [t92] h86)) fun vs130 h131=>U1 vs130 fun a132=>oN [a132] h131) (oN [t90] h86)) fun vs133 h134=>U1 vs133 fun a135=>ob (GV.asB a135) fun q136=>jn (bC q136 (oN [] h134) (oR [(.bool true)] h134)) fun vs137 h138=>U0 vs137 (oN [] h138)) (oR [(.bool true)] h86)) fun vs139 h140=>U0 vs139 (oN [] h140)) (oR [(.bool true)] h42)) fun vs141 h142=>U0 vs141 (oN [] h142))) fun vs143 h144=>U0 vs143 (oR [(.bool false)] h144)
def Xi (c:CH) (ql:QH) (us:List GV) (H:GH):RS:=U1 us fun x1=>
 K c 156 [x1] H fun t2 h3=>
 ob (GV.asB t2) fun q4=>jn (bC q4 (oN [x1] h3) (K c 123 [x1,(i 1),(i 255)] h3 fun t5 h6=>
 oR [t5] h6)) fun vs7 h8=>U1 vs7 fun a9=>K c 123 [a9,(i 0),(i 4096)] h8 fun t10 h11=>
 oR [t10] h11
def Xj (c:CH) (ql:QH) (us:List GV) (H:GH):RS:=U2 us fun x1 x2=>
 bn .eql 3 x2 (i 6) fun t3=>
 ob (GV.asB t3) fun q4=>jn (bC q4 (oN [x1,x2] H) (K c 157 [x1] H fun t5 h6=>
 oR [t5] h6)) fun vs7 h8=>U2 vs7 fun a9 a10=>bn .add 3 a10 (i 1) fun t11=>
 K c 144 [a9,t11] h8 fun t12 h13=>
 jn (nB 0 (ql 51 [a9,a10,t12] h13)) fun vs14 h15=>U1 vs14 fun a16=>oR [a16] h15
def L51 (c:CH) (ql:QH) (us:List GV) (H:GH):RS:=U3 us fun a17 a18 a19=>jn (jn (nB 1 (K c 119 [a17] H fun t20 h21=>
 K c 158 [t20] h21 fun t22 h23=>
 bn .eql 3 t22 (i 0) fun t24=>
 aL (rG t24 false h23 (some (t22,h23))) fun t25 h26=>
 aL (rG t24 false h26 (aL (c 159 [t25] h26) sJ)) fun t27 h28=>
 aL (rG t24 false h28 (some (a18,h28))) fun t29 h30=>
 aL (rG t24 false h30 (ob (f_ y .neq 3 t27 t29) fun g31=>some (g31,h30))) fun t32 h33=>
 ob (cF t24 (.bool true) t32) fun t34=>
 ob (GV.asB t34) fun q35=>jn (bC q35 (oN [a17,a18,a19,t22] h33) (oR [a19] h33)) fun vs36 h37=>U4 vs36 fun a38 a39 a40 a41=>K c 122 [a38] h37 fun t42 h43=>
 bn .add 3 a39 (i 1) fun t44=>
 K c 144 [a38,t44] h43 fun t45 h46=>
 aL (cV y 169 2 [(0,a40),(1,t45)] h46) fun t47 h48=>
 K c 145 [a41,t47] h48 fun t49 h50=>
 bn .eql 3 a39 (i 3) fun t51=>
 ob (GV.asB t51) fun q52=>jn (bC q52 (oN [a38,a39,t49] h50) (oR [t49] h50)) fun vs53 h54=>U3 vs53 fun a55 a56 a57=>oN [a55,a56,a57] h54)) fun vs58 h59=>U3 vs58 fun a60 a61 a62=>oN [a60,a61,a62] h59) (ql 51)
def Xk (c:CH) (ql:QH) (us:List GV) (H:GH):RS:=U2 us fun x1 x2=>
 K c 160 [x1,(i 0)] H fun t3 h4=>
 ln 169 x2 fun t5=>
 jn (nB 0 (ql 52 [t3,x2,t5,(i 0)] h4)) fun vs6 h7=>U1 vs6 fun a8=>oR [a8] h7
def L52 (c:CH) (ql:QH) (us:List GV) (H:GH):RS:=U4 us fun a9 a10 a11 a12=>jn (bn .lss 3 a12 a11 fun t13=>
 ob (GV.asB t13) fun q14=>jn (bC q14 (oX 0 [a9] H) (oN [a9,a10,a11,a12] H)) fun vs15 h16=>U4 vs15 fun a17 a18 a19 a20=>jn (nB 1 (ix 169 a18 a20 fun t21=>
 ld 62 t21 h16 fun t22=>
 aL (sT y 62 62 a17 t22 h16) fun t23 h24=>
 oN [t23,a18,a19,a20] h24)) fun vs25 h26=>U4 vs25 fun a27 a28 a29 a30=>bn .add 3 a30 (i 1) fun t31=>
 oN [a27,a28,a29,t31] h26) (ql 52)
def Xl (c:CH) (ql:QH) (us:List GV) (H:GH):RS:=U2 us fun x1 x2=>
 ln 98 x1 fun t3=>
 jn (nB 0 (ql 53 [x1,x2,t3,(i 0)] H)) fun vs4 h5=>U0 vs4 (oR [(.int .i64 (.negSucc 0))] h5)
def L53 (c:CH) (ql:QH) (us:List GV) (H:GH):RS:=U4 us fun a6 a7 a8 a9=>jn (bn .lss 3 a9 a8 fun t10=>
 ob (GV.asB t10) fun q11=>jn (bC q11 (oX 0 [] H) (oN [a6,a7,a8,a9] H)) fun vs12 h13=>U4 vs12 fun a14 a15 a16 a17=>jn (nB 1 (ix 98 a14 a17 fun t18=>
 ld 9 t18 h13 fun t19=>
 bn .eql 9 a15 t19 fun t20=>
 ob (GV.asB t20) fun q21=>jn (bC q21 (oN [a14,a15,a16,a17] h13) (oR [a17] h13)) fun vs22 h23=>U4 vs22 fun a24 a25 a26 a27=>oN [a24,a25,a26,a27] h23)) fun vs28 h29=>U4 vs28 fun a30 a31 a32 a33=>bn .add 3 a33 (i 1) fun t34=>
 oN [a30,a31,a32,t34] h29) (ql 53)
def Xm (c:CH) (ql:QH) (us:List GV) (H:GH):RS:=U3 us fun x1 x2 x3=>
 aL (lV x1 H) fun t4 h5=>
 fd 208 0 t4 fun t6=>
 ld 62 t6 h5 fun t7=>
 ix 62 t7 x2 fun t8=>
 ld 130 t8 h5 fun t9=>
 aL (bY y 130 h5) fun t10 h11=>
 aL (aW y 130 t10 t9 h11) fun t12 h13=>
 bn .add 3 x2 (i 1) fun t14=>
 fd 130 0 t10 fun t15=>
 ld 3 t15 h13 fun t16=>
 K c 106 [t16] h13 fun t17 h18=>
 bn .eql 3 t17 (i 0) fun t19=>
 ob (GV.asB t19) fun q20=>jn (bC q20 (oN [x3,t4,t14,t10] h18) (fd 130 0 t10 fun t21=>
 ld 3 t21 h18 fun t22=>
 K c 161 [t22] h18 fun t23 h24=>
 aL (rG t23 true h24 (some (x3,h24))) fun t25 h26=>
 aL (rG t23 true h26 (ob (uO .not t25) fun g27=>some (g27,h26))) fun t28 h29=>
 ob (cF t23 t28 (.bool false)) fun t30=>
 ob (GV.asB t30) fun q31=>jn (bC q31 (oN [t4,t14,t10] h29) (oR [(i 0),t14] h29)) fun vs32 h33=>U3 vs32 fun a34 a35 a36=>ld 208 a34 h33 fun t37=>
 ld 130 a36 h33 fun t38=>
 K c 162 [t37,t38] h33 fun t39 h40=>
 oR [t39,a35] h40)) fun vs41 h42=>U4 vs41 fun a43 a44 a45 a46=>aL (rG a43 false h42 (ob (cP y 130 0 a46) fun g47=>some (g47,h42))) fun t48 h49=>
 aL (rG a43 false h49 (ob (bQ y 3 t48 h49) fun g50=>some (g50,h49))) fun t51 h52=>
 aL (rG a43 false h52 (aL (c 110 [t51] h52) sJ)) fun t53 h54=>
 ob (cF a43 (.bool true) t53) fun t55=>
 aL (bY y 217 h54) fun t56 h57=>
 fd 130 0 a46 fun t58=>
 ld 3 t58 h57 fun t59=>
 K c 106 [t59] h57 fun t60 h61=>
 jn (nB 0 (ql 54 [a44,a45,a46,t55,t56,t60,(i 0)] h61)) fun vs62 h63=>U3 vs62 fun a64 a65 a66=>fd 130 0 a65 fun t67=>
 ld 3 t67 h63 fun t68=>
 ld 217 a66 h63 fun t69=>
 K c 163 [t68,t69] h63 fun t70 h71=>
 oR [t70,a64] h71
def L54 (c:CH) (ql:QH) (us:List GV) (H:GH):RS:=U7 us fun a72 a73 a74 a75 a76 a77 a78=>jn (bn .lss 3 a78 a77 fun t79=>
 ob (GV.asB t79) fun q80=>jn (bC q80 (oX 0 [a73,a74,a76] H) (oN [a72,a73,a74,a75,a76,a77,a78] H)) fun vs81 h82=>U7 vs81 fun a83 a84 a85 a86 a87 a88 a89=>jn (nB 1 (ld 208 a83 h82 fun t90=>
 K c 147 [t90,a84,a86] h82 fun t91 h92=>
 ex 0 t91 fun t93=>
 ex 1 t91 fun t94=>
 ix 217 a87 a89 fun t95=>
 aL (aW y 3 t95 t93 h92) fun t96 h97=>
 oN [a83,t94,a85,a86,a87,a88,a89] h97)) fun vs98 h99=>U7 vs98 fun a100 a101 a102 a103 a104 a105 a106=>bn .add 3 a106 (i 1) fun t107=>
 oN [a100,a101,a102,a103,a104,a105,t107] h99) (ql 54)
def Xn (c:CH) (ql:QH) (us:List GV) (H:GH):RS:=U2 us fun x1 x2=>
 ln 9 x1 fun t3=>
 ln 9 x2 fun t4=>
 bn .geq 3 t3 t4 fun t5=>
 aL (rG t5 true H (some (x1,H))) fun t6 h7=>
 aL (rG t5 true h7 (some (x2,h7))) fun t8 h9=>
 aL (rG t5 true h9 (ob (sU y 9 t8) fun g10=>some (g10,h9))) fun t11 h12=>
 aL (rG t5 true h12 (ob (oZ y 9 t6 none (some t11) h12) fun g13=>some (g13,h12))) fun t14 h15=>
 aL (rG t5 true h15 (some (x2,h15))) fun t16 h17=>
 aL (rG t5 true h17 (ob (f_ y .eql 9 t14 t16) fun g18=>some (g18,h17))) fun t19 h20=>
 ob (cF t5 t19 (.bool false)) fun t21=>
 oR [t21] h20
def Xo (c:CH) (ql:QH) (us:List GV) (H:GH):RS:=U2 us fun x1 x2=>
 K c 169 [x1,x2] H fun t3 h4=>
 oR [t3] h4
def Xp (c:CH) (ql:QH) (us:List GV) (H:GH):RS:=U1 us fun x1=>
 ob (GV.nilck x1) fun t2=>
 fd 102 0 t2 fun t3=>
 fd 100 1 t3 fun t4=>
 ld 94 t4 H fun t5=>
 ln 94 t5 fun t6=>
 bn .gtr 3 t6 (i 1) fun t7=>
 aL (rG t7 true H (some (x1,H))) fun t8 h9=>
 aL (rG t7 true h9 (ob (GV.nilck t8) fun g10=>some (g10,h9))) fun t11 h12=>
 aL (rG t7 true h12 (ob (cP y 102 0 t11) fun g13=>some (g13,h12))) fun t14 h15=>
 aL (rG t7 true h15 (ob (cP y 100 0 t14) fun g16=>some (g16,h15))) fun t17 h18=>
 aL (rG t7 true h18 (ob (bQ y 9 t17 h18) fun g19=>some (g19,h18))) fun t20 h21=>
 aL (rG t7 true h21 (some (x1,h21))) fun t22 h23=>
 aL (rG t7 true h23 (ob (GV.nilck t22) fun g24=>some (g24,h23))) fun t25 h26=>
 aL (rG t7 true h26 (ob (cP y 102 0 t25) fun g27=>some (g27,h26))) fun t28 h29=>
 aL (rG t7 true h29 (ob (cP y 100 1 t28) fun g30=>some (g30,h29))) fun t31 h32=>
 aL (rG t7 true h32 (ob (bQ y 94 t31 h32) fun g33=>some (g33,h32))) fun t34 h35=>
 aL (rG t7 true h35 (ob (Be y 94 t34 (i 1)) fun g36=>some (g36,h35))) fun t37 h38=>
 aL (rG t7 true h38 (ob (cP y 145 1 t37) fun g39=>some (g39,h38))) fun t40 h41=>
 aL (rG t7 true h41 (ob (bQ y 3 t40 h41) fun g42=>some (g42,h41))) fun t43 h44=>
 aL (rG t7 true h44 (some (x1,h44))) fun t45 h46=>
 aL (rG t7 true h46 (ob (GV.nilck t45) fun g47=>some (g47,h46))) fun t48 h49=>
 aL (rG t7 true h49 (ob (cP y 102 0 t48) fun g50=>some (g50,h49))) fun t51 h52=>
 aL (rG t7 true h52 (ob (cP y 100 1 t51) fun g53=>some (g53,h52))) fun t54 h55=>
 aL (rG t7 true h55 (ob (bQ y 94 t54 h55) fun g56=>some (g56,h55))) fun t57 h58=>
 aL (rG t7 true h58 (ob (Be y 94 t57 (i 1)) fun g59=>some (g59,h58))) fun t60 h61=>
 aL (rG t7 true h61 (ob (cP y 145 2 t60) fun g62=>some (g62,h61))) fun t63 h64=>
 aL (rG t7 true h64 (ob (bQ y 3 t63 h64) fun g65=>some (g65,h64))) fun t66 h67=>
 aL (rG t7 true h67 (ob (oZ y 9 t20 (some t43) (some t66) h67) fun g68=>some (g68,h67))) fun t69 h70=>
 aL (rG t7 true h70 (ob (f_ y .eql 9 t69 (.str 42 1)) fun g71=>some (g71,h70))) fun t72 h73=>
 ob (cF t7 t72 (.bool false)) fun t74=>
 oR [t74] h73
def Xq (c:CH) (ql:QH) (us:List GV) (H:GH):RS:=U1 us fun x1=>
 jn (nB 0 (K c 118 [x1,(.str 45 1)] H fun t2 h3=>
 ob (GV.asB t2) fun q4=>jn (bC q4 (K c 118 [x1,(.str 33 1)] h3 fun t11 h12=>
 ob (GV.asB t11) fun q13=>jn (bC q13 (oN [x1] h12) (K c 157 [x1] h12 fun t14 h15=>
 aL (cV y 169 1 [(0,t14)] h15) fun t16 h17=>
 K c 145 [(i 19),t16] h17 fun t18 h19=>
 oR [t18] h19)) fun vs20 h21=>U1 vs20 fun a22=>oN [a22] h21) (K c 157 [x1] h3 fun t5 h6=>
 aL (cV y 169 1 [(0,t5)] h6) fun t7 h8=>
 K c 145 [(i 18),t7] h8 fun t9 h10=>
 oR [t9] h10)) fun vs23 h24=>U1 vs23 fun a25=>oN [a25] h24)) fun vs26 h27=>U1 vs26 fun a28=>K c 170 [a28] h27 fun t29 h30=>
 oR [t29] h30
def Xr (c:CH) (ql:QH) (us:List GV) (H:GH):RS:=U1 us fun x1=>
 K c 172 [] H fun t2 h3=>
 K c 171 [x1,(i 30),t2] h3 fun t4 h5=>
 oR [t4] h5
def Xs (c:CH) (ql:QH) (us:List GV) (H:GH):RS:=U1 us fun x1=>
 jn (nB 0 (bn .eql 3 x1 (i 43) fun t2=>
 ob (GV.asB t2) fun q3=>jn (bC q3 (bn .eql 3 x1 (i 42) fun t4=>
 ob (GV.asB t4) fun q5=>jn (bC q5 (bn .eql 3 x1 (i 41) fun t6=>
 ob (GV.asB t6) fun q7=>jn (bC q7 (bn .eql 3 x1 (i 35) fun t8=>
 ob (GV.asB t8) fun q9=>jn (bC q9 (bn .eql 3 x1 (i 36) fun t10=>
 ob (GV.asB t10) fun q11=>jn (bC q11 (bn .eql 3 x1 (i 37) fun t12=>
 ob (GV.asB t12) fun q13=>jn (bC q13 (bn .eql 3 x1 (i 38) fun t14=>
 ob (GV.asB t14) fun q15=>jn (bC q15 (bn .eql 3 x1 (i 39) fun t16=>
 ob (GV.asB t16) fun q17=>jn (bC q17 (bn .eql 3 x1 (i 40) fun t18=>
 oN [x1,t18] H) (oN [x1,t16] H)) fun vs19 h20=>U2 vs19 fun a21 a22=>oN [a21,a22] h20) (oN [x1,t14] H)) fun vs23 h24=>U2 vs23 fun a25 a26=>oN [a25,a26] h24) (oN [x1,t12] H)) fun vs27 h28=>U2 vs27 fun a29 a30=>oN [a29,a30] h28) (oN [x1,t10] H)) fun vs31 h32=>U2 vs31 fun a33 a34=>oN [a33,a34] h32) (oN [x1,t8] H)) fun vs35 h36=>U2 vs35 fun a37 a38=>ob (GV.asB a38) fun q39=>jn (bC q39 (bn .eql 3 a37 (i 33) fun t40=>
 ob (GV.asB t40) fun q41=>jn (bC q41 (bn .eql 3 a37 (i 34) fun t42=>
 oN [a37,t42] h36) (oN [a37,t40] h36)) fun vs43 h44=>U2 vs43 fun a45 a46=>ob (GV.asB a46) fun q47=>jn (bC q47 (bn .eql 3 a45 (i 30) fun t48=>
 ob (GV.asB t48) fun q49=>jn (bC q49 (bn .eql 3 a45 (i 31) fun t50=>
 ob (GV.asB t50) fun q51=>jn (bC q51 (bn .eql 3 a45 (i 32) fun t52=>
 oN [a45,t52] h44) (oN [a45,t50] h44)) fun vs53 h54=>U2 vs53 fun a55 a56=>oN [a55,a56] h54) (oN [a45,t48] h44)) fun vs57 h58=>U2 vs57 fun a59 a60=>ob (GV.asB a60) fun q61=>jn (bC q61 (bn .eql 3 a59 (i 18) fun t62=>
 ob (GV.asB t62) fun q63=>jn (bC q63 (bn .eql 3 a59 (i 19) fun t64=>
 oN [t64] h58) (oN [t62] h58)) fun vs65 h66=>U1 vs65 fun a67=>ob (GV.asB a67) fun q68=>jn (bC q68 (oN [] h66) (oR [(i 6)] h66)) fun vs69 h70=>U0 vs69 (oN [] h70)) (oR [(i 5)] h58)) fun vs71 h72=>U0 vs71 (oN [] h72)) (oR [(i 4)] h44)) fun vs73 h74=>U0 vs73 (oN [] h74)) (oR [(i 3)] h36)) fun vs75 h76=>U0 vs75 (oN [] h76)) (oR [(i 2)] H)) fun vs77 h78=>U0 vs77 (oN [] h78)) (oR [(i 1)] H)) fun vs79 h80=>U0 vs79 (oN [] h80)) (oR [(i 0)] H)) fun vs81 h82=>U0 vs81 (oN [] h82))) fun vs83 h84=>U0 vs83 (oR [(i 7)] h84)
def Xt (c:CH) (ql:QH) (us:List GV) (H:GH):RS:=U2 us fun x1 x2=>
 bd 130 [(0,x1),(1,x2)] fun t3=>
 aL (cV y 62 1 [(0,t3)] H) fun t4 h5=>
 oR [t4] h5
def Xu (c:CH) (ql:QH) (us:List GV) (H:GH):RS:=U1 us fun x1=>
 bn .geq 3 x1 (i 11) fun t2=>
 aL (rG t2 true H (some (x1,H))) fun t3 h4=>
 aL (rG t2 true h4 (ob (f_ y .leq 3 t3 (i 17)) fun g5=>some (g5,h4))) fun t6 h7=>
 ob (cF t2 t6 (.bool false)) fun t8=>
 oR [t8] h7
def Xv (c:CH) (ql:QH) (us:List GV) (H:GH):RS:=U2 us fun x1 x2=>
 aL (lV x1 H) fun t3 h4=>
 aL (lV x2 h4) fun t5 h6=>
 fd 130 0 t5 fun t7=>
 ld 3 t7 h6 fun t8=>
 jn (nB 0 (bn .eql 3 t8 (i 2) fun t9=>
 ob (GV.asB t9) fun q10=>jn (bC q10 (bn .eql 3 t8 (i 3) fun t11=>
 ob (GV.asB t11) fun q12=>jn (bC q12 (bn .eql 3 t8 (i 10) fun t13=>
 ob (GV.asB t13) fun q14=>jn (bC q14 (bn .eql 3 t8 (i 15) fun t15=>
 oN [t3,t5,t8,t15] h6) (oN [t3,t5,t8,t13] h6)) fun vs16 h17=>U4 vs16 fun a18 a19 a20 a21=>oN [a18,a19,a20,a21] h17) (oN [t3,t5,t8,t11] h6)) fun vs22 h23=>U4 vs22 fun a24 a25 a26 a27=>oN [a24,a25,a26,a27] h23) (oN [t3,t5,t8,t9] h6)) fun vs28 h29=>U4 vs28 fun a30 a31 a32 a33=>ob (GV.asB a33) fun q34=>jn (bC q34 (bn .eql 3 a32 (i 4) fun t35=>
 ob (GV.asB t35) fun q36=>jn (bC q36 (bn .eql 3 a32 (i 11) fun t37=>
 ob (GV.asB t37) fun q38=>jn (bC q38 (bn .eql 3 a32 (i 17) fun t39=>
 oN [a30,a31,a32,t39] h29) (oN [a30,a31,a32,t37] h29)) fun vs40 h41=>U4 vs40 fun a42 a43 a44 a45=>oN [a42,a43,a44,a45] h41) (oN [a30,a31,a32,t35] h29)) fun vs46 h47=>U4 vs46 fun a48 a49 a50 a51=>ob (GV.asB a51) fun q52=>jn (bC q52 (bn .eql 3 a50 (i 5) fun t53=>
 ob (GV.asB t53) fun q54=>jn (bC q54 (bn .eql 3 a50 (i 12) fun t55=>
 oN [a48,a49,t55] h47) (oN [a48,a49,t53] h47)) fun vs56 h57=>U3 vs56 fun a58 a59 a60=>ob (GV.asB a60) fun q61=>jn (bC q61 (oN [] h57) (fd 208 1 a58 fun t62=>
 ld 22 t62 h57 fun t63=>
 fd 130 1 a59 fun t64=>
 ld 3 t64 h57 fun t65=>
 ix 22 t63 t65 fun t66=>
 ld 3 t66 h57 fun t67=>
 oR [t67] h57)) fun vs68 h69=>U0 vs68 (oN [] h69)) (oR [(i 3)] h47)) fun vs70 h71=>U0 vs70 (oN [] h71)) (oR [(i 2)] h29)) fun vs72 h73=>U0 vs72 (oN [] h73))) fun vs74 h75=>U0 vs74 (oR [(i 1)] h75)
def Xw (c:CH) (ql:QH) (us:List GV) (H:GH):RS:=U2 us fun x1 x2=>
 aL (lV x2 H) fun t3 h4=>
 ix 217 t3 (i 0) fun t5=>
 ld 3 t5 h4 fun t6=>
 ix 217 t3 (i 1) fun t7=>
 ld 3 t7 h4 fun t8=>
 ix 217 t3 (i 2) fun t9=>
 ld 3 t9 h4 fun t10=>
 jn (nB 0 (bn .eql 3 x1 (i 18) fun t11=>
 ob (GV.asB t11) fun q12=>jn (bC q12 (bn .eql 3 x1 (i 24) fun t13=>
 ob (GV.asB t13) fun q14=>jn (bC q14 (bn .eql 3 x1 (i 25) fun t15=>
 ob (GV.asB t15) fun q16=>jn (bC q16 (bn .eql 3 x1 (i 26) fun t17=>
 ob (GV.asB t17) fun q18=>jn (bC q18 (bn .eql 3 x1 (i 27) fun t19=>
 ob (GV.asB t19) fun q20=>jn (bC q20 (bn .eql 3 x1 (i 28) fun t21=>
 ob (GV.asB t21) fun q22=>jn (bC q22 (bn .eql 3 x1 (i 29) fun t23=>
 oN [t6,t8,t10,x1,t23] h4) (oN [t6,t8,t10,x1,t21] h4)) fun vs24 h25=>U5 vs24 fun a26 a27 a28 a29 a30=>oN [a26,a27,a28,a29,a30] h25) (oN [t6,t8,t10,x1,t19] h4)) fun vs31 h32=>U5 vs31 fun a33 a34 a35 a36 a37=>oN [a33,a34,a35,a36,a37] h32) (oN [t6,t8,t10,x1,t17] h4)) fun vs38 h39=>U5 vs38 fun a40 a41 a42 a43 a44=>oN [a40,a41,a42,a43,a44] h39) (oN [t6,t8,t10,x1,t15] h4)) fun vs45 h46=>U5 vs45 fun a47 a48 a49 a50 a51=>oN [a47,a48,a49,a50,a51] h46) (oN [t6,t8,t10,x1,t13] h4)) fun vs52 h53=>U5 vs52 fun a54 a55 a56 a57 a58=>oN [a54,a55,a56,a57,a58] h53) (oN [t6,t8,t10,x1,t11] h4)) fun vs59 h60=>U5 vs59 fun a61 a62 a63 a64 a65=>ob (GV.asB a65) fun q66=>jn (bC q66 (bn .eql 3 a64 (i 19) fun t70=>
 ob (GV.asB t70) fun q71=>jn (bC q71 (bn .eql 3 a64 (i 20) fun t72=>
 ob (GV.asB t72) fun q73=>jn (bC q73 (bn .eql 3 a64 (i 21) fun t74=>
 oN [a61,a62,a63,a64,t74] h60) (oN [a61,a62,a63,a64,t72] h60)) fun vs75 h76=>U5 vs75 fun a77 a78 a79 a80 a81=>oN [a77,a78,a79,a80,a81] h76) (oN [a61,a62,a63,a64,t70] h60)) fun vs82 h83=>U5 vs82 fun a84 a85 a86 a87 a88=>ob (GV.asB a88) fun q89=>jn (bC q89 (bn .eql 3 a87 (i 22) fun t93=>
 ob (GV.asB t93) fun q94=>jn (bC q94 (bn .eql 3 a87 (i 23) fun t98=>
 ob (GV.asB t98) fun q99=>jn (bC q99 (bn .eql 3 a87 (i 30) fun t103=>
 ob (GV.asB t103) fun q104=>jn (bC q104 (bn .eql 3 a87 (i 31) fun t105=>
 ob (GV.asB t105) fun q106=>jn (bC q106 (bn .eql 3 a87 (i 32) fun t107=>
 ob (GV.asB t107) fun q108=>jn (bC q108 (bn .eql 3 a87 (i 33) fun t109=>
 ob (GV.asB t109) fun q110=>jn (bC q110 (bn .eql 3 a87 (i 34) fun t111=>
 oN [a84,a85,a86,a87,t111] h83) (oN [a84,a85,a86,a87,t109] h83)) fun vs112 h113=>U5 vs112 fun a114 a115 a116 a117 a118=>oN [a114,a115,a116,a117,a118] h113) (oN [a84,a85,a86,a87,t107] h83)) fun vs119 h120=>U5 vs119 fun a121 a122 a123 a124 a125=>oN [a121,a122,a123,a124,a125] h120) (oN [a84,a85,a86,a87,t105] h83)) fun vs126 h127=>U5 vs126 fun a128 a129 a130 a131 a132=>oN [a128,a129,a130,a131,a132] h127) (oN [a84,a85,a86,a87,t103] h83)) fun vs133 h134=>U5 vs133 fun a135 a136 a137 a138 a139=>ob (GV.asB a139) fun q140=>jn (bC q140 (bn .eql 3 a138 (i 35) fun t150=>
 ob (GV.asB t150) fun q151=>jn (bC q151 (bn .eql 3 a138 (i 36) fun t152=>
 oN [a135,a136,a137,a138,t152] h134) (oN [a135,a136,a137,a138,t150] h134)) fun vs153 h154=>U5 vs153 fun a155 a156 a157 a158 a159=>ob (GV.asB a159) fun q160=>jn (bC q160 (bn .eql 3 a158 (i 37) fun t170=>
 ob (GV.asB t170) fun q171=>jn (bC q171 (bn .eql 3 a158 (i 38) fun t172=>
 ob (GV.asB t172) fun q173=>jn (bC q173 (bn .eql 3 a158 (i 39) fun t174=>
 ob (GV.asB t174) fun q175=>jn (bC q175 (bn .eql 3 a158 (i 40) fun t176=>
 oN [a155,a156,a157,a158,t176] h154) (oN [a155,a156,a157,a158,t174] h154)) fun vs177 h178=>U5 vs177 fun a179 a180 a181 a182 a183=>oN [a179,a180,a181,a182,a183] h178) (oN [a155,a156,a157,a158,t172] h154)) fun vs184 h185=>U5 vs184 fun a186 a187 a188 a189 a190=>oN [a186,a187,a188,a189,a190] h185) (oN [a155,a156,a157,a158,t170] h154)) fun vs191 h192=>U5 vs191 fun a193 a194 a195 a196 a197=>ob (GV.asB a197) fun q198=>jn (bC q198 (bn .eql 3 a196 (i 41) fun t208=>
 ob (GV.asB t208) fun q209=>jn (bC q209 (bn .eql 3 a196 (i 42) fun t210=>
 oN [a193,a194,a195,t210] h192) (oN [a193,a194,a195,t208] h192)) fun vs211 h212=>U4 vs211 fun a213 a214 a215 a216=>ob (GV.asB a216) fun q217=>jn (bC q217 (oN [a213,a214,a215] h212) (bn .eql 3 a213 (i 2) fun t218=>
 aL (rG t218 true h212 (some (a214,h212))) fun t219 h220=>
 aL (rG t218 true h220 (ob (f_ y .eql 3 t219 (i 2)) fun g221=>some (g221,h220))) fun t222 h223=>
 ob (cF t218 t222 (.bool false)) fun t224=>
 K c 173 [t224,(i 2)] h223 fun t225 h226=>
 oR [t225] h226)) fun vs227 h228=>U3 vs227 fun a229 a230 a231=>oN [a229,a230,a231] h228) (bn .eql 3 a193 (i 1) fun t199=>
 aL (rG t199 true h192 (some (a194,h192))) fun t200 h201=>
 aL (rG t199 true h201 (ob (f_ y .eql 3 t200 (i 1)) fun g202=>some (g202,h201))) fun t203 h204=>
 ob (cF t199 t203 (.bool false)) fun t205=>
 K c 173 [t205,(i 2)] h204 fun t206 h207=>
 oR [t206] h207)) fun vs232 h233=>U3 vs232 fun a234 a235 a236=>oN [a234,a235,a236] h233) (bn .eql 3 a155 a156 fun t161=>
 aL (rG t161 true h154 (some (a155,h154))) fun t162 h163=>
 aL (rG t161 true h163 (ob (f_ y .neq 3 t162 (i 0)) fun g164=>some (g164,h163))) fun t165 h166=>
 ob (cF t161 t165 (.bool false)) fun t167=>
 K c 173 [t167,(i 2)] h166 fun t168 h169=>
 oR [t168] h169)) fun vs237 h238=>U3 vs237 fun a239 a240 a241=>oN [a239,a240,a241] h238) (bn .eql 3 a135 (i 1) fun t141=>
 aL (rG t141 true h134 (some (a136,h134))) fun t142 h143=>
 aL (rG t141 true h143 (ob (f_ y .eql 3 t142 (i 1)) fun g144=>some (g144,h143))) fun t145 h146=>
 ob (cF t141 t145 (.bool false)) fun t147=>
 K c 173 [t147,(i 1)] h146 fun t148 h149=>
 oR [t148] h149)) fun vs242 h243=>U3 vs242 fun a244 a245 a246=>oN [a244,a245,a246] h243) (bn .eql 3 a84 (i 2) fun t100=>
 K c 173 [t100,(i 3)] h83 fun t101 h102=>
 oR [t101] h102)) fun vs247 h248=>U3 vs247 fun a249 a250 a251=>oN [a249,a250,a251] h248) (bn .eql 3 a84 (i 2) fun t95=>
 K c 173 [t95,(i 1)] h83 fun t96 h97=>
 oR [t96] h97)) fun vs252 h253=>U3 vs252 fun a254 a255 a256=>oN [a254,a255,a256] h253) (bn .eql 3 a84 (i 2) fun t90=>
 K c 173 [t90,(i 2)] h83 fun t91 h92=>
 oR [t91] h92)) fun vs257 h258=>U3 vs257 fun a259 a260 a261=>oN [a259,a260,a261] h258) (bn .eql 3 a61 (i 1) fun t67=>
 K c 173 [t67,(i 1)] h60 fun t68 h69=>
 oR [t68] h69)) fun vs262 h263=>U3 vs262 fun a264 a265 a266=>oN [a264,a265,a266] h263)) fun vs267 h268=>U3 vs267 fun a269 a270 a271=>bn .eql 3 a269 (i 2) fun t272=>
 aL (rG t272 true h268 (some (a270,h268))) fun t273 h274=>
 aL (rG t272 true h274 (some (a271,h274))) fun t275 h276=>
 aL (rG t272 true h276 (ob (f_ y .eql 3 t273 t275) fun g277=>some (g277,h276))) fun t278 h279=>
 ob (cF t272 t278 (.bool false)) fun t280=>
 K c 173 [t280,a270] h279 fun t281 h282=>
 oR [t281] h282
def Xx (c:CH) (ql:QH) (us:List GV) (H:GH):RS:=U1 us fun x1=>
 K c 119 [x1] H fun t2 h3=>
 K c 120 [x1] h3 fun t4 h5=>
 bn .eql 3 t4 (i 2) fun t6=>
 ob (GV.asB t6) fun q7=>jn (bC q7 (oN [x1,t2] h5) (K c 122 [x1] h5 fun t8 h9=>
 pt 145 3 t8 fun t10=>
 K c 160 [(i 1),t10] h9 fun t11 h12=>
 oR [t11] h12)) fun vs13 h14=>U2 vs13 fun a15 a16=>K c 118 [a15,(.str 40 1)] h14 fun t17 h18=>
 ob (GV.asB t17) fun q19=>jn (bC q19 (oN [a15,a16] h18) (K c 125 [a15] h18 fun t20 h21=>
 K c 87 [a15,(.str 41 1)] h21 fun t22 h23=>
 oR [t20] h23)) fun vs24 h25=>U2 vs24 fun a26 a27=>K c 118 [a26,(.str 113 1)] h25 fun t28 h29=>
 ob (GV.asB t28) fun q30=>jn (bC q30 (oN [a26,a27] h29) (K c 175 [a26] h29 fun t31 h32=>
 oR [t31] h32)) fun vs33 h34=>U2 vs33 fun a35 a36=>K c 176 [a36] h34 fun t37 h38=>
 bn .neq 3 t37 (i 0) fun t39=>
 ob (GV.asB t39) fun q40=>jn (bC q40 (oN [a35,a36] h38) (K c 122 [a35] h38 fun t41 h42=>
 K c 160 [t37,(i 0)] h42 fun t43 h44=>
 oR [t43] h44)) fun vs45 h46=>U2 vs45 fun a47 a48=>K c 177 [a48] h46 fun t49 h50=>
 bn .neq 3 t49 (i 0) fun t51=>
 ob (GV.asB t51) fun q52=>jn (bC q52 (oN [a47] h50) (K c 122 [a47] h50 fun t53 h54=>
 K c 87 [a47,(.str 40 1)] h54 fun t55 h56=>
 K c 125 [a47] h56 fun t57 h58=>
 K c 87 [a47,(.str 41 1)] h58 fun t59 h60=>
 aL (cV y 169 1 [(0,t57)] h60) fun t61 h62=>
 K c 145 [t49,t61] h62 fun t63 h64=>
 oR [t63] h64)) fun vs65 h66=>U1 vs65 fun a67=>K c 126 [a67] h66 fun t68 h69=>
 K c 160 [(i 5),t68] h69 fun t70 h71=>
 oR [t70] h71
def Xy (c:CH) (ql:QH) (us:List GV) (H:GH):RS:=U3 us fun x1 x2 x3=>
 bn .eql 9 x1 (.str 0 0) fun t4=>
 ob (GV.asB t4) fun q5=>jn (bC q5 (oN [x1,x2,x3] H) (oR [(i 0)] H)) fun vs6 h7=>U3 vs6 fun a8 a9 a10=>ln 98 a10 fun t11=>
 jn (nB 0 (ql 55 [a8,a9,a10,t11,(i 0)] h7)) fun vs12 h13=>U0 vs12 (oR [(i 0)] h13)
def L55 (c:CH) (ql:QH) (us:List GV) (H:GH):RS:=U5 us fun a14 a15 a16 a17 a18=>jn (bn .lss 3 a18 a17 fun t19=>
 ob (GV.asB t19) fun q20=>jn (bC q20 (oX 0 [] H) (oN [a14,a15,a16,a17,a18] H)) fun vs21 h22=>U5 vs21 fun a23 a24 a25 a26 a27=>jn (nB 1 (ix 98 a25 a27 fun t28=>
 ld 9 t28 h22 fun t29=>
 bn .eql 9 t29 a23 fun t30=>
 ob (GV.asB t30) fun q31=>jn (bC q31 (oN [a23,a24,a25,a26,a27] h22) (bn .add 3 a24 a27 fun t32=>
 oR [t32] h22)) fun vs33 h34=>U5 vs33 fun a35 a36 a37 a38 a39=>oN [a35,a36,a37,a38,a39] h34)) fun vs40 h41=>U5 vs40 fun a42 a43 a44 a45 a46=>bn .add 3 a46 (i 1) fun t47=>
 oN [a42,a43,a44,a45,t47] h41) (ql 55)
def Xz (c:CH) (ql:QH) (us:List GV) (H:GH):RS:=U0 us (aL (cV y 98 13 [(0,(.str 42 1)),(1,(.str 47 1)),(2,(.str 37 1)),(3,(.str 43 1)),(4,(.str 45 1)),(5,(.str 15677 2)),(6,(.str 15649 2)),(7,(.str 60 1)),(8,(.str 15676 2)),(9,(.str 62 1)),(10,(.str 15678 2)),(11,(.str 9766 2)),(12,(.str 31868 2))] H) fun t1 h2=>
 oR [t1] h2)
def XA (c:CH) (ql:QH) (us:List GV) (H:GH):RS:=U2 us fun x1 x2=>
 ob (GV.asB x1) fun q3=>jn (bC q3 (oN [] H) (oR [x2] H)) fun vs4 h5=>U0 vs4 (oR [(i 0)] h5)
def XB (c:CH) (ql:QH) (us:List GV) (H:GH):RS:=U1 us fun x1=>
 K c 118 [x1,(.str 46 1)] H fun t2 h3=>
 ob (uO .not t2) fun t4=>
 ob (GV.asB t4) fun q5=>jn (bC q5 (oN [x1] h3) (K c 160 [(i 11),(i 0)] h3 fun t6 h7=>
 oR [t6] h7)) fun vs8 h9=>U1 vs8 fun a10=>K c 119 [a10] h9 fun t11 h12=>
 K c 179 [t11] h12 fun t13 h14=>
 bn .neq 3 t13 (i 0) fun t15=>
 ob (GV.asB t15) fun q16=>jn (bC q16 (oN [a10] h14) (K c 122 [a10] h14 fun t17 h18=>
 K c 160 [t13,(i 0)] h18 fun t19 h20=>
 oR [t19] h20)) fun vs21 h22=>U1 vs21 fun a23=>K c 126 [a23] h22 fun t24 h25=>
 K c 160 [(i 12),t24] h25 fun t26 h27=>
 oR [t26] h27
def XC (c:CH) (ql:QH) (us:List GV) (H:GH):RS:=U1 us fun x1=>
 K c 180 [] H fun t2 h3=>
 K c 171 [x1,(i 2),t2] h3 fun t4 h5=>
 oR [t4] h5
def XD (c:CH) (ql:QH) (us:List GV) (H:GH):RS:=U1 us fun x1=>
 K c 181 [] H fun t2 h3=>
 K c 171 [x1,(i 20),t2] h3 fun t4 h5=>
 oR [t4] h5
def XE (c:CH) (ql:QH) (us:List GV) (H:GH):RS:=U1 us fun x1=>
 K c 182 [] H fun t2 h3=>
 K c 171 [x1,(i 13),t2] h3 fun t4 h5=>
 oR [t4] h5
def XF (c:CH) (ql:QH) (us:List GV) (H:GH):RS:=U0 us (aL (cV y 98 9 [(0,(.str 1702195828 4)),(1,(.str 435728179558 5)),(2,(.str 1701736302 4)),(3,(.str 0 0)),(4,(.str 110 1)),(5,(.str 7562345 3)),(6,(.str 25705 2)),(7,(.str 6776164 3)),(8,(.str 1953460082 4))] H) fun t1 h2=>
 oR [t1] h2)
def XG (c:CH) (ql:QH) (us:List GV) (H:GH):RS:=U0 us (aL (cV y 98 10 [(0,(.str 7105633 3)),(1,(.str 1701670771 4)),(2,(.str 500069396323 5)),(3,(.str 500153084262 5)),(4,(.str 7235949 3)),(5,(.str 7889261 3)),(6,(.str 7173491 3)),(7,(.str 7890285 3)),(8,(.str 110425477965171 6)),(9,(.str 1684104552 4))] H) fun t1 h2=>
 oR [t1] h2)
def XH (c:CH) (ql:QH) (us:List GV) (H:GH):RS:=U0 us (aL (cV y 98 5 [(0,(.str 25705 2)),(1,(.str 6776164 3)),(2,(.str 1953460082 4)),(3,(.str 127991760381303 6)),(4,(.str 1801675106 4))] H) fun t1 h2=>
 oR [t1] h2)
def d0:(Code×Cx)×eZ:=((cG Tryz.f9 [1,1,1,1,0,1,0,0],gU Tryz.f9 [(0,220)]),L0)
def d1:(Code×Cx)×eZ:=((cG Tryz.f9 [1,1,1,1,1,0,1,0,0],gU Tryz.f9 [(2,220)]),L1)
def d2:(Code×Cx)×eZ:=((cG Tryz.f9 [1,1,1,1,1,1,1,1,0,1,0,0],gU Tryz.f9 [(4,216)]),L2)
def d3:(Code×Cx)×eZ:=((cG Tryz.f9 [1,1,1,1,1,1,1,1,1,0,1,0,0],gU Tryz.f9 [(6,80)]),L3)
def d4:(Code×Cx)×eZ:=((cG Tryz.f16 [1,1,1,1,1,1,1,1,1,1,1,1,0,1,0,0],gU Tryz.f16 [(0,404)]),L4)
def d5:(Code×Cx)×eZ:=((cG Tryz.f29 [1,1,1,0,1,0,0],gU Tryz.f29 [(0,48)]),L5)
def d6:(Code×Cx)×eZ:=((cG Tryz.f30 [1,1,0,1,0,0],gU Tryz.f30 [(0,32)]),L6)
def d7:(Code×Cx)×eZ:=((cG Tryz.f35 [1,1,1,1,1,1,0,1,0,0],gU Tryz.f35 [(0,214)]),L7)
def d8:(Code×Cx)×eZ:=((cG Tryz.f35 [1,1,1,1,1,1,1,0,1,0,0],gU Tryz.f35 [(2,80)]),L8)
def d9:(Code×Cx)×eZ:=((cG Tryz.f36 [1,1,0,1,0,0],gU Tryz.f36 [(0,12)]),L9)
def d10:(Code×Cx)×eZ:=((cG Tryz.f36 [1,1,1,0,1,0,0],gU Tryz.f36 [(2,0)]),L10)
def d11:(Code×Cx)×eZ:=((cG Tryz.f36 [1,1,1,0,1,0,0,1,0,0,1,1,1,0,0],gU Tryz.f36 [(4,76),(3,76),(2,0)]),L11)
def d12:(Code×Cx)×eZ:=((cG Tryz.f37 [1,1,0,1,0,0],gU Tryz.f37 [(0,0)]),L12)
def d13:(Code×Cx)×eZ:=((cG Tryz.f43 [1,1,0,1,0,0],gU Tryz.f43 [(0,9)]),L13)
def d14:(Code×Cx)×eZ:=((cG Tryz.f43 [1,1,1,1,0,1,0,0],gU Tryz.f43 [(2,64)]),L14)
def d15:(Code×Cx)×eZ:=((cG Tryz.f44 [1,1,1,1,1,0,0],gU Tryz.f44 [(0,0)]),L15)
def d16:(Code×Cx)×eZ:=((cG Tryz.f45 [1,1,0,0],gU Tryz.f45 [(0,0)]),L16)
def d17:(Code×Cx)×eZ:=((cG Tryz.f46 [1,1,0,1,0,0],gU Tryz.f46 [(0,1)]),L17)
def d18:(Code×Cx)×eZ:=((cG Tryz.f51 [1,1,1,0,1,0,0],gU Tryz.f51 [(0,32)]),L18)
def d19:(Code×Cx)×eZ:=((cG Tryz.f54 [1,1,1,0,1,0,0],gU Tryz.f54 [(0,2)]),L19)
def d20:(Code×Cx)×eZ:=((cG Tryz.f54 [1,1,1,1,0,1,0,0],gU Tryz.f54 [(2,2)]),L20)
def d21:(Code×Cx)×eZ:=((cG Tryz.f54 [1,1,1,1,1,1,0,1,0,0],gU Tryz.f54 [(4,0)]),L21)
def d22:(Code×Cx)×eZ:=((cG Tryz.f55 [1,0,1,0,0],gU Tryz.f55 [(0,0)]),L22)
def d23:(Code×Cx)×eZ:=((cG Tryz.f57 [1,0,1,0,0],gU Tryz.f57 [(0,0)]),L23)
def d24:(Code×Cx)×eZ:=((cG Tryz.f61 [1,1,0,1,0,0],gU Tryz.f61 [(0,3)]),L24)
def d25:(Code×Cx)×eZ:=((cG Tryz.f61 [1,1,1,1,1,0,1,0,0],gU Tryz.f61 [(2,256)]),L25)
def d26:(Code×Cx)×eZ:=((cG Tryz.f67 [1,1,0,1,0,0],gU Tryz.f67 [(0,8)]),L26)
def d27:(Code×Cx)×eZ:=((cG Tryz.f68 [1,1,0,1,0,0],gU Tryz.f68 [(0,0)]),L27)
def d28:(Code×Cx)×eZ:=((cG Tryz.f69 [1,1,0,1,0,0],gU Tryz.f69 [(0,24)]),L28)
def d29:(Code×Cx)×eZ:=((cG Tryz.f74 [1,1,0,1,0,0],gU Tryz.f74 [(0,9)]),L29)
def d30:(Code×Cx)×eZ:=((cG Tryz.f74 [1,1,1,1,0,1,0,0],gU Tryz.f74 [(2,64)]),L30)
def d31:(Code×Cx)×eZ:=((cG Tryz.f75 [1,1,0,1,0,0],gU Tryz.f75 [(0,0)]),L31)
def d32:(Code×Cx)×eZ:=((cG Tryz.f83 [1,0,0,0],gU Tryz.f83 [(0,2)]),L32)
def d33:(Code×Cx)×eZ:=((cG Tryz.f83 [1,0,0,0,1,0,1,0,1,1,1,0,0,0],gU Tryz.f83 [(3,3),(2,3),(1,3),(0,2)]),L33)
def d34:(Code×Cx)×eZ:=((cG Tryz.f88 [1,1,1,0,1,0,0],gU Tryz.f88 [(0,33)]),L34)
def d35:(Code×Cx)×eZ:=((cG Tryz.f89 [1,0,0],gU Tryz.f89 [(0,0)]),L35)
def d36:(Code×Cx)×eZ:=((cG Tryz.f91 [1,1,1,1,1,0,0,0],gU Tryz.f91 [(0,5)]),L36)
def d37:(Code×Cx)×eZ:=((cG Tryz.f94 [1,1,1,0,1,0,0],gU Tryz.f94 [(0,2)]),L37)
def d38:(Code×Cx)×eZ:=((cG Tryz.f94 [1,1,1,1,1,0,1,0,0],gU Tryz.f94 [(2,0)]),L38)
def d39:(Code×Cx)×eZ:=((cG Tryz.f96 [1,1,1,0,1,0,0],gU Tryz.f96 [(0,0)]),L39)
def d40:(Code×Cx)×eZ:=((cG Tryz.f97 [1,1,0,1,0,0],gU Tryz.f97 [(0,8)]),L40)
def d41:(Code×Cx)×eZ:=((cG Tryz.f98 [1,1,0,1,0,0],gU Tryz.f98 [(0,0)]),L41)
def d42:(Code×Cx)×eZ:=((cG Tryz.f99 [1,0,1,0,0],gU Tryz.f99 [(0,0)]),L42)
def d43:(Code×Cx)×eZ:=((cG Tryz.f102 [1,1,0,1,0,0],gU Tryz.f102 [(0,12)]),L43)
def d44:(Code×Cx)×eZ:=((cG Tryz.f107 [1,1,1,0,1,0,0],gU Tryz.f107 [(0,64)]),L44)
def d45:(Code×Cx)×eZ:=((cG Tryz.f107 [1,1,1,0,1,0,0,1,0,0,1,1,0,1,0,0],gU Tryz.f107 [(2,963),(1,195),(0,64)]),L45)
def d46:(Code×Cx)×eZ:=((cG Tryz.f112 [1,1,0,0,0],gU Tryz.f112 [(0,32)]),L46)
def d47:(Code×Cx)×eZ:=((cG Tryz.f116 [1,1,1,0,1,0,0],gU Tryz.f116 [(0,16)]),L47)
def d48:(Code×Cx)×eZ:=((cG Tryz.f117 [1,0,1,0,0],gU Tryz.f117 [(0,1)]),L48)
def d49:(Code×Cx)×eZ:=((cG Tryz.f121 [1,1,0,1,0,0],gU Tryz.f121 [(0,1)]),L49)
def d50:(Code×Cx)×eZ:=((cG Tryz.f129 [1,1,0,1,0,0],gU Tryz.f129 [(0,7)]),L50)
def d51:(Code×Cx)×eZ:=((cG Tryz.f144 [1,1,1,0,0],gU Tryz.f144 [(0,16)]),L51)
def d52:(Code×Cx)×eZ:=((cG Tryz.f145 [1,1,0,1,0,0],gU Tryz.f145 [(0,32)]),L52)
def d53:(Code×Cx)×eZ:=((cG Tryz.f146 [1,0,1,0,0],gU Tryz.f146 [(0,0)]),L53)
def d54:(Code×Cx)×eZ:=((cG Tryz.f147 [1,1,1,1,1,1,0,1,0,0],gU Tryz.f147 [(0,1408)]),L54)
def d55:(Code×Cx)×eZ:=((cG Tryz.f171 [1,1,0,1,0,0],gU Tryz.f171 [(0,0)]),L55)
def Lm (f:Nat):Option (Func×eZ):=(tN f 97 (tN f 56 (tN f 30 (tN f 23 (tN f 9 (tN f 7 (tL f 6 (Tryz.f6,B6)) (tN f 8 (tL f 7 (Tryz.f7,B7)) (tL f 8 (Tryz.f8,B8)))) (tN f 16 (tN f 12 (tL f 9 (Tryz.f9,B9)) (tL f 12 (Tryz.f12,B12))) (tN f 22 (tL f 16 (Tryz.f16,B16)) (tL f 22 (Tryz.f22,B22))))) (tN f 26 (tN f 24 (tL f 23 (Tryz.f23,B23)) (tN f 25 (tL f 24 (Tryz.f24,B24)) (tL f 25 (Tryz.f25,B25)))) (tN f 28 (tN f 27 (tL f 26 (Tryz.f26,B26)) (tL f 27 (Tryz.f27,B27))) (tN f 29 (tL f 28 (Tryz.f28,B28)) (tL f 29 (Tryz.f29,B29)))))) (tN f 44 (tN f 37 (tN f 35 (tL f 30 (Tryz.f30,B30)) (tN f 36 (tL f 35 (Tryz.f35,B35)) (tL f 36 (Tryz.f36,B36)))) (tN f 42 (tN f 41 (tL f 37 (Tryz.f37,B37)) (tL f 41 (Tryz.f41,B41))) (tN f 43 (tL f 42 (Tryz.f42,B42)) (tL f 43 (Tryz.f43,B43))))) (tN f 51 (tN f 45 (tL f 44 (Tryz.f44,B44)) (tN f 46 (tL f 45 (Tryz.f45,B45)) (tL f 46 (Tryz.f46,B46)))) (tN f 54 (tN f 53 (tL f 51 (Tryz.f51,B51)) (tL f 53 (Tryz.f53,B53))) (tN f 55 (tL f 54 (Tryz.f54,B54)) (tL f 55 (Tryz.f55,B55))))))) (tN f 77 (tN f 67 (tN f 59 (tN f 57 (tL f 56 (Tryz.f56,B56)) (tN f 58 (tL f 57 (Tryz.f57,B57)) (tL f 58 (Tryz.f58,B58)))) (tN f 61 (tN f 60 (tL f 59 (Tryz.f59,B59)) (tL f 60 (Tryz.f60,B60))) (tN f 66 (tL f 61 (Tryz.f61,B61)) (tL f 66 (Tryz.f66,B66))))) (tN f 73 (tN f 68 (tL f 67 (Tryz.f67,B67)) (tN f 69 (tL f 68 (Tryz.f68,B68)) (tL f 69 (Tryz.f69,B69)))) (tN f 75 (tN f 74 (tL f 73 (Tryz.f73,B73)) (tL f 74 (Tryz.f74,B74))) (tN f 76 (tL f 75 (Tryz.f75,B75)) (tL f 76 (Tryz.f76,B76)))))) (tN f 90 (tN f 84 (tN f 78 (tL f 77 (Tryz.f77,B77)) (tN f 83 (tL f 78 (Tryz.f78,B78)) (tL f 83 (Tryz.f83,B83)))) (tN f 88 (tN f 87 (tL f 84 (Tryz.f84,B84)) (tL f 87 (Tryz.f87,B87))) (tN f 89 (tL f 88 (Tryz.f88,B88)) (tL f 89 (Tryz.f89,B89))))) (tN f 93 (tN f 91 (tL f 90 (Tryz.f90,B90)) (tN f 92 (tL f 91 (Tryz.f91,B91)) (tL f 92 (Tryz.f92,B92)))) (tN f 95 (tN f 94 (tL f 93 (Tryz.f93,B93)) (tL f 94 (Tryz.f94,B94))) (tN f 96 (tL f 95 (Tryz.f95,B95)) (tL f 96 (Tryz.f96,B96)))))))) (tN f 140 (tN f 116 (tN f 108 (tN f 102 (tN f 98 (tL f 97 (Tryz.f97,B97)) (tN f 99 (tL f 98 (Tryz.f98,B98)) (tL f 99 (Tryz.f99,B99)))) (tN f 106 (tN f 105 (tL f 102 (Tryz.f102,WG)) (tL f 105 (Tryz.f105,WH))) (tN f 107 (tL f 106 (Tryz.f106,WI)) (tL f 107 (Tryz.f107,WJ))))) (tN f 112 (tN f 109 (tL f 108 (Tryz.f108,WK)) (tN f 110 (tL f 109 (Tryz.f109,WL)) (tL f 110 (Tryz.f110,WM)))) (tN f 114 (tN f 113 (tL f 112 (Tryz.f112,WN)) (tL f 113 (Tryz.f113,WO))) (tN f 115 (tL f 114 (Tryz.f114,WP)) (tL f 115 (Tryz.f115,WQ)))))) (tN f 123 (tN f 119 (tN f 117 (tL f 116 (Tryz.f116,WR)) (tN f 118 (tL f 117 (Tryz.f117,WS)) (tL f 118 (Tryz.f118,WU)))) (tN f 121 (tN f 120 (tL f 119 (Tryz.f119,WV)) (tL f 120 (Tryz.f120,WW))) (tN f 122 (tL f 121 (Tryz.f121,WX)) (tL f 122 (Tryz.f122,WY))))) (tN f 126 (tN f 124 (tL f 123 (Tryz.f123,WZ)) (tN f 125 (tL f 124 (Tryz.f124,W_)) (tL f 125 (Tryz.f125,Xa)))) (tN f 128 (tN f 127 (tL f 126 (Tryz.f126,Xb)) (tL f 127 (Tryz.f127,Xc))) (tN f 129 (tL f 128 (Tryz.f128,Xd)) (tL f 129 (Tryz.f129,Xe))))))) (tN f 160 (tN f 147 (tN f 143 (tN f 141 (tL f 140 (Tryz.f140,Xf)) (tN f 142 (tL f 141 (Tryz.f141,Xg)) (tL f 142 (Tryz.f142,Xh)))) (tN f 145 (tN f 144 (tL f 143 (Tryz.f143,Xi)) (tL f 144 (Tryz.f144,Xj))) (tN f 146 (tL f 145 (Tryz.f145,Xk)) (tL f 146 (Tryz.f146,Xl))))) (tN f 156 (tN f 154 (tL f 147 (Tryz.f147,Xm)) (tN f 155 (tL f 154 (Tryz.f154,Xn)) (tL f 155 (Tryz.f155,Xo)))) (tN f 158 (tN f 157 (tL f 156 (Tryz.f156,Xp)) (tL f 157 (Tryz.f157,Xq))) (tN f 159 (tL f 158 (Tryz.f158,Xr)) (tL f 159 (Tryz.f159,Xs)))))) (tN f 173 (tN f 163 (tN f 161 (tL f 160 (Tryz.f160,Xt)) (tN f 162 (tL f 161 (Tryz.f161,Xu)) (tL f 162 (Tryz.f162,Xv)))) (tN f 171 (tN f 170 (tL f 163 (Tryz.f163,Xw)) (tL f 170 (Tryz.f170,Xx))) (tN f 172 (tL f 171 (Tryz.f171,Xy)) (tL f 172 (Tryz.f172,Xz))))) (tN f 179 (tN f 176 (tN f 175 (tL f 173 (Tryz.f173,XA)) (tL f 175 (Tryz.f175,XB))) (tN f 177 (tL f 176 (Tryz.f176,XC)) (tL f 177 (Tryz.f177,XD)))) (tN f 181 (tN f 180 (tL f 179 (Tryz.f179,XE)) (tL f 180 (Tryz.f180,XF))) (tN f 182 (tL f 181 (Tryz.f181,XG)) (tL f 182 (Tryz.f182,XH)))))))))
def Ti (f:Nat):Option ((Code×Cx)×eZ):=(tN f 28 (tN f 14 (tN f 7 (tN f 3 (tN f 1 (tL f 0 d0) (tN f 2 (tL f 1 d1) (tL f 2 d2))) (tN f 5 (tN f 4 (tL f 3 d3) (tL f 4 d4)) (tN f 6 (tL f 5 d5) (tL f 6 d6)))) (tN f 10 (tN f 8 (tL f 7 d7) (tN f 9 (tL f 8 d8) (tL f 9 d9))) (tN f 12 (tN f 11 (tL f 10 d10) (tL f 11 d11)) (tN f 13 (tL f 12 d12) (tL f 13 d13))))) (tN f 21 (tN f 17 (tN f 15 (tL f 14 d14) (tN f 16 (tL f 15 d15) (tL f 16 d16))) (tN f 19 (tN f 18 (tL f 17 d17) (tL f 18 d18)) (tN f 20 (tL f 19 d19) (tL f 20 d20)))) (tN f 24 (tN f 22 (tL f 21 d21) (tN f 23 (tL f 22 d22) (tL f 23 d23))) (tN f 26 (tN f 25 (tL f 24 d24) (tL f 25 d25)) (tN f 27 (tL f 26 d26) (tL f 27 d27)))))) (tN f 42 (tN f 35 (tN f 31 (tN f 29 (tL f 28 d28) (tN f 30 (tL f 29 d29) (tL f 30 d30))) (tN f 33 (tN f 32 (tL f 31 d31) (tL f 32 d32)) (tN f 34 (tL f 33 d33) (tL f 34 d34)))) (tN f 38 (tN f 36 (tL f 35 d35) (tN f 37 (tL f 36 d36) (tL f 37 d37))) (tN f 40 (tN f 39 (tL f 38 d38) (tL f 39 d39)) (tN f 41 (tL f 40 d40) (tL f 41 d41))))) (tN f 49 (tN f 45 (tN f 43 (tL f 42 d42) (tN f 44 (tL f 43 d43) (tL f 44 d44))) (tN f 47 (tN f 46 (tL f 45 d45) (tL f 46 d46)) (tN f 48 (tL f 47 d47) (tL f 48 d48)))) (tN f 52 (tN f 50 (tL f 49 d49) (tN f 51 (tL f 50 d50) (tL f 51 d51))) (tN f 54 (tN f 53 (tL f 52 d52) (tL f 53 d53)) (tN f 55 (tL f 54 d54) (tL f 55 d55)))))))
def sR:Az:=⟨Lm,Ti⟩
def FO (f:Nat) (e:Func×eZ):Prop:=(∀(c:CH) (lp:LH) us H,e.2 c (sR.loop lp) us H=Ro oK c lp e.1 us H)∧Tryz.prog.funcs[f]? = some e.1∧aZ Tryz.prog f∧Vg y e.1=true
def LO (e:(Code×Cx)×eZ):Prop:=∀(c:CH) (lp:LH) us H,e.2 c (sR.loop lp) us H=Wu oK c lp e.1.1 e.1.2 us H
theorem rF {f n:Nat} {x e:Func×eZ} (h:FO n x):tL f n x=some e->FO f e:=rL h
theorem rD {f n:Nat} {x e:(Code×Cx)×eZ} (h:LO x):tL f n x=some e->LO e:=rL (R:=fun _=>LO) h
theorem Gc {f:Nat} {e:Func×eZ}:Lm f=some e->FO f e:=(rN (rN (rN (rN (rN (rN (rF ⟨fun _ _ _ _=>by kernel_rfl,Tryz.func6,Tryz.call6,by kernel_rfl⟩) (rN (rF ⟨fun _ _ _ _=>by kernel_rfl,Tryz.func7,Tryz.call7,by kernel_rfl⟩) (rF ⟨fun _ _ _ _=>by kernel_rfl,Tryz.func8,Tryz.call8,by kernel_rfl⟩))) (rN (rN (rF ⟨fun _ _ _ _=>by kernel_rfl,Tryz.func9,Tryz.call9,by kernel_rfl⟩) (rF ⟨fun _ _ _ _=>by kernel_rfl,Tryz.func12,Tryz.call12,by kernel_rfl⟩)) (rN (rF ⟨fun _ _ _ _=>by kernel_rfl,Tryz.func16,Tryz.call16,by kernel_rfl⟩) (rF ⟨fun _ _ _ _=>by kernel_rfl,Tryz.func22,Tryz.call22,by kernel_rfl⟩)))) (rN (rN (rF ⟨fun _ _ _ _=>by kernel_rfl,Tryz.func23,Tryz.call23,by kernel_rfl⟩) (rN (rF ⟨fun _ _ _ _=>by kernel_rfl,Tryz.func24,Tryz.call24,by kernel_rfl⟩) (rF ⟨fun _ _ _ _=>by kernel_rfl,Tryz.func25,Tryz.call25,by kernel_rfl⟩))) (rN (rN (rF ⟨fun _ _ _ _=>by kernel_rfl,Tryz.func26,Tryz.call26,by kernel_rfl⟩) (rF ⟨fun _ _ _ _=>by kernel_rfl,Tryz.func27,Tryz.call27,by kernel_rfl⟩)) (rN (rF ⟨fun _ _ _ _=>by kernel_rfl,Tryz.func28,Tryz.call28,by kernel_rfl⟩) (rF ⟨fun _ _ _ _=>by kernel_rfl,Tryz.func29,Tryz.call29,by kernel_rfl⟩))))) (rN (rN (rN (rF ⟨fun _ _ _ _=>by kernel_rfl,Tryz.func30,Tryz.call30,by kernel_rfl⟩) (rN (rF ⟨fun _ _ _ _=>by kernel_rfl,Tryz.func35,Tryz.call35,by kernel_rfl⟩) (rF ⟨fun _ _ _ _=>by kernel_rfl,Tryz.func36,Tryz.call36,by kernel_rfl⟩))) (rN (rN (rF ⟨fun _ _ _ _=>by kernel_rfl,Tryz.func37,Tryz.call37,by kernel_rfl⟩) (rF ⟨fun _ _ _ _=>by kernel_rfl,Tryz.func41,Tryz.call41,by kernel_rfl⟩)) (rN (rF ⟨fun _ _ _ _=>by kernel_rfl,Tryz.func42,Tryz.call42,by kernel_rfl⟩) (rF ⟨fun _ _ _ _=>by kernel_rfl,Tryz.func43,Tryz.call43,by kernel_rfl⟩)))) (rN (rN (rF ⟨fun _ _ _ _=>by kernel_rfl,Tryz.func44,Tryz.call44,by kernel_rfl⟩) (rN (rF ⟨fun _ _ _ _=>by kernel_rfl,Tryz.func45,Tryz.call45,by kernel_rfl⟩) (rF ⟨fun _ _ _ _=>by kernel_rfl,Tryz.func46,Tryz.call46,by kernel_rfl⟩))) (rN (rN (rF ⟨fun _ _ _ _=>by kernel_rfl,Tryz.func51,Tryz.call51,by kernel_rfl⟩) (rF ⟨fun _ _ _ _=>by kernel_rfl,Tryz.func53,Tryz.call53,by kernel_rfl⟩)) (rN (rF ⟨fun _ _ _ _=>by kernel_rfl,Tryz.func54,Tryz.call54,by kernel_rfl⟩) (rF ⟨fun _ _ _ _=>by kernel_rfl,Tryz.func55,Tryz.call55,by kernel_rfl⟩)))))) (rN (rN (rN (rN (rF ⟨fun _ _ _ _=>by kernel_rfl,Tryz.func56,Tryz.call56,by kernel_rfl⟩) (rN (rF ⟨fun _ _ _ _=>by kernel_rfl,Tryz.func57,Tryz.call57,by kernel_rfl⟩) (rF ⟨fun _ _ _ _=>by kernel_rfl,Tryz.func58,Tryz.call58,by kernel_rfl⟩))) (rN (rN (rF ⟨fun _ _ _ _=>by kernel_rfl,Tryz.func59,Tryz.call59,by kernel_rfl⟩) (rF ⟨fun _ _ _ _=>by kernel_rfl,Tryz.func60,Tryz.call60,by kernel_rfl⟩)) (rN (rF ⟨fun _ _ _ _=>by kernel_rfl,Tryz.func61,Tryz.call61,by kernel_rfl⟩) (rF ⟨fun _ _ _ _=>by kernel_rfl,Tryz.func66,Tryz.call66,by kernel_rfl⟩)))) (rN (rN (rF ⟨fun _ _ _ _=>by kernel_rfl,Tryz.func67,Tryz.call67,by kernel_rfl⟩) (rN (rF ⟨fun _ _ _ _=>by kernel_rfl,Tryz.func68,Tryz.call68,by kernel_rfl⟩) (rF ⟨fun _ _ _ _=>by kernel_rfl,Tryz.func69,Tryz.call69,by kernel_rfl⟩))) (rN (rN (rF ⟨fun _ _ _ _=>by kernel_rfl,Tryz.func73,Tryz.call73,by kernel_rfl⟩) (rF ⟨fun _ _ _ _=>by kernel_rfl,Tryz.func74,Tryz.call74,by kernel_rfl⟩)) (rN (rF ⟨fun _ _ _ _=>by kernel_rfl,Tryz.func75,Tryz.call75,by kernel_rfl⟩) (rF ⟨fun _ _ _ _=>by kernel_rfl,Tryz.func76,Tryz.call76,by kernel_rfl⟩))))) (rN (rN (rN (rF ⟨fun _ _ _ _=>by kernel_rfl,Tryz.func77,Tryz.call77,by kernel_rfl⟩) (rN (rF ⟨fun _ _ _ _=>by kernel_rfl,Tryz.func78,Tryz.call78,by kernel_rfl⟩) (rF ⟨fun _ _ _ _=>by kernel_rfl,Tryz.func83,Tryz.call83,by kernel_rfl⟩))) (rN (rN (rF ⟨fun _ _ _ _=>by kernel_rfl,Tryz.func84,Tryz.call84,by kernel_rfl⟩) (rF ⟨fun _ _ _ _=>by kernel_rfl,Tryz.func87,Tryz.call87,by kernel_rfl⟩)) (rN (rF ⟨fun _ _ _ _=>by kernel_rfl,Tryz.func88,Tryz.call88,by kernel_rfl⟩) (rF ⟨fun _ _ _ _=>by kernel_rfl,Tryz.func89,Tryz.call89,by kernel_rfl⟩)))) (rN (rN (rF ⟨fun _ _ _ _=>by kernel_rfl,Tryz.func90,Tryz.call90,by kernel_rfl⟩) (rN (rF ⟨fun _ _ _ _=>by kernel_rfl,Tryz.func91,Tryz.call91,by kernel_rfl⟩) (rF ⟨fun _ _ _ _=>by kernel_rfl,Tryz.func92,Tryz.call92,by kernel_rfl⟩))) (rN (rN (rF ⟨fun _ _ _ _=>by kernel_rfl,Tryz.func93,Tryz.call93,by kernel_rfl⟩) (rF ⟨fun _ _ _ _=>by kernel_rfl,Tryz.func94,Tryz.call94,by kernel_rfl⟩)) (rN (rF ⟨fun _ _ _ _=>by kernel_rfl,Tryz.func95,Tryz.call95,by kernel_rfl⟩) (rF ⟨fun _ _ _ _=>by kernel_rfl,Tryz.func96,Tryz.call96,by kernel_rfl⟩))))))) (rN (rN (rN (rN (rN (rF ⟨fun _ _ _ _=>by kernel_rfl,Tryz.func97,Tryz.call97,by kernel_rfl⟩) (rN (rF ⟨fun _ _ _ _=>by kernel_rfl,Tryz.func98,Tryz.call98,by kernel_rfl⟩) (rF ⟨fun _ _ _ _=>by kernel_rfl,Tryz.func99,Tryz.call99,by kernel_rfl⟩))) (rN (rN (rF ⟨fun _ _ _ _=>by kernel_rfl,Tryz.func102,Tryz.call102,by kernel_rfl⟩) (rF ⟨fun _ _ _ _=>by kernel_rfl,Tryz.func105,Tryz.call105,by kernel_rfl⟩)) (rN (rF ⟨fun _ _ _ _=>by kernel_rfl,Tryz.func106,Tryz.call106,by kernel_rfl⟩) (rF ⟨fun _ _ _ _=>by kernel_rfl,Tryz.func107,Tryz.call107,by kernel_rfl⟩)))) (rN (rN (rF ⟨fun _ _ _ _=>by kernel_rfl,Tryz.func108,Tryz.call108,by kernel_rfl⟩) (rN (rF ⟨fun _ _ _ _=>by kernel_rfl,Tryz.func109,Tryz.call109,by kernel_rfl⟩) (rF ⟨fun _ _ _ _=>by kernel_rfl,Tryz.func110,Tryz.call110,by kernel_rfl⟩))) (rN (rN (rF ⟨fun _ _ _ _=>by kernel_rfl,Tryz.func112,Tryz.call112,by kernel_rfl⟩) (rF ⟨fun _ _ _ _=>by kernel_rfl,Tryz.func113,Tryz.call113,by kernel_rfl⟩)) (rN (rF ⟨fun _ _ _ _=>by kernel_rfl,Tryz.func114,Tryz.call114,by kernel_rfl⟩) (rF ⟨fun _ _ _ _=>by kernel_rfl,Tryz.func115,Tryz.call115,by kernel_rfl⟩))))) (rN (rN (rN (rF ⟨fun _ _ _ _=>by kernel_rfl,Tryz.func116,Tryz.call116,by kernel_rfl⟩) (rN (rF ⟨fun _ _ _ _=>by kernel_rfl,Tryz.func117,Tryz.call117,by kernel_rfl⟩) (rF ⟨fun _ _ _ _=>by kernel_rfl,Tryz.func118,Tryz.call118,by kernel_rfl⟩))) (rN (rN (rF ⟨fun _ _ _ _=>by kernel_rfl,Tryz.func119,Tryz.call119,by kernel_rfl⟩) (rF ⟨fun _ _ _ _=>by kernel_rfl,Tryz.func120,Tryz.call120,by kernel_rfl⟩)) (rN (rF ⟨fun _ _ _ _=>by kernel_rfl,Tryz.func121,Tryz.call121,by kernel_rfl⟩) (rF ⟨fun _ _ _ _=>by kernel_rfl,Tryz.func122,Tryz.call122,by kernel_rfl⟩)))) (rN (rN (rF ⟨fun _ _ _ _=>by kernel_rfl,Tryz.func123,Tryz.call123,by kernel_rfl⟩) (rN (rF ⟨fun _ _ _ _=>by kernel_rfl,Tryz.func124,Tryz.call124,by kernel_rfl⟩) (rF ⟨fun _ _ _ _=>by kernel_rfl,Tryz.func125,Tryz.call125,by kernel_rfl⟩))) (rN (rN (rF ⟨fun _ _ _ _=>by kernel_rfl,Tryz.func126,Tryz.call126,by kernel_rfl⟩) (rF ⟨fun _ _ _ _=>by kernel_rfl,Tryz.func127,Tryz.call127,by kernel_rfl⟩)) (rN (rF ⟨fun _ _ _ _=>by kernel_rfl,Tryz.func128,Tryz.call128,by kernel_rfl⟩) (rF ⟨fun _ _ _ _=>by kernel_rfl,Tryz.func129,Tryz.call129,by kernel_rfl⟩)))))) (rN (rN (rN (rN (rF ⟨fun _ _ _ _=>by kernel_rfl,Tryz.func140,Tryz.call140,by kernel_rfl⟩) (rN (rF ⟨fun _ _ _ _=>by kernel_rfl,Tryz.func141,Tryz.call141,by kernel_rfl⟩) (rF ⟨fun _ _ _ _=>by kernel_rfl,Tryz.func142,Tryz.call142,by kernel_rfl⟩))) (rN (rN (rF ⟨fun _ _ _ _=>by kernel_rfl,Tryz.func143,Tryz.call143,by kernel_rfl⟩) (rF ⟨fun _ _ _ _=>by kernel_rfl,Tryz.func144,Tryz.call144,by kernel_rfl⟩)) (rN (rF ⟨fun _ _ _ _=>by kernel_rfl,Tryz.func145,Tryz.call145,by kernel_rfl⟩) (rF ⟨fun _ _ _ _=>by kernel_rfl,Tryz.func146,Tryz.call146,by kernel_rfl⟩)))) (rN (rN (rF ⟨fun _ _ _ _=>by kernel_rfl,Tryz.func147,Tryz.call147,by kernel_rfl⟩) (rN (rF ⟨fun _ _ _ _=>by kernel_rfl,Tryz.func154,Tryz.call154,by kernel_rfl⟩) (rF ⟨fun _ _ _ _=>by kernel_rfl,Tryz.func155,Tryz.call155,by kernel_rfl⟩))) (rN (rN (rF ⟨fun _ _ _ _=>by kernel_rfl,Tryz.func156,Tryz.call156,by kernel_rfl⟩) (rF ⟨fun _ _ _ _=>by kernel_rfl,Tryz.func157,Tryz.call157,by kernel_rfl⟩)) (rN (rF ⟨fun _ _ _ _=>by kernel_rfl,Tryz.func158,Tryz.call158,by kernel_rfl⟩) (rF ⟨fun _ _ _ _=>by kernel_rfl,Tryz.func159,Tryz.call159,by kernel_rfl⟩))))) (rN (rN (rN (rF ⟨fun _ _ _ _=>by kernel_rfl,Tryz.func160,Tryz.call160,by kernel_rfl⟩) (rN (rF ⟨fun _ _ _ _=>by kernel_rfl,Tryz.func161,Tryz.call161,by kernel_rfl⟩) (rF ⟨fun _ _ _ _=>by kernel_rfl,Tryz.func162,Tryz.call162,by kernel_rfl⟩))) (rN (rN (rF ⟨fun _ _ _ _=>by kernel_rfl,Tryz.func163,Tryz.call163,by kernel_rfl⟩) (rF ⟨fun _ _ _ _=>by kernel_rfl,Tryz.func170,Tryz.call170,by kernel_rfl⟩)) (rN (rF ⟨fun _ _ _ _=>by kernel_rfl,Tryz.func171,Tryz.call171,by kernel_rfl⟩) (rF ⟨fun _ _ _ _=>by kernel_rfl,Tryz.func172,Tryz.call172,by kernel_rfl⟩)))) (rN (rN (rN (rF ⟨fun _ _ _ _=>by kernel_rfl,Tryz.func173,Tryz.call173,by kernel_rfl⟩) (rF ⟨fun _ _ _ _=>by kernel_rfl,Tryz.func175,Tryz.call175,by kernel_rfl⟩)) (rN (rF ⟨fun _ _ _ _=>by kernel_rfl,Tryz.func176,Tryz.call176,by kernel_rfl⟩) (rF ⟨fun _ _ _ _=>by kernel_rfl,Tryz.func177,Tryz.call177,by kernel_rfl⟩))) (rN (rN (rF ⟨fun _ _ _ _=>by kernel_rfl,Tryz.func179,Tryz.call179,by kernel_rfl⟩) (rF ⟨fun _ _ _ _=>by kernel_rfl,Tryz.func180,Tryz.call180,by kernel_rfl⟩)) (rN (rF ⟨fun _ _ _ _=>by kernel_rfl,Tryz.func181,Tryz.call181,by kernel_rfl⟩) (rF ⟨fun _ _ _ _=>by kernel_rfl,Tryz.func182,Tryz.call182,by kernel_rfl⟩))))))))
theorem Pw {f:Nat} {e:(Code×Cx)×eZ}:Ti f=some e->LO e:=(rN (rN (rN (rN (rN (rD fun _ _ _ _=>by kernel_rfl) (rN (rD fun _ _ _ _=>by kernel_rfl) (rD fun _ _ _ _=>by kernel_rfl))) (rN (rN (rD fun _ _ _ _=>by kernel_rfl) (rD fun _ _ _ _=>by kernel_rfl)) (rN (rD fun _ _ _ _=>by kernel_rfl) (rD fun _ _ _ _=>by kernel_rfl)))) (rN (rN (rD fun _ _ _ _=>by kernel_rfl) (rN (rD fun _ _ _ _=>by kernel_rfl) (rD fun _ _ _ _=>by kernel_rfl))) (rN (rN (rD fun _ _ _ _=>by kernel_rfl) (rD fun _ _ _ _=>by kernel_rfl)) (rN (rD fun _ _ _ _=>by kernel_rfl) (rD fun _ _ _ _=>by kernel_rfl))))) (rN (rN (rN (rD fun _ _ _ _=>by kernel_rfl) (rN (rD fun _ _ _ _=>by kernel_rfl) (rD fun _ _ _ _=>by kernel_rfl))) (rN (rN (rD fun _ _ _ _=>by kernel_rfl) (rD fun _ _ _ _=>by kernel_rfl)) (rN (rD fun _ _ _ _=>by kernel_rfl) (rD fun _ _ _ _=>by kernel_rfl)))) (rN (rN (rD fun _ _ _ _=>by kernel_rfl) (rN (rD fun _ _ _ _=>by kernel_rfl) (rD fun _ _ _ _=>by kernel_rfl))) (rN (rN (rD fun _ _ _ _=>by kernel_rfl) (rD fun _ _ _ _=>by kernel_rfl)) (rN (rD fun _ _ _ _=>by kernel_rfl) (rD fun _ _ _ _=>by kernel_rfl)))))) (rN (rN (rN (rN (rD fun _ _ _ _=>by kernel_rfl) (rN (rD fun _ _ _ _=>by kernel_rfl) (rD fun _ _ _ _=>by kernel_rfl))) (rN (rN (rD fun _ _ _ _=>by kernel_rfl) (rD fun _ _ _ _=>by kernel_rfl)) (rN (rD fun _ _ _ _=>by kernel_rfl) (rD fun _ _ _ _=>by kernel_rfl)))) (rN (rN (rD fun _ _ _ _=>by kernel_rfl) (rN (rD fun _ _ _ _=>by kernel_rfl) (rD fun _ _ _ _=>by kernel_rfl))) (rN (rN (rD fun _ _ _ _=>by kernel_rfl) (rD fun _ _ _ _=>by kernel_rfl)) (rN (rD fun _ _ _ _=>by kernel_rfl) (rD fun _ _ _ _=>by kernel_rfl))))) (rN (rN (rN (rD fun _ _ _ _=>by kernel_rfl) (rN (rD fun _ _ _ _=>by kernel_rfl) (rD fun _ _ _ _=>by kernel_rfl))) (rN (rN (rD fun _ _ _ _=>by kernel_rfl) (rD fun _ _ _ _=>by kernel_rfl)) (rN (rD fun _ _ _ _=>by kernel_rfl) (rD fun _ _ _ _=>by kernel_rfl)))) (rN (rN (rD fun _ _ _ _=>by kernel_rfl) (rN (rD fun _ _ _ _=>by kernel_rfl) (rD fun _ _ _ _=>by kernel_rfl))) (rN (rN (rD fun _ _ _ _=>by kernel_rfl) (rD fun _ _ _ _=>by kernel_rfl)) (rN (rD fun _ _ _ _=>by kernel_rfl) (rD fun _ _ _ _=>by kernel_rfl)))))))
theorem kA:BY sR oK:=⟨fun h=>(Gc h).1,Pw⟩
theorem Pv {f:Nat} {e:Func×eZ} (h:Lm f=some e):Tryz.prog.funcs[f]? = some e.1∧aZ Tryz.prog f∧Vg y e.1=true:=(Gc h).2
end
end Go.Gx
end
section
namespace Go.Gx
open Go Go.Sx
section
section
variable {P:Program} {gs:rK} {w0:cM gs} {tb:TB}
theorem HV:nD P w0 (fun _ _ _=>none):=fun f us H g H' h=>by cases h
theorem CR:BX P w0 tb (fun _ _ _ _=>none):=fun b cx vs H out h=>by cases h
theorem Rp {ch:CH} {lp:LH} (hT:dK P tb) (hm:P.follows .mixedOrders=true) (hcall:∀w0:cM gs,nD P w0 ch) (hloop:BX P w0 tb lp) {f:Nat} {fn:Func} {us:List GV} {H:GH} {out:HC} (h1:P.funcs[f]? = some fn) (hok:Vg tb fn=true) (h:Ro tb ch lp fn us H=some out) (he:out.e = .ret) {ρ:cS} {w:World} {vs:List Value} (R:dU w0 ρ H w) (hr:mQ ρ us vs):
  Calls P f vs.toArray w fun e w'=>∃v ρ',e = .returned v∧ρ.le ρ'∧dU w0 ρ' out.H w'∧Rl ρ' (Mu out.vs) v:=by
 obtain⟨h3,h4⟩:=Iw hok
 obtain⟨body,hb,h⟩:=aB.1 (show ob fn.body _=some out from h)
 obtain⟨σ,hσ,h⟩:=mF h
 rw[List.range_eq_range']at hσ
 have hlen:=DN hσ
 have hvl:vs.length<=fn.ntmps:=by rw[<-hr.len,hlen];exact h4
 refine qL h1 hb ?_
 have F:iA ρ fn.ntmps σ {tmps:=vs.toArray++Array.replicate (fn.ntmps - vs.toArray.size) undef,defers:=[]}:=by
  refine Gy rfl (by simp;omega) hr (fun j v hv=> ?_) hσ
  have hlt:=aR hv
  rw[Nat.zero_add,Array.getElem?_append_left (by simpa using hlt)]
  simpa using hv
 refine w_ hT hm hcall hloop body _ _ _ ⟨σ,H⟩ out ρ _ w _ (h3 body hb) h F R ⟨fun s' ρ' a' w' hk hle' F' R'=> ?_,fun id s' ρ' a' w' hk hle' F' R'=> ?_,fun s' ρ' a' w' hk hle' F' R'=> ?_⟩
 ·obtain⟨e1,v,hv,hres⟩:=BH (fn:=fn) hT rfl F' R' hk
  exact Sx.body_end (.inr rfl) F'.defers hres ⟨v,ρ',rfl,hle',by rw[e1];exact R',hv⟩
 ·have:=tK hk
  rw[he]at this;cases this
 ·obtain⟨e1,v,hv,hres⟩:=BH (fn:=fn) hT rfl F' R' hk
  exact Sx.body_end (.inl rfl) F'.defers hres ⟨v,ρ',rfl,hle',by rw[e1];exact R',hv⟩
noncomputable def FC (tb:TB) (f:Nat) (fn:Func):CH:=fun g us H=>bif Nat.beq g f then Gb (Ro tb (fun _ _ _=>none) (fun _ _ _ _=>none) fn us H)else none
theorem NN (hT:dK P tb) (hm:P.follows .mixedOrders=true) {f:Nat} {fn:Func} (h1:P.funcs[f]? = some fn) (hb:aZ P f) (hok:Vg tb fn=true):nD P w0 (FC tb f fn):=fun g us H x H' h ρ w vs R hr=>by
 unfold FC at h
 cases h2:Nat.beq g f with
 |false=>rw[h2]at h;cases h
 |true=>
 rw[h2]at h
 have h2:=Nat.eq_of_beq_eq_true h2
 subst h2
 replace h:Gb (Ro tb (fun _ _ _=>none) (fun _ _ _ _=>none) fn us H)=some (x,H'):=h
 unfold Gb at h
 obtain⟨o,h3,h4⟩:=aB.1 h
 cases he:o.e with
 |normal=>rw[he]at h4;cases h4
 |exit id=>rw[he]at h4;cases h4
 |ret=>
  rw[he]at h4;cases h4
  exact .inr ⟨hb _ w,Rp hT hm (fun _=>HV) CR h1 hok h3 he R hr⟩
theorem MN {id:Nat} {o:Oper} {l:List Oper} {Q:Exit->Act->List Frame->World->Prop} {a:Act} {cs:List Frame} {w:World} (hnd:l.all fY=true) (hg:o.guard=none) (hrun:(execOp a.eval o).run P w = .ok .recover w)
  (hrec:recoverD cs=none) (h:Sx.wpList P (o::l).toArray (fun e a' w'=>Q e a' cs w') l (a.put o.dst .nilIface) w):(Code.region id (o::l).toArray false).wpSIn (FR none) 0 P Q a cs w:=by
 intro b k hb hro hF hroom
 have ho:(o::l).toArray[0]? = some o:=by simp
 obtain⟨e,a',w',hq,harr⟩:=wp_opsIn (F:=FR none) (n:=0) (Q:=fun e a' w'=>Q e a' cs w') (ops:=(o::l).toArray) (List.range' 1 l.length) (a.put o.dst .nilIface) w
  (by rw[wpOpsIn_eq_wpListIn l 1 (by intro j;simp[Nat.add_comm 1 j])];exact Sx.wpList_in l _ w hnd h) b k cs hro hF hroom
 have hw:Region.wanted o (yielded (o::l).toArray a.tmps)=true:=by simp[Region.wanted,hg]
 have h0:(lone (b.atR a (.inRegion (o::l).toArray (0::List.range' 1 l.length)::k)) cs w).fenced P (FR none):=fenced_oper hF hroom ho (fun _ _=>trivial)
 have hg':=stepGR_op (P:=P) (b:=b) (k:=k) (cs:=cs) (w:=w) (rest:=List.range' 1 l.length) ho hw
 rw[hro,Oper.semAt_none]at hg'
 have hfin:∀v,(b.atR a (.inRegion (o::l).toArray (0::List.range' 1 l.length)::k)).finish v=b.atR (a.put o.dst v) (.inRegion (o::l).toArray (List.range' 1 l.length)::k):=by
  intro v;rw[Frame.finish_atR,ho];rfl
 have hk:(b.atR a (.inRegion (o::l).toArray (0::List.range' 1 l.length)::k)).kind = .deferred:=hb
 have htr:=tryRecover_deferred hk cs
 have hr:List.range (o::l).toArray.size=0::List.range' 1 l.length:=by simp[List.range_eq_range',List.range'_succ]
 have hs:=stepR_region (P:=P) (b:=b) (a:=a) (k:=k) (cs:=cs) (w:=w) (id:=id) (ops:=(o::l).toArray)
 rw[hr]at hs
 refine⟨e,a',cs,w',rfl,hq,.of_steps (.head (fenced_calm hF hroom rfl) hs (.one h0 (step_lone_go ?_))) harr⟩
 rw[hg',<-hfin]
 simp only[Frame.atR,hro]at htr ⊢
 simp[stepG.apply,hrun,htr,hrec]
theorem LX {ch:CH} {lp:LH} (hT:dK P tb) (hm:P.follows .mixedOrders=true) {f:Nat} {fn:Func} {id m d:Nat} {o:Oper} {l:List Oper} {rest:Code} {cx:Cx} {out:HC} {args:Array Value} {w:World}
  (hcall:∀w0:cM Qn,nD P w0 ch) (hloop:BX P (cM.one w) tb lp) (hf:P.funcs[f]? = some fn) (hb:fn.body=some (.seq (.region id (o::l).toArray false) rest)) (hg:o.guard=none) (hd:o.dst=some d) (hdn:d<fn.ntmps)
  (hrun:∀ρ w,(execOp ρ o).run P w = .ok .recover w) (hl:l.all (Cq fn.ntmps)=true) (hr:BW tb fn.ntmps rest=true) (hres:fn.results = #[]) (hsz:args.size<=fn.ntmps)
  (h:AI tb ch (o::l) (Rn tb ch lp rest m cx (BG [])) l ⟨[(d,.inil)],H0⟩=some out) (he:out.e = .normal):
  CallsDIn (FR none) 0 P f args .returning w fun e u' w'=>∃v,e = .returned v∧u' = .returning∧CG w w':=by
 have hnd:l.all fY=true:=List.all_eq_true.2 fun o hmo=>(oE (List.all_eq_true.1 hl o hmo)).1
 refine callsDIn_of_wpSIn hf hb trivial fun c₀ cs hu=> ?_
 have hrec:recoverD (c₀::cs)=none:=by simp[recoverD,hu]
 refine wpSIn_seq (MN hnd hg (hrun _ _) hrec ?_)
 have F:iA (fun _=>none) fn.ntmps [(d,.inil)] (({tmps:=args++Array.replicate (fn.ntmps - args.size) undef,defers:=[]}:Act).put o.dst .nilIface):=by
  rw[hd]
  refine iA.put ⟨rfl,by simp;omega,fun t g hg=>(by cases hg)⟩ hdn ?_
  exact .inil
 refine Bv hT (hcall (cM.one w)) l ⟨[(d,.inil)],H0⟩ _ _ w hl F (dU.start (cM.one w) rfl) h fun s' ρ' a' w' hk hle' F' R'=> ?_
 refine wpSIn_of_wpIn rfl ?_
 refine w_ hT hm hcall hloop rest _ _ _ s' out ρ' a' w' _ hr hk F' R' ⟨fun s2 ρ2 a2 w2 hk2 hle2 F2 R2=> ?_,fun id s2 ρ2 a2 w2 hk2 hle2 F2 R2=> ?_,fun s2 ρ2 a2 w2 hk2 hle2 F2 R2=> ?_⟩
 ·refine⟨F2.defers,c₀.mode,rfl,.tuple #[],?_,_,rfl,hu,R2.ext.ext⟩
  simp[results,hres]
 ·have:=tK hk2
  rw[he]at this;cases this
 ·have:=Hh hk2
  rw[he]at this;cases this
theorem Dx {o:Oper} {l:List Oper} {ops:Array Oper} {Q:Exit->Act->World->Prop} {a:Act} {w w':World} {v:Value} (hg:o.guard=none) (hr:(execOp a.eval o).run P w = .ok (.value v) w') (h:Sx.wpList P ops Q l (a.put o.dst v) w'):Sx.wpList P ops Q (o::l) a w:=by
 unfold Sx.wpList
 rw[if_pos (by simp[Region.wanted,hg])]
 exact .inl (by simp only[Oper.wp,hr,Oper.upon];exact h)
theorem Jd {o:Oper} {l:List Oper} {ops:Array Oper} {Q:Exit->Act->World->Prop} {a:Act} {w w':World} (hg:o.guard=none) (hr:(execOp a.eval o).run P w = .ok .skip w') (h:Sx.wpList P ops Q l (a.put o.dst undef) w'):Sx.wpList P ops Q (o::l) a w:=by
 unfold Sx.wpList
 rw[if_pos (by simp[Region.wanted,hg])]
 exact .inl (by simp only[Oper.wp,hr,Oper.upon];exact h)
theorem MP {o:Oper} {l:List Oper} {ops:Array Oper} {Q:Exit->Act->World->Prop} {a:Act} {w:World} {f:Nat} {args:Array Value} {S:Value->World->Prop} (hg:o.guard=none) (hr:(execOp a.eval o).run P w = .ok (.enter f args) w)
  (hc:Calls P f args w fun e w'=>∃v,e = .returned v∧S v w') (h:∀v w',S v w'->Sx.wpList P ops Q l (a.put o.dst v) w'):Sx.wpList P ops Q (o::l) a w:=by
 unfold Sx.wpList
 rw[if_pos (by simp[Region.wanted,hg])]
 refine .inl ?_
 simp only[Oper.wp,hr,Oper.upon]
 refine hc.mono ?_
 rintro e w' ⟨v,rfl,hs⟩
 exact h v w' hs
theorem Ub (hT:dK P tb) {c cc T1 T2 i0 i1 i2 i3 y0 y1 y2 y3 y4 y5 y6 y7:Nat} {p0 p1 p2 p3 p4 p5 p6 p7:String} {e0 e1 e2 e3 e4 e5 e6 e7:Array Edge} {fn:Func} (hf:P.funcs[c]? = some fn) (hbd:aZ P c) (hcc:aZ P cc)
  (hb:fn.body=some (.seq (.region i0 #[⟨some 2,.alloc T1,y0,p0,e0,none⟩,⟨some 3,.alloc T2,y1,p1,e1,none⟩] false)
   (.seq (.region i1 #[⟨some 4,.makeFunc (.func cc) #[] #[.tmp 2,.tmp 3],y2,p2,e2,none⟩,⟨none,.defer ⟨.value (.tmp 4),#[],#[]⟩,y3,p3,e3,none⟩] false)
   (.seq (.region i2 #[⟨some 5,.move (.tmp 0),y4,p4,e4,none⟩,⟨some 6,.call ⟨.value (.tmp 5),#[],#[]⟩,y5,p5,e5,none⟩] false)
   (.seq (.region i3 #[⟨none,.store T1 (.tmp 2) (.const (.int .i64 0)),y6,p6,e6,none⟩,⟨none,.store T2 (.tmp 3) (.const (.int .i64 0)),y7,p7,e7,none⟩] false) .ret)))))
  (hn:fn.ntmps=7) (hres:fn.results = #[.cell 2 T1,.cell 3 T2])
  (hA1:∀H,bY tb T1 H=some (.ptr H.n 0,H.new (.cells [q_]))) (hA2:∀H,bY tb T2 H=some (.ptr H.n 0,H.new (.cells [q_])))
  (hS1:∀H h c,GH.cells H h=some [c]->aW tb T1 (.ptr h 0) q_ H=some (.un,H.set h (.cells [q_]))) (hS2:∀H h c,GH.cells H h=some [c]->aW tb T2 (.ptr h 0) q_ H=some (.un,H.set h (.cells [q_])))
  (hL1:∀H h,GH.cells H h=some [q_]->bQ tb T1 (.ptr h 0) H=some q_) (hL2:∀H h,GH.cells H h=some [q_]->bQ tb T2 (.ptr h 0) H=some q_)
  (hdef:∀args w,args.size=2->CallsDIn (FR none) 0 P cc args .returning w fun e u' w'=>∃v,e = .returned v∧u' = .returning∧CG w w')
  {ρ:cS} {g:Nat} {us cs:List Value} {w:World} {H H':GH} {c1 c2:GV} (R:dU w0 ρ H w) (hc:∀ρ' w',ρ.le ρ'->dU w0 ρ' ((H.new (.cells [q_])).new (.cells [q_])) w'->∃x,kM P w0 ρ' g (us++cs) w' x H') (h1:H'.cells H.n=some [c1]) (h2:H'.cells (H.n+1)=some [c2]):
  kM P w0 ρ c [.func (.func g) us.toArray cs.toArray] w (.tup [q_,q_]) ((((H'.set H.n (.cells [q_])).set (H.n+1) (.cells [q_])).del H.n).del (H.n+1)):=by
 refine .inr ⟨hbd _ w,?_⟩
 refine HW (r:=none) (n:=0) (callsIn_of_wp_defers hf hb trivial ?_)
 rw[hn]
 obtain⟨v1,w1,ρ1,hr1,hle1,R1,hv1⟩:=CC (P:=P) hT R (hA1 H)
 obtain⟨v2,w2,ρ2,hr2,hle2,R2,hv2⟩:=CC (P:=P) hT R1 (hA2 _)
 obtain⟨x,hx⟩:=hc ρ2 w2 (cS.le_trans hle1 hle2) R2
 refine wpIn_seq (nT rfl ?_)
 refine Dx rfl (v:=v1) (w':=w1) (by simp[execOp,hr1]) ?_
 refine Dx rfl (v:=v2) (w':=w2) (by simp[execOp,hr2]) ?_
 show Code.wpIn (FR none) 0 P _ _ (⟨#[.func (.func g) us.toArray cs.toArray,undef,v1,v2,undef,undef,undef],[]⟩:Act) w2
 refine wpIn_seq (wpIn_region_lit ?_)
 refine wpListIn_plain rfl fun K hK=>⟨fun _ _=>trivial,?_⟩
 have hm:(Oper.semAt (FR none).round (⟨#[.func (.func g) us.toArray cs.toArray,undef,v1,v2,undef,undef,undef],[]⟩:Act).eval ⟨some 4,.makeFunc (.func cc) #[] #[.tmp 2,.tmp 3],y2,p2,e2,none⟩).run P w2 = .ok (.value (.func (.func cc) #[] #[v1,v2])) w2:=by
  rw[show(FR none).round=none from rfl,Oper.semAt_none]
  simp[execOp,Instr.makeFunc,Act.eval]
 rw[hm]
 refine hK _ _ ?_
 show wpListIn _ _ _ _ _ _ (⟨#[.func (.func g) us.toArray cs.toArray,undef,v1,v2,.func (.func cc) #[] #[v1,v2],undef,undef],[]⟩:Act) w2
 refine wpListIn_plain rfl fun K hK=>⟨fun _ _=>trivial,?_⟩
 have hm:(Oper.semAt (FR none).round (⟨#[.func (.func g) us.toArray cs.toArray,undef,v1,v2,.func (.func cc) #[] #[v1,v2],undef,undef],[]⟩:Act).eval ⟨none,.defer ⟨.value (.tmp 4),#[],#[]⟩,y3,p3,e3,none⟩).run P w2 = .ok (.defer ⟨.fn (.func cc) #[v1,v2],#[]⟩) w2:=by
  rw[show(FR none).round=none from rfl,Oper.semAt_none]
  simp[execOp,resolve,Act.eval,Deferred.ofValue]
 rw[hm]
 refine hK _ _ ?_
 show Code.wpIn (FR none) 0 P _ _ (⟨#[.func (.func g) us.toArray cs.toArray,undef,v1,v2,.func (.func cc) #[] #[v1,v2],undef,undef],[⟨.fn (.func cc) #[v1,v2],#[]⟩]⟩:Act) w2
 refine wpIn_seq (nT rfl ?_)
 refine Dx rfl (v:= .func (.func g) us.toArray cs.toArray) (w':=w2) (by simp[execOp,Act.eval]) ?_
 show Sx.wpList _ _ _ _ (⟨#[.func (.func g) us.toArray cs.toArray,undef,v1,v2,.func (.func cc) #[] #[v1,v2],.func (.func g) us.toArray cs.toArray,undef],[⟨.fn (.func cc) #[v1,v2],#[]⟩]⟩:Act) w2
 have go:∀v w3 ρ3,ρ2.le ρ3->dU w0 ρ3 H' w3->Code.wpIn (FR none) 0 P (.seq (.region i3 #[⟨none,.store T1 (.tmp 2) (.const (.int .i64 0)),y6,p6,e6,none⟩,⟨none,.store T2 (.tmp 3) (.const (.int .i64 0)),y7,p7,e7,none⟩] false) .ret) (bodyPostDIn (FR none) 0 P fn fun e w'=>∃v ρ',e = .returned v∧ρ.le ρ'∧dU w0 ρ' ((((H'.set H.n (.cells [q_])).set (H.n+1) (.cells [q_])).del H.n).del (H.n+1)) w'∧Rl ρ' (.tup [q_,q_]) v) (⟨#[.func (.func g) us.toArray cs.toArray,undef,v1,v2,.func (.func cc) #[] #[v1,v2],.func (.func g) us.toArray cs.toArray,v],[⟨.fn (.func cc) #[v1,v2],#[]⟩]⟩:Act) w3:=by
  intro v w3 ρ3 hle3 R3
  have hz:∀ρ,Rl ρ q_ (.int .i64 0):=fun ρ=> .int _ _
  obtain⟨_,w4,ρ4,hr4,hle4,R4⟩:=CE (P:=P) (T:=T1) hT R3 ((hv1.le hle2).le hle3) (hz _) (hS1 _ _ _ h1)
  have h2':(H'.set H.n (.cells [q_])).cells (H.n+1)=some [c2]:=by
   rw[fD]at h2 ⊢
   rw[nF,if_neg (by omega)];exact h2
  obtain⟨_,w5,ρ5,hr5,hle5,R5⟩:=CE (P:=P) (T:=T2) hT R4 ((hv2.le hle3).le hle4) (hz _) (hS2 _ _ _ h2')
  refine wpIn_seq (nT rfl ?_)
  refine Jd rfl (w':=w4) (by simp[execOp,Act.eval,hr4]) ?_
  refine Jd rfl (w':=w5) (by simp[execOp,Act.eval,Act.put,hr5]) ?_
  refine wpIn_ret ?_
  show LeavesIn (FR none) 0 P fn #[.func (.func g) us.toArray cs.toArray,undef,v1,v2,.func (.func cc) #[] #[v1,v2],.func (.func g) us.toArray cs.toArray,v] _ [⟨.fn (.func cc) #[v1,v2],#[]⟩] .returning w5
  refine leavesIn_cons (f:=cc) (args:= #[v1,v2]) (by simp) (by simp[FR,Fence.wide]) (by simp[invoke,hcc _ w5]) (fun _ _=>trivial) ?_
  refine(hdef #[v1,v2] w5 rfl).mono ?_
  rintro e u' w6 ⟨x6,rfl,rfl,hext⟩
  have R6:=R5.ext' hext
  have F:iA ρ5 7 [(2,.ptr H.n 0),(3,.ptr (H.n+1) 0)] (⟨#[.func (.func g) us.toArray cs.toArray,undef,v1,v2,.func (.func cc) #[] #[v1,v2],.func (.func g) us.toArray cs.toArray,v],[]⟩:Act):=by
   refine⟨rfl,rfl,fun t g hg=> ?_⟩
   rw[tX]at hg
   by_cases h2:t=2
   ·rw[if_pos h2]at hg;cases hg;rw[h2]
    exact(((hv1.le hle2).le hle3).le hle4).le hle5
   ·rw[if_neg h2,tX]at hg
    by_cases h3:t=3
    ·rw[if_pos h3]at hg;cases hg;rw[h3]
     exact((hv2.le hle3).le hle4).le hle5
    ·rw[if_neg h3]at hg;cases hg
  have hres':Kf tb ⟨fn.results.toList,0,[]⟩ ⟨[(2,.ptr H.n 0),(3,.ptr (H.n+1) 0)],(H'.set H.n (.cells [q_])).set (H.n+1) (.cells [q_])⟩=some ⟨.ret,[q_,q_],(H'.set H.n (.cells [q_])).set (H.n+1) (.cells [q_])⟩:=by
   rw[hres]
   have q1:bQ tb T1 (.ptr H.n 0) ((H'.set H.n (.cells [q_])).set (H.n+1) (.cells [q_]))=some q_:=hL1 _ _ (by rw[fD,nF,if_neg (by omega),nF,if_pos rfl])
   have q2:bQ tb T2 (.ptr (H.n+1) 0) ((H'.set H.n (.cells [q_])).set (H.n+1) (.cells [q_]))=some q_:=hL2 _ _ (by rw[fD,nF,if_pos rfl])
   show ob (ob (bQ tb T1 (.ptr H.n 0) _) fun v=>ob (ob (bQ tb T2 (.ptr (H.n+1) 0) _) fun v=>ob (some []) fun vs=>some (v::vs)) fun vs=>some (v::vs)) _=_
   rw[q1,q2];rfl
  obtain⟨_,v6,hv6,hr6⟩:=BH (fn:=fn) (P:=P) hT rfl F R6 hres'
  exact⟨v6,hr6,v6,ρ5,rfl,cS.le_trans hle1 (cS.le_trans hle2 (cS.le_trans hle3 (cS.le_trans hle4 hle5))),(R6.del _).del _,hv6⟩
 rcases hx with⟨v,w3,ρ3,hr,hle3,R3,_⟩|⟨hr,hcalls⟩
 ·refine Dx rfl (v:=v) (w':=w3) (by simpa [execOp,resolve,Act.eval,Deferred.ofValue,invoke]using hr) ?_
  exact go v w3 ρ3 hle3 R3
 ·refine MP rfl (f:=g) (args:=(us++cs).toArray) (S:=fun v w'=>∃ρ',ρ2.le ρ'∧dU w0 ρ' H' w') (by simpa [execOp,resolve,Act.eval,Deferred.ofValue,invoke]using hr) (hcalls.mono ?_) fun v w3 ⟨ρ3,hle3,R3⟩=>go v w3 ρ3 hle3 R3
  rintro e w' ⟨v,ρ',rfl,hle,R',_⟩
  exact⟨v,rfl,ρ',hle,R'⟩
end
end
section
noncomputable section
def JU (n c:Nat) (len:Nat):Nat->Option Nat:=Nat.rec (motive:=fun _=>Nat->Option Nat) (fun _=>none) (fun _ ih i=>Bool.casesOn (motive:=fun _=>Option Nat) (Nat.beq (Nat.mod (Nat.shiftRight n (Nat.mul 8 i)) 256) c) (ih (Nat.succ i)) (some i)) len
def XU (k:IntKind):Bool:=match k with
 | .u8=>true
 |_=>false
def Og (fx:Nat) (f:Nat) (us:List GV):Option GV:=bif Nat.beq f fx then List.casesOn (motive:=fun _=>Option GV) us none (fun a r=>List.casesOn (motive:=fun _=>Option GV) r none fun c r=>List.casesOn (motive:=fun _=>Option GV) r (ob a.asStr fun s=>ob c.asI fun p=>ob (TF p.2) fun k=>
 bif XU p.1 then(bif Nat.blt k 256 then Option.casesOn (motive:=fun _=>Option GV) (JU s.1 k s.2 0) (some (.int .i64 (.negSucc 0))) (fun i=>some (.int .i64 (.ofNat i)))else none)else none) fun _ _=>none)else none
theorem KS (x:List UInt8) (c:Nat) (hc:c<256):∀k i,i+k=x.length->(match JU (iO x) c k i with|none=>(-1:Int)|some j=>(j:Int))=(if Lib.indexByte (x.drop i) c.toUInt8 = -1 then -1 else Lib.indexByte (x.drop i) c.toUInt8+i)
 |0,i,h=>by
  rw[List.drop_of_length_le (by omega)]
  simp[JU,Lib.indexByte]
 | k + 1, i, h => by
  have ih:=KS x c hc k (i+1) (by omega)
  have hi:i<x.length:=by omega
  have e:JU (iO x) c (k+1) i=Bool.casesOn (motive:=fun _=>Option Nat) (Nat.beq (Nat.mod (Nat.shiftRight (iO x) (Nat.mul 8 i)) 256) c) (JU (iO x) c k (i+1)) (some i):=rfl
  rw[e,KN x i hi,List.drop_eq_getElem_cons hi]
  have hcc:(x[i]).toNat=c↔x[i]=c.toUInt8:=by
   rw[<-UInt8.toNat_inj]
   have:c.toUInt8.toNat=c:=by simp[Nat.toUInt8];omega
   rw[this]
  unfold Lib.indexByte
  cases hb:Nat.beq (x[i]).toNat c with
  |true=>
   have:=hcc.1 (Nat.eq_of_beq_eq_true hb)
   simp[this]
  | false =>
   have hne:¬x[i]=c.toUInt8:=fun h'=>by
    have:=hcc.2 h'
    rw[this]at hb
    simp at hb
   have hge:=Lib.indexByte_ge (x.drop (i+1)) c.toUInt8
   simp only[beq_iff_eq,hne,if_false]
   rw[ih]
   by_cases h1:Lib.indexByte (x.drop (i+1)) c.toUInt8 = -1
   ·simp[h1]
   ·rw[if_neg h1,if_neg h1,if_neg (by omega)]
    push_cast;omega
section
variable {P:Program} {gs:rK} {w0:cM gs}
theorem Rv {fx:Nat} {fn:Func} (hf:P.funcs[fx]? = some fn) (hname:(fn.name == "runtime.NumGoroutine")=false) (hb:fn.body.isNone=true) (hn:Extern.findNext fn=none) (he:Extern.find fn=some Extern.BytealgIndexByte.indexByte)
  {f:Nat} {us:List GV} {g:GV} (h:Og fx f us=some g) (ρ:cS) (w:World) (vs:List Value) (H:GH) (R:dU w0 ρ H w) (hr:mQ ρ us vs):kM P w0 ρ f vs w g H:=by
 unfold Og at h
 replace h:=bB.1 h
 have h1:=Nat.eq_of_beq_eq_true h.1
 replace h:=h.2
 subst h1
 cases us with
 |nil=>cases h
 |cons a us=>
 cases us with
 |nil=>cases h
 |cons c us=>
 cases us with
 |cons _ _=>cases h
 |nil=>
 obtain⟨s,hs,h⟩:=aB.1 (show ob a.asStr _=some g from h)
 obtain⟨p,hp,h⟩:=aB.1 h
 obtain⟨k,hk,h⟩:=aB.1 h
 obtain⟨hu,h⟩:=bB.1 h
 obtain⟨hlt,h⟩:=bB.1 h
 obtain⟨v,vs,rfl,hv,hr⟩:=hr.of_cons
 obtain⟨v',vs,rfl,hv',hr⟩:=hr.of_cons
 rw[hr.of_nil]
 rw[lL hs]at hv
 rw[k_ hp]at hv'
 obtain⟨S,rfl,e1,e2⟩:=hv.str_inv
 have hv':=hv'.int_inv
 subst hv'
 have hpu:p.1 = .u8:=by cases hq:p.1<;>rw[hq]at hu<;>first|rfl|cases hu
 have hk':p.2=(k:Int):=BZ hk
 have hlt:k<256:=by simpa using hlt
 refine .inl ⟨.int .i64 (Lib.indexByte S.data.toList p.2.toNat.toUInt8),w,ρ,?_,cS.le_refl _,R,?_⟩
 ·rw[run_callFunc_extern hf hname hb hn he,hpu,Lib.run_indexByteString]
  rfl
 ·have key:=KS (aY S) k hlt s.2 0 (by omega)
  rw[e1]at h
  rw[List.drop_zero]at key
  have e3:Lib.indexByte S.data.toList p.2.toNat.toUInt8=(match JU (iO (aY S)) k s.2 0 with|none=>(-1:Int)|some j=>(j:Int)):=by
   rw[key,hk']
   have:aY S=S.data.toList:=rfl
   rw[this]
   simp only[Int.toNat_natCast]
   split
   ·assumption
   ·omega
  rw[e3]
  cases hx:JU (iO (aY S)) k s.2 0 with
  |none=>rw[hx]at h;cases h;exact .int _ _
  |some j=>rw[hx]at h;cases h;exact .int _ _
end
end
end
section
noncomputable section
def Uf {β:Type} (sz:Nat) (d:List GV->Option β) (n:Nat):List GV->Option (List β):=Nat.rec (motive:=fun _=>List GV->Option (List β)) (fun _=>some []) (fun _ ih cs=>ob (d (cs.take sz)) fun y=>ob (ih (cs.drop sz)) fun ys=>some (y::ys)) n
def AU {β:Type} (H:GH) (sz:Nat) (d:List GV->Option β) (v:GV):Option (List β):=ob (nW H sz v) fun p=>bif Nat.ble p.1 1099511627776 then Uf sz d p.1 p.2 else none
def dI (k:IntKind) (cs:List GV):Option Int:=List.casesOn (motive:=fun _=>Option Int) cs none fun c r=>List.casesOn (motive:=fun _=>Option Int) r (ob c.asI fun p=>bif decide (p.1=k)then some p.2 else none) fun _ _=>none
def dP {α β:Type} (n:Nat) (d:List GV->Option α) (e:List GV->Option β) (cs:List GV):Option (α×β):=ob (d (cs.take n)) fun x=>ob (e (cs.drop n)) fun y=>some (x,y)
def dS {β:Type} (H:GH) (sz:Nat) (d:List GV->Option β) (cs:List GV):Option (List β):=List.casesOn (motive:=fun _=>Option (List β)) cs none fun c r=>List.casesOn (motive:=fun _=>Option (List β)) r (AU H sz d c) fun _ _=>none
end
section
variable {P:Program} {gs:rK} {w0:cM gs} {w:World} {ρ:cS} {H:GH} {S:Nat->Prop}
def All (_:Nat):Prop:=True
def aV {α β:Type} (S:Nat->Prop) (ρ:cS) (w:World) (d:List GV->Option β) (r:eB α) (er:α->β):Prop:=∀gs vs y,mQ ρ gs vs->d gs=some y->gs.length=r.sz->∃z,er z=y∧r.R w S vs z
theorem aV.int (k:IntKind):aV S ρ w (dI k) (eB.int k) id:=fun gs vs y hr h _=>by
 cases gs with
 |nil=>cases h
 |cons c gs=>
 cases gs with
 |cons _ _=>cases h
 |nil=>
 obtain⟨p,hp,h⟩:=aB.1 (show ob c.asI _=some y from h)
 obtain⟨hk,h⟩:=bB.1 h
 cases h
 obtain⟨v,vs,rfl,hv,hr⟩:=hr.of_cons
 rw[hr.of_nil]
 rw[k_ hp]at hv
 rw[hv.int_inv]
 have hk:=of_decide_eq_true hk
 exact⟨p.2,rfl,by rw[hk];rfl⟩
theorem aV.pair {α β α' β':Type} {d:List GV->Option α'} {e:List GV->Option β'} {r:eB α} {s:eB β} {er:α->α'} {es:β->β'} (h1:aV S ρ w d r er) (h2:aV S ρ w e s es):aV S ρ w (dP r.sz d e) (eB.pair r s) (fun z=>(er z.1,es z.2)):=fun gs vs y hr h hl=>by
 obtain⟨x,hx,h⟩:=aB.1 (show ob (d (gs.take r.sz)) _=some y from h)
 obtain⟨x',hx',h⟩:=aB.1 h
 cases h
 have hl:gs.length=r.sz+s.sz:=hl
 have hv:=hr.len
 obtain⟨z,rfl,hz⟩:=h1 _ (vs.take r.sz) _ (by simpa using hr.sub 0 r.sz) hx (by simp;omega)
 obtain⟨z',rfl,hz'⟩:=h2 _ (vs.drop r.sz) _ ⟨by simp;omega,fun i g v hg hv'=>by rw[List.getElem?_drop]at hg hv';exact hr.at' _ _ _ hg hv'⟩ hx' (by simp;omega)
 exact⟨(z,z'),rfl,_,_,(List.take_append_drop r.sz vs).symm,hz,hz'⟩
theorem KM {α β:Type} {d:List GV->Option β} {r:eB α} {er:α->β} (hd:aV S ρ w d r er) (b:Nat):∀(n:Nat) (cs:List GV) (ns:List Value) (off:Nat) (ys:List β),Uf r.sz d n cs=some ys->mQ ρ cs ns->cs.length=n*r.sz->(∀(j:Nat) x,ns[j]? = some x->w.cell? ⟨b,off+j,none⟩=some x)->
  ∃zs:List α,zs.map er=ys∧zs.length=n∧∀(i:Nat) z,zs[i]? = some z->∃es,(∀(j:Nat) e,es[j]? = some e->w.cell? ⟨b,off+(i*r.sz+j),none⟩=some e)∧r.R w S es z
 |0,cs,ns,off,ys,h,hr,hl,hc=>by
  cases h
  exact⟨[],rfl,rfl,fun i z hz=>by simp at hz⟩
 | n + 1, cs, ns, off, ys, h, hr, hl, hc => by
  obtain⟨y,hy,h⟩:=aB.1 (show ob (d (cs.take r.sz)) (fun y=>ob (Uf r.sz d n (cs.drop r.sz)) fun ys=>some (y::ys))=some ys from h)
  obtain⟨ys',hys,h⟩:=aB.1 h
  cases h
  rw[Nat.succ_mul]at hl
  have hv:=hr.len
  obtain⟨z,rfl,hz⟩:=hd _ (ns.take r.sz) _ (by simpa using hr.sub 0 r.sz) hy (by simp;omega)
  obtain⟨zs,rfl,hzl,hzs⟩:=KM hd b n (cs.drop r.sz) (ns.drop r.sz) (off+r.sz) ys' hys ⟨by simp;omega,fun i g v hg hv'=>by rw[List.getElem?_drop]at hg hv';exact hr.at' _ _ _ hg hv'⟩ (by simp;omega) (fun j x hx=>by
   rw[List.getElem?_drop]at hx
   rw[Nat.add_assoc];exact hc _ _ hx)
  refine⟨z::zs,rfl,by simp[hzl],fun i z' hz'=> ?_⟩
  cases i with
  | zero =>
   simp at hz';subst hz'
   refine⟨_,fun j e he=> ?_,hz⟩
   rw[List.getElem?_take]at he
   by_cases hj:j<r.sz
   ·rw[if_pos hj]at he
    have:=hc j e he
    simpa using this
   ·rw[if_neg hj]at he;cases he
  |succ i=>
   simp at hz'
   obtain⟨es,h1,h2⟩:=hzs i z' hz'
   refine⟨es,fun j e he=> ?_,h2⟩
   have:=h1 j e he
   rw[Nat.succ_mul]
   rw[show off+(i*r.sz+r.sz+j)=off+r.sz+(i*r.sz+j) by omega]
   exact this
theorem H_ (R:dU w0 ρ H w) {v:GV} {V:Value} {sz:Nat} {p:Nat×List GV} (hv:Rl ρ v V) (h:nW H sz v=some p):
  p.2.length=p.1*sz∧∃a cap,V = .slice a p.1 cap∧p.1<=cap∧(p.1=0∨∃b off ns,a=some ⟨b,off,none⟩∧w0.mine b∧mQ ρ p.2 ns∧∀(j:Nat) x,ns[j]? = some x->w.cell? ⟨b,off+j,none⟩=some x):=by
 obtain⟨ns,C⟩:=wZ R hv h
 refine⟨by rw[C.rel.len,C.len],?_⟩
 obtain⟨base,cap,hV,hc,hh⟩:=C.val
 refine⟨base,cap,hV,hc,?_⟩
 rcases hh with⟨_,h0,_⟩|⟨A,rfl,hcell⟩
 ·exact .inl h0
 ·by_cases h0:p.1=0
  ·exact .inl h0
  ·refine .inr ?_
   unfold nW at h
   cases hz:v.isSnil with
   |true=>rw[hz]at h;cases h;exact absurd rfl h0
   | false =>
    rw[hz]at h
    obtain⟨s,hs,h⟩:=aB.1 (show ob v.asS _=some p from h)
    rw[vF hs,hV]at hv
    obtain⟨l,cap',A',hl,e,hc',ha⟩:=hv.sl_inv
    injection e with e1 e2 e3
    injection e1 with e1
    rcases ha with ha|⟨ha,_⟩
    ·omega
    ·rw[ha]at e1
     subst e1
     have hm:w0.mine l.b:=by
      obtain⟨_,h⟩:=bB.1 h
      obtain⟨cs,hcs,_⟩:=aB.1 h
      obtain⟨l',hl',hm,_⟩:=R.live _ _ (fD.1 hcs)
      rw[hl]at hl';cases hl';exact hm
     exact⟨l.b,l.off+s.2.1,ns,rfl,hm,C.rel,fun j x hx=>by have:=hcell j x hx;rwa[dJ]at this⟩
theorem nX {α β:Type} {d:List GV->Option β} {r:eB α} {er:α->β} (R:dU w0 ρ H w) (hS:∀k,w0.mine k->S k) (hd:aV S ρ w d r er) {v:GV} {V:Value} {ys:List β} (hv:Rl ρ v V) (h:AU H r.sz d v=some ys):∃zs:List α,zs.map er=ys∧yF r w S V zs:=by
 obtain⟨p,hp,h⟩:=aB.1 (show ob (nW H r.sz v) _=some ys from h)
 obtain⟨hle,h⟩:=bB.1 h
 have hle:p.1<=1099511627776:=by simpa using hle
 obtain⟨hlen,a,cap,rfl,hc,hh⟩:=H_ R hv hp
 rcases hh with h0|⟨b,off,ns,rfl,hm,hr,hcell⟩
 ·rw[h0]at h;cases h
  exact⟨[],rfl,a,cap,by rw[h0];rfl,by simp,.inl rfl⟩
 ·obtain⟨zs,rfl,hl,hz⟩:=KM hd b p.1 p.2 ns off ys h hr hlen hcell
  exact⟨zs,rfl,some ⟨b,off,none⟩,cap,by rw[hl],by rw[hl];omega,.inr ⟨b,off,rfl,hS b hm,hz⟩⟩
theorem aV.sl {α β:Type} {d:List GV->Option β} {r:eB α} {er:α->β} (R:dU w0 ρ H w) (hS:∀k,w0.mine k->S k) (hd:aV S ρ w d r er):aV S ρ w (dS H r.sz d) (eB.sl r) (fun z=>z.2.map er):=fun gs vs y hr h hl=>by
 cases gs with
 |nil=>cases h
 |cons c gs=>
 cases gs with
 |cons _ _=>cases h
 |nil=>
 have h:AU H r.sz d c=some y:=h
 obtain⟨v,vs,rfl,hv,hr⟩:=hr.of_cons
 rw[hr.of_nil]
 obtain⟨zs,rfl,hz⟩:=nX R hS hd hv h
 exact⟨(v,zs),rfl,rfl,hz⟩
end
end
section
noncomputable section
section
variable {α R:Type}
def a0 (us:List α) (k:Option R):Option R:=List.casesOn (motive:=fun _=>Option R) us k (fun _ _=>none)
def a1 (us:List α) (k:α->Option R):Option R:=List.casesOn (motive:=fun _=>Option R) us none fun a r=>a0 r (k a)
def a2 (us:List α) (k:α->α->Option R):Option R:=List.casesOn (motive:=fun _=>Option R) us none fun a r=>a1 r (k a)
def a3 (us:List α) (k:α->α->α->Option R):Option R:=List.casesOn (motive:=fun _=>Option R) us none fun a r=>a2 r (k a)
def a4 (us:List α) (k:α->α->α->α->Option R):Option R:=List.casesOn (motive:=fun _=>Option R) us none fun a r=>a3 r (k a)
def a5 (us:List α) (k:α->α->α->α->α->Option R):Option R:=List.casesOn (motive:=fun _=>Option R) us none fun a r=>a4 r (k a)
def a6 (us:List α) (k:α->α->α->α->α->α->Option R):Option R:=List.casesOn (motive:=fun _=>Option R) us none fun a r=>a5 r (k a)
end
end
section
variable {P:Program} {gs:rK} {w0:cM gs} {w:World} {ρ:cS} {H H':GH} {g:GV}
theorem mQ.one {x:GV} {vs:List Value} (h:mQ ρ [x] vs):∃V,vs=[V]∧Rl ρ x V:=by
 obtain⟨v,vs,rfl,h1,h2⟩:=h.of_cons
 rw[h2.of_nil];exact⟨v,rfl,h1⟩
theorem Um (w:World) (S:Nat->Prop) (_:∀h∈([]:List aP),h.p w S):∃_:Nat,xR Qn w fun _=>False:=⟨0,fun _ h=>absurd h List.not_mem_nil⟩
theorem GZ {gs:Nat->rK} {f:Nat} {V:Value} {L:List aP} (hL:∀w S,(∀h∈L,h.p w S)->∃T,xR (gs T) w fun _=>False) (hb:aZ P f) (hv:∀ρ V',Rl ρ g V'->V'=V) (h:∀T (b:cM (gs T)),kM P b (fun _=>none) f [] b.w g H'):bA P f #[] L (fun _:Unit=>V) (fun _ l=>l) (fun _ l=>l):=by
 intro w0 S0 hw
 obtain⟨T,hT⟩:=hL w0 S0 hw
 rcases h T (.of w0 hT)with⟨v,w',ρ',hr,_⟩|⟨_,hc⟩
 ·have hq:=hb #[] w0
  rw[show([]:List Value).toArray = #[]from rfl]at hr
  rw[show(cM.of w0 hT).w=w0 from rfl,hq]at hr;cases hr
 refine hc.mono ?_
 rintro e w' ⟨v,ρ',rfl,_,R,hr⟩
 exact⟨(),by rw[hv _ _ hr],R.ext,fun _ _=>False,⟨fun i m hm=>by simp at hm,fun i k h=>h.elim,fun i j k h=>h.elim⟩,fun f hf=>by simp at hf⟩
section
variable {tb:TB} {T:TypeId}
theorem Ky (h:vR tb T=some [q_]) (H:GH):bY tb T H=some (.ptr H.n 0,H.new (.cells [q_])):=by
 unfold bY
 rw[h]
 show H.newK (.cells [q_]) (fun h H'=>some (GV.ptr h 0,H'))=_
 rw[gY]
theorem Ls {t:Ty} (h:tb T=some t) (hs:t.size=1) (H:GH) (k:Nat) (c:GV) (hc:GH.cells H k=some [c]):aW tb T (.ptr k 0) q_ H=some (.un,H.set k (.cells [q_])):=by
 show ob (H.cells k) (fun cs=>ob (tb T) fun t=>bif Nat.beq 1 t.size then bif Nat.beq t.size 0 then none else ob (Bw [q_] 0 cs) fun cs'=>H.setK k (.cells cs') fun H'=>some (GV.un,H')else none)=_
 rw[hc,h]
 show(bif Nat.beq 1 t.size then bif Nat.beq t.size 0 then none else ob (Bw [q_] 0 [c]) fun cs'=>H.setK k (.cells cs') fun H'=>some (GV.un,H')else none)=_
 rw[hs]
 show H.setK k (.cells [q_]) (fun H'=>some (GV.un,H'))=_
 rw[rJ]
theorem Oy {t:Ty} (h:tb T=some t) (ha:sN t.desc=false) (H:GH) (k:Nat) (hc:GH.cells H k=some [q_]):bQ tb T (.ptr k 0) H=some q_:=by
 show ob (H.cells k) (fun cs=>ob (tb T) fun t=>u_ t cs 0)=_
 rw[hc,h]
 show u_ t [q_] 0=_
 unfold u_
 rw[ha];rfl
end
def GE (fn:Func):List Oper:=match fn.body with
 |some (.seq (.region _ ops _) _)=>ops.toList
 |_=>[]
def NL (fn:Func):Code:=match fn.body with
 |some (.seq _ c)=>c
 |_=> .skip
def Rh (fn:Func):Nat:=match GE fn with
 |o::_=>o.dst.getD 0
 | []=>0
def okN (r:RS):Bool:=match r with
 |some o=>match o.e with
  | .normal=>true
  |_=>false
 |none=>false
theorem OT {r:RS} (h:okN r=true):∃out,r=some out∧out.e = .normal:=by
 unfold okN at h
 cases r with
 |none=>cases h
 |some o=>
  refine⟨o,rfl,?_⟩
  cases he:o.e<;>simp only[he]at h<;>first|rfl|cases h
def X_ (r:OR):Bool:=match r with
 |some (.bool true,_)=>true
 |_=>false
theorem OU {r:OR} (h:X_ r=true):∃H',r=some (.bool true,H'):=by
 unfold X_ at h
 split at h
 ·exact⟨_,rfl⟩
 ·cases h
end
end
end Go.Gx
end
section
set_option maxRecDepth 100000
namespace Go.Gx
open Go Go.Sx Go.Proofs Go.Proofs.YtlciiihigmgaiaaGreat
noncomputable section
def Oh (f:Nat) (us:List GV) (H:GH):Option (GV×GH):=none
abbrev gl:Nat->rK:=fun _:Nat=>Qn
def gp:GP:=⟨oK,52,Oh,Og 169⟩
section
variable {T:Nat} {w0:cM (gl T)} {w:World} {ρ:cS} {H H':GH} {g:GV} {us:List GV} {vs:List Value}
theorem GN {f:Nat} (h:Oh f us H=some (g,H')) (R:dU w0 ρ H w) (hr:mQ ρ us vs):kM Tryz.prog w0 ρ f vs w g H':=by
 unfold Oh at h
 cases h
end
theorem Uk:VB Tryz.prog oK=true:=by kernel_rfl
theorem Dv:dK Tryz.prog oK:=⟨IT,Uj Uk⟩
theorem UM {gs:rK} (w0:cM gs):nD Tryz.prog w0 (FC oK 86 Tryz.f86):=NN Dv mixedOrders Tryz.func86 Tryz.call86 (by kernel_rfl)
theorem Ug (args:Array Value) (w:World) (hs:args.size=2):CallsDIn (FR none) 0 Tryz.prog 85 args .returning w fun e u' w'=>∃v,e = .returned v∧u' = .returning∧CG w w':=by
 obtain⟨out,h,he⟩:=OT (r:=AI oK (FC oK 86 Tryz.f86) (GE Tryz.f85) (Rn oK (FC oK 86 Tryz.f86) (fun _ _ _ _=>none) (NL Tryz.f85) 0 ⟨[],0,[]⟩ (BG [])) (GE Tryz.f85).tail ⟨[(Rh Tryz.f85,.inil)],H0⟩) (by kernel_rfl)
 exact LX (ch:=FC oK 86 Tryz.f86) (lp:=fun _ _ _ _=>none) Dv mixedOrders UM CR Tryz.func85 rfl rfl rfl (by decide +kernel) (fun ρ w=>by simp[execOp,resolve,invoke,builtin]) (by kernel_rfl) (by kernel_rfl) rfl (by rw[hs];decide +kernel) h he
theorem VF {gs:rK} {ext:FuncId->List GV->GH->Option (GV×GH)} (hx:∀(w0:cM gs) {f us H g H'},ext f us H=some (g,H')->∀ρ w vs,dU w0 ρ H w->mQ ρ us vs->kM Tryz.prog w0 ρ f vs w g H') (w0:cM gs):Jg Tryz.prog ⟨oK,52,ext,Og 169⟩ sR.fns w0:=by
 refine⟨Dv,mixedOrders,fun h=> ?_,hx w0,fun h ρ w vs H R hr=>Rv Tryz.func169 rfl rfl rfl rfl h ρ w vs H R hr,fun R hc h1 h2=> ?_⟩
 ·obtain⟨e,he,h⟩:=aB.1 (show ob (Lm _) _=some _ from h)
  cases h
  obtain⟨q1,q2,q3⟩:=Pv he
  exact⟨q1,q2,Iw q3⟩
 ·exact Ub (tb:=oK) (T1:=3) (T2:=37) (cc:=85) Dv Tryz.func52 Tryz.call52 Tryz.call85 rfl rfl rfl (Ky (by kernel_rfl)) (Ky (by kernel_rfl)) (Ls rfl rfl) (Ls rfl rfl) (Oy rfl rfl) (Oy rfl rfl) Ug R hc h1 h2
theorem EW {T:Nat} (w0:cM (gl T)):Jg Tryz.prog gp sR.fns w0:=VF (fun w0 f us H g H' h ρ w vs R hr=>GN h R hr) w0
def Ic:GP:=⟨oK,52,fun _ _ _=>none,Og 169⟩
theorem GQ (w0:cM Qn):Jg Tryz.prog Ic sR.fns w0:=VF (fun w0 f us H g H' h=>by cases h) w0
end
end Go.Gx
end
section
namespace Go.Gx
open Go Go.Sx Go.RowKit
mutual
def zE (k:Nat):GV->GV
 | .ptr h o=> .ptr (k+h) o
 | .sl h o l s=> .sl (k+h) o l s
 | .map h=> .map (k+h)
 | .fn f a b=> .fn f (MQ k a) (MQ k b)
 | .agg cs=> .agg (MQ k cs)
 | .tup vs=> .tup (MQ k vs)
 | .int a b=> .int a b
 | .bool b=> .bool b
 | .str a b=> .str a b
 | .pnil=> .pnil
 | .snil=> .snil
 | .fnil=> .fnil
 | .inil=> .inil
 | .un=> .un
 | .bad=> .bad
 | .opn h=> .opn (k+h)
def MQ (k:Nat):List GV->List GV
 | []=>[]
 |v::r=>zE k v::MQ k r
end
theorem Hk (k:Nat):∀(l:List GV) (i:Nat),(MQ k l)[i]? = (l[i]?).map (zE k)
 | [],i=>rfl
 |v::r,0=>rfl
 |v::r,i+1=>by simpa [MQ]using Hk k r i
theorem As (k:Nat):∀(l:List GV),(MQ k l).length=l.length
 | []=>rfl
 |v::r=>by simp[MQ,As k r]
def PC (k:Nat):GO->GO
 | .cells cs=> .cells (MQ k cs)
 | .mp es=> .mp (es.map fun e=>(zE k e.1,zE k e.2))
def uE (k:Nat) (l:Fq):Fq:={l with o:=PC k l.o}
theorem Rl.shift {ρ ρ':cS} {k:Nat} (hρ:∀h l,ρ h=some l->ρ' (k+h)=some (uE k l)) {g:GV} {v:Value} (h:Rl ρ g v):Rl ρ' (zE k g) v:=by
 have lst:∀{us:List GV} {us':iN},(∀(i:Nat) g v,us[i]? = some g->us'[i]? = some v->Rl ρ' (zE k g) v)->∀(i:Nat) g v,(MQ k us)[i]? = some g->us'[i]? = some v->Rl ρ' g v:=by
  intro us us' hh i g v hg hv
  rw[Hk]at hg
  obtain⟨g0,h0,rfl⟩:=Option.map_eq_some_iff.1 hg
  exact hh i g0 v h0 hv
 induction h with
 |int a n=>simp only[zE];exact .int a n
 |bool b=>simp only[zE];exact .bool b
 |str s=>simp only[zE];exact .str s
 |ptr off h=>simp only[zE];exact .ptr (l:=uE k _) off (hρ _ _ h)
 |pnil=>simp only[zE];exact .pnil
 |sl h hc ha=>simp only[zE];exact .sl (l:=uE k _) (hρ _ _ h) hc ha
 |snil=>simp only[zE];exact .snil
 |map h=>simp only[zE];exact .map (l:=uE k _) (hρ _ _ h)
 |fn f h1 h2 h3 h4 ih2 ih4=>simp only[zE];exact .fn f (by rw[As];exact h1) (lst ih2) (by rw[As];exact h3) (lst ih4)
 |fnil=>simp only[zE];exact .fnil
 |inil=>simp only[zE];exact .inil
 |agg h1 h2 h3 ih=>simp only[zE];exact .agg (by rw[As];exact h1) (lst ih) h3
 |tup h1 h2 ih=>simp only[zE];exact .tup (by rw[As];exact h1) (lst ih)
 |un=>simp only[zE];exact .un
 |bad v=>simp only[zE];exact .bad v
 |opn v h hx=>simp only[zE];exact .opn (l:=uE k _) v (hρ _ _ h) hx
abbrev OL:=List (Nat×Nat×GO)
def Mn:OL->Nat->Option (Nat×GO)
 | [],_=>none
 |x::r,h=>if h=x.1 then some x.2 else Mn r h
theorem BB {os:OL} {h:Nat} {p:Nat×GO} (hl:Mn os h=some p):(h,p)∈os:=by
 induction os with
 |nil=>cases hl
 |cons x r ih=>
  simp only[Mn]at hl
  split at hl
  ·rename_i e;cases hl;subst e;exact List.mem_cons_self
  ·exact List.mem_cons_of_mem _ (ih hl)
noncomputable def Ez (k:Nat) (t:Tr (Nat×GO)):OL->Tr (Nat×GO)
 | []=>t
 |x::r=>(Ez k t r).set (some (k+x.2.1,PC k x.2.2)) (k+x.1)
noncomputable def IG:OL->Tr (Nat×GO)
 | []=> .lf
 |x::r=>(IG r).set (some x.2) x.1
theorem uC:∀(os:OL) (h:Nat),(IG os).get h=Mn os h
 | [],h=>rfl
 |x::r,h=>by
  show((IG r).set (some x.2) x.1).get h=_
  rw[nH]
  simp only[Mn]
  split
  ·rfl
  ·exact uC r h
theorem EA (k:Nat) (t:Tr (Nat×GO)):∀(os:OL) (h:Nat),(Ez k t os).get h=if k<=h then(match Mn os (h - k)with|some p=>some (k+p.1,PC k p.2)|none=>t.get h)else t.get h
 | [],h=>by simp[Ez,Mn]
 | x :: r, h => by
  show((Ez k t r).set (some (k+x.2.1,PC k x.2.2)) (k+x.1)).get h=_
  rw[nH,EA k t r h]
  by_cases e:h=k+x.1
  ·subst e
   rw[if_pos rfl,if_pos (by omega)]
   simp[Mn]
  ·rw[if_neg e]
   by_cases hk:k<=h
   ·rw[if_pos hk,if_pos hk]
    simp only[Mn]
    rw[if_neg (show¬h - k=x.1 by omega)]
   ·rw[if_neg hk,if_neg hk]
noncomputable def oD (n:Nat) (os:OL):GH:=⟨n,IG os⟩
noncomputable def GH.load (H:GH) (n:Nat) (os:OL):GH:=⟨H.n+n,Ez H.n H.t os⟩
section
variable {gs:rK} {w0:cM gs} {w w':World} {ρ ρ2:cS} {H:GH} {n:Nat} {os:OL}
theorem eD {H:GH} {h:Nat} {o:GO}:H.get h=some o↔∃v,H.t.get h=some (v,o):=by
 unfold GH.get
 cases hh:H.t.get h with
 |none=>simp[ob]
 |some p=>obtain⟨a,b⟩:=p;simp[ob]
theorem lY {H:GH} {h v:Nat}:H.ver h=some v↔∃o,H.t.get h=some (v,o):=by
 unfold GH.ver
 cases hh:H.t.get h with
 |none=>simp[ob]
 |some p=>obtain⟨a,b⟩:=p;simp[ob]
theorem dU.sub {H2:GH} (R:dU w0 ρ H w) (hn:H2.n=H.n) (hs:∀h p,H2.t.get h=some p->H.t.get h=some p):dU w0 ρ H2 w:=by
 have g:∀h o,H2.get h=some o->H.get h=some o:=fun h o hg=>by
  obtain⟨v,hv⟩:=eD.1 hg
  exact eD.2 ⟨v,hs _ _ hv⟩
 refine⟨R.ext,fun h o hg=>R.live h o (g h o hg),fun h h' o o' l l' h1 h2=>R.inj h h' o o' l l' (g _ _ h1) (g _ _ h2),fun h hh=>R.fresh h (by omega),fun h hh=>R.dense h (by omega),fun h v l hv hl=> ?_,R.env⟩
 obtain⟨o,ho⟩:=lY.1 hv
 obtain⟨lv,a,b,c⟩:=R.vers h v l (lY.2 ⟨o,hs _ _ ho⟩) hl
 refine⟨lv,a,b,?_⟩
 have h1:=eD.2 ⟨v,ho⟩
 have h2:=g _ _ h1
 rw[c]at h2;cases h2;exact h1
theorem rB.shift {l:Fq} {o:GO} {ρ':cS} {k:Nat} (hρ:∀h l,ρ2 h=some l->ρ' (k+h)=some (uE k l)) (h:rB ρ2 w l o):rB ρ' w (uE k l) (PC k o):=by
 cases o with
 |cells cs=>
  obtain⟨cur,T,h1,h2,h3,h4⟩:=h
  refine⟨cur,T,h1,h2,by rw[As];exact h3,fun i g hg=> ?_⟩
  rw[Hk]at hg
  obtain⟨g0,h0,rfl⟩:=Option.map_eq_some_iff.1 hg
  obtain⟨v,a,b,c⟩:=h4 i g0 h0
  exact⟨v,a,b.shift hρ,c⟩
 |mp es=>
  obtain⟨en,cl,h1,h2,h3⟩:=h
  refine⟨en,cl,h1,by simpa [PC]using h2,fun i g hg=> ?_⟩
  rw[List.getElem?_map]at hg
  obtain⟨g0,h0,rfl⟩:=Option.map_eq_some_iff.1 hg
  obtain⟨m,a,b,c⟩:=h3 i g0 h0
  exact⟨m,a,b.shift hρ,c.shift hρ⟩
theorem dU.join {gs2:rK} {hb:xR gs2 w fun _=>False} (R:dU w0 ρ H w) (R2:dU (cM.of w hb) ρ2 (oD n os) w'):
  ∃ρ':cS,ρ.le ρ'∧dU w0 ρ' (H.load n os) w'∧∀g v,Rl ρ2 g v->Rl ρ' (zE H.n g) v:=by
 let ρ':cS:=fun h=>if h<H.n then ρ h else(ρ2 (h - H.n)).map (uE H.n)
 have hle:ρ.le ρ':=fun h l hl=>by
  have hlt:h<H.n:=by
   rcases Nat.lt_or_ge h H.n with q|q
   ·exact q
   ·rw[R.fresh h q]at hl;cases hl
  show(if h<H.n then ρ h else _)=_
  rw[if_pos hlt];exact hl
 have hsh:∀h l,ρ2 h=some l->ρ' (H.n+h)=some (uE H.n l):=fun h l hl=>by
  show(if H.n+h<H.n then _ else _)=_
  rw[if_neg (by omega),show H.n+h - H.n=h by omega,hl];rfl
 have hlow:∀h,h<H.n->ρ' h=ρ h:=fun h hh=>by show(if h<H.n then ρ h else _)=_;rw[if_pos hh]
 have hhigh:∀h,H.n<=h->ρ' h=(ρ2 (h - H.n)).map (uE H.n):=fun h hh=>by show(if h<H.n then ρ h else _)=_;rw[if_neg (by omega)]
 have hnone:∀h,H.n<=h->H.t.get h=none:=fun h hh=>by
  cases hg:H.t.get h with
  |none=>rfl
  |some p=>exact absurd (R.lt (eD.2 ⟨p.1,hg⟩)) (by omega)
 have gl:∀h,h<H.n->(H.load n os).t.get h=H.t.get h:=fun h hh=>by
  show(Ez H.n H.t os).get h=_
  rw[EA,if_neg (by omega)]
 have gh:∀h p,H.n<=h->(H.load n os).t.get h=some p->∃p2,(oD n os).t.get (h - H.n)=some p2∧p=(H.n+p2.1,PC H.n p2.2):=fun h p hh hp=>by
  have hp':(Ez H.n H.t os).get h=some p:=hp
  rw[EA,if_pos hh,hnone h hh]at hp'
  cases hk:Mn os (h - H.n)with
  |none=>rw[hk]at hp';cases hp'
  |some p2=>rw[hk]at hp';cases hp';exact⟨p2,(uC os _).trans hk,rfl⟩
 have e2:CG w w':=R2.ext.ext
 have mine2:∀l:Fq,(cM.of w hb).mine l.b->w.heap.size<=l.b:=fun l h=>by
  rcases h with h|h
  ·exact h
  ·exact h.elim
 have liveL:∀h o,h<H.n->(H.load n os).get h=some o->∃l,ρ h=some l∧w0.mine l.b∧rB ρ w l o∧H.get h=some o:=fun h o hh hg=>by
  obtain⟨v,hv⟩:=eD.1 hg
  rw[gl h hh]at hv
  have hg':=eD.2 ⟨v,hv⟩
  obtain⟨l,a,b,c⟩:=R.live h o hg'
  exact⟨l,a,b,c,hg'⟩
 have liveH:∀h o,H.n<=h->(H.load n os).get h=some o->∃l o2,ρ2 (h - H.n)=some l∧w.heap.size<=l.b∧rB ρ2 w' l o2∧o=PC H.n o2∧(oD n os).get (h - H.n)=some o2:=fun h o hh hg=>by
  obtain⟨v,hv⟩:=eD.1 hg
  obtain⟨p2,h2,e⟩:=gh h _ hh hv
  cases e
  have hg':(oD n os).get (h - H.n)=some p2.2:=eD.2 ⟨p2.1,h2⟩
  obtain⟨l,a,b,c⟩:=R2.live _ _ hg'
  exact⟨l,p2.2,a,mine2 l b,c,rfl,hg'⟩
 refine⟨ρ',hle,⟨R.ext.trans e2,fun h o hg=> ?_,fun h h' o o' l l' h1 h2 hl hl' hbb=> ?_,fun h hh=> ?_,fun h hh=> ?_,fun h v l hv hl=> ?_,fun i v e=>let ⟨l,a,b⟩:=R.env i v e;⟨l,hle _ _ a,b⟩⟩,fun g v hg=>hg.shift hsh⟩
 ·rcases Nat.lt_or_ge h H.n with q|q
  ·obtain⟨l,a,b,c,_⟩:=liveL h o q hg
   exact⟨l,by rw[hlow h q];exact a,b,c.move hle (e2.block _ c.lt)⟩
  ·obtain⟨l,o2,a,b,c,rfl,_⟩:=liveH h o q hg
   exact⟨uE H.n l,by rw[hhigh h q,a];rfl,.inl (Nat.le_trans R.ext.size b),c.shift hsh⟩
 ·rcases Nat.lt_or_ge h H.n with q|q<;>rcases Nat.lt_or_ge h' H.n with q'|q'
  ·obtain⟨l1,a1,_,_,g1⟩:=liveL h o q h1
   obtain⟨l2,a2,_,_,g2⟩:=liveL h' o' q' h2
   rw[hlow h q,a1]at hl;rw[hlow h' q',a2]at hl'
   cases hl;cases hl'
   exact R.inj h h' o o' _ _ g1 g2 a1 a2 hbb
  ·obtain⟨l1,a1,_,c1,g1⟩:=liveL h o q h1
   obtain⟨l2,o2,a2,b2,_,rfl,g2⟩:=liveH h' o' q' h2
   rw[hlow h q,a1]at hl;rw[hhigh h' q',a2]at hl'
   cases hl;cases hl'
   have:=c1.lt
   simp only[uE]at hbb
   omega
  ·obtain⟨l1,o1,a1,b1,_,rfl,g1⟩:=liveH h o q h1
   obtain⟨l2,a2,_,c2,g2⟩:=liveL h' o' q' h2
   rw[hhigh h q,a1]at hl;rw[hlow h' q',a2]at hl'
   cases hl;cases hl'
   have:=c2.lt
   simp only[uE]at hbb
   omega
  ·obtain⟨l1,o1,a1,b1,_,rfl,g1⟩:=liveH h o q h1
   obtain⟨l2,o2,a2,b2,_,rfl,g2⟩:=liveH h' o' q' h2
   rw[hhigh h q,a1]at hl;rw[hhigh h' q',a2]at hl'
   cases hl;cases hl'
   have:=R2.inj _ _ _ _ _ _ g1 g2 a1 a2 hbb
   omega
 ·have hh':H.n+n<=h:=hh
  rw[hhigh h (by omega),R2.fresh (h - H.n) (by show n<=_;omega)];rfl
 ·have hh':h<H.n+n:=hh
  rcases Nat.lt_or_ge h H.n with q|q
  ·obtain⟨l,hl⟩:=R.dense h q
   exact⟨l,by rw[hlow h q];exact hl⟩
  ·obtain⟨l,hl⟩:=R2.dense (h - H.n) (by show _<n;omega)
   exact⟨uE H.n l,by rw[hhigh h q,hl];rfl⟩
 ·obtain⟨o,ho⟩:=lY.1 hv
  rcases Nat.lt_or_ge h H.n with q|q
  ·rw[gl h q]at ho
   rw[hlow h q]at hl
   obtain⟨lv,a,b,c⟩:=R.vers h v l (lY.2 ⟨o,ho⟩) hl
   have hg:=eD.2 ⟨v,ho⟩
   obtain⟨l',hl',_,ck⟩:=R.live h o hg
   rw[hl]at hl';cases hl'
   refine⟨lv,hle _ _ a,by rw[e2.block _ ck.lt];exact b,?_⟩
   obtain⟨v2,hv2⟩:=eD.1 c
   exact eD.2 ⟨v2,by rw[gl h q];exact hv2⟩
  ·obtain⟨p2,h2,e⟩:=gh h _ q ho
   cases e
   rw[hhigh h q]at hl
   obtain⟨l2,hl2,rfl⟩:=Option.map_eq_some_iff.1 hl
   obtain⟨lv,a,b,c⟩:=R2.vers (h - H.n) p2.1 l2 (lY.2 ⟨p2.2,h2⟩) hl2
   refine⟨uE H.n lv,hsh _ _ a,b,?_⟩
   have h3:(oD n os).get (h - H.n)=some p2.2:=eD.2 ⟨p2.1,h2⟩
   rw[c]at h3
   have h4:=Option.some.inj h3
   exact eD.2 ⟨_,by rw[ho,<-h4];rfl⟩
end
theorem NZ {a b:Nat×Nat} (h:Jh a b=true):a=b:=by
 obtain⟨a1,a2⟩:=a
 obtain⟨b1,b2⟩:=b
 unfold Jh at h
 cases h2:Nat.beq a2 b2 with
 |false=>simp[h2]at h
 |true=>
  simp only[h2,cond_true]at h
  rw[Nat.eq_of_beq_eq_true h,Nat.eq_of_beq_eq_true h2]
theorem zB {ρ:cS} {n l:Nat} {x:ByteArray} (e1:n=iO (aY x)) (e2:l=(aY x).length):Rl ρ (.str n l) (.string x):=by
 rw[e1,e2];exact .str x
def Om (us:List GV) (p:Nat×Nat):Bool:=List.casesOn (motive:=fun _=>Bool) us false fun u r=>List.casesOn (motive:=fun _=>Bool) r (Option.casesOn (motive:=fun _=>Bool) (GV.asStr u) false fun s=>Jh s p) fun _ _=>false
theorem GU {us:List GV} {p:Nat×Nat} (h:Om us p=true):us=[.str p.1 p.2]:=by
 cases us with
 |nil=>cases h
 | cons u r =>
  cases r with
  |cons _ _=>cases h
  | nil =>
   cases hu:GV.asStr u with
   |none=>simp[Om,hu]at h
   |some s=>
    have:Jh s p=true:=by simpa [Om,hu]using h
    rw[lL hu,NZ this]
noncomputable section
def Lh (H:GH) (hs:List Nat):Option OL:=List.rec (motive:=fun _=>Option OL) (some []) (fun h _ ih=>ob (H.t.get h) fun p=>ob ih fun r=>some ((h,p.1,p.2)::r)) hs
theorem Aj {H:GH}:∀{hs:List Nat} {os:OL},Lh H hs=some os->∀x∈os,H.t.get x.1=some x.2
 | [],os,h,x,hx=>by cases h;cases hx
 |h0::hs,os,h,x,hx=>by
  obtain⟨p,hp,h⟩:=aB.1 (show ob (H.t.get h0) (fun p=>ob (Lh H hs) fun r=>some ((h0,p.1,p.2)::r))=some os from h)
  obtain⟨r,hr,h⟩:=aB.1 h
  cases h
  rcases List.mem_cons.1 hx with rfl|hx
  ·exact hp
  ·exact Aj hr x hx
def FX (T:Az) (G:GP) (fuel f:Nat) (us:List GV) (hs:List Nat):Option (GV×Nat×OL):=ob (tS T G fuel f us H0) fun r=>ob (Lh r.2 hs) fun os=>some (r.1,r.2.n,os)
def Wm {R:Type} (k:Nat) (v:GV) (f:GV->R):R:=GV.casesOn (motive_1:=fun _=>R) v (fun a b=>f (.int a b)) (fun b=>f (.bool b)) (fun a b=>f (.str a b)) (fun h o=>sn (Nat.add k h) fun h=>f (.ptr h o)) (f .pnil) (fun h o l s=>sn (Nat.add k h) fun h=>f (.sl h o l s)) (f .snil) (fun h=>sn (Nat.add k h) fun h=>f (.map h)) (fun a b c=>f (zE k (.fn a b c))) (f .fnil) (f .inil) (fun cs=>f (zE k (.agg cs))) (fun vs=>f (zE k (.tup vs))) (f .un) (f .bad) (fun h=>sn (Nat.add k h) fun h=>f (.opn h))
theorem Pz {R:Type} (k:Nat) (v:GV) (f:GV->R):Wm k v f=f (zE k v):=by
 cases v<;>simp[Wm,rE,zE]
def UR {R:Type} (k:Nat) (l:List GV):(List GV->R)->R:=List.rec (motive:=fun _=>(List GV->R)->R) (fun f=>f []) (fun x _ ih f=>Wm k x fun y=>ih fun r=>f (y::r)) l
theorem Lq {R:Type} (k:Nat):∀(l:List GV) (f:List GV->R),UR k l f=f (MQ k l)
 | [],f=>rfl
 |x::l,f=>by
  show Wm k x (fun y=>UR k l fun r=>f (y::r))=_
  rw[Pz,Lq k l];rfl
def US {R:Type} (k:Nat) (o:GO) (f:GO->R):R:=GO.casesOn (motive:=fun _=>R) o (fun cs=>UR k cs fun cs=>f (.cells cs)) (fun es=>f (PC k (.mp es)))
theorem Ss {R:Type} (k:Nat) (o:GO) (f:GO->R):US k o f=f (PC k o):=by
 cases o with
 |cells cs=>exact Lq k cs _
 |mp es=>rfl
def UL {R:Type} (k:Nat) (t:Tr (Nat×GO)) (os:OL):(Tr (Nat×GO)->R)->R:=List.rec (motive:=fun _=>(Tr (Nat×GO)->R)->R) (fun f=>f t) (fun x _ ih f=>ih fun t=>sn (Nat.add k x.2.1) fun v=>sn (Nat.add k x.1) fun h=>US k x.2.2 fun o=>t.setK (some (v,o)) h f) os
theorem Lj {R:Type} (k:Nat) (t:Tr (Nat×GO)):∀(os:OL) (f:Tr (Nat×GO)->R),UL k t os f=f (Ez k t os)
 | [],f=>rfl
 |x::os,f=>by
  show UL k t os (fun t=>sn (Nat.add k x.2.1) fun v=>sn (Nat.add k x.1) fun h=>US k x.2.2 fun o=>t.setK (some (v,o)) h f)=_
  rw[Lj k t os]
  simp only[rE,Ss,wU];rfl
def Ep (g:GV) (n:Nat) (os:OL) (H:GH):Option (GV×GH):=sn H.n fun k=>Wm k g fun g=>UL k H.t os fun t=>sn (Nat.add k n) fun m=>some (g,⟨m,t⟩)
theorem OI (g:GV) (n:Nat) (os:OL) (H:GH):Ep g n os H=some (zE H.n g,H.load n os):=by
 unfold Ep
 simp only[rE,Pz,Lj];rfl
theorem Dr {P:Program} {T:Az} {G:GP} {gs gs2:rK} (hobs:gs2.obs=gs.obs) (henv:gs2.env=[]) (hT:BY T G.tab) (hG:∀w0:cM gs2,Jg P G T.fns w0) {fuel f n:Nat} {us:List GV} {vs:List Value} {hs:List Nat} {g:GV} {os:OL} (hm:FX T G fuel f us hs=some (g,n,os)) (hb:aZ P f)
  {w0:cM gs} {w:World} {ρ:cS} {H H':GH} {g':GV} (hv:mQ (fun _=>none) us vs) (h:Ep g n os H=some (g',H')) (R:dU w0 ρ H w):kM P w0 ρ f vs w g' H':=by
 rw[OI]at h;cases h
 obtain⟨r,hr,hm⟩:=aB.1 (show ob (tS T G fuel f us H0) _=some (g,n,os)from hm)
 obtain⟨os',hos,hm⟩:=aB.1 hm
 cases hm
 rw[nK hT]at hr
 have hgl:xR gs2 w fun _=>False:=fun p hp=>⟨(R.glo p (hobs▸hp)).1,id⟩
 rcases yM hG (H':=r.2) (g:=r.1) hr (dU.start (cM.of w hgl) henv) hv with⟨v,w',ρ',hr',_⟩|⟨_,hc⟩
 ·have:=hb vs.toArray w
  rw[show(cM.of w hgl).w=w from rfl,this]at hr';cases hr'
 ·refine .inr ⟨hb _ w,hc.mono ?_⟩
  rintro e w' ⟨v,ρ2,rfl,_,R2,hr2⟩
  have R3:dU (cM.of w hgl) ρ2 (oD r.2.n os) w':=R2.sub rfl fun h p hp=>by
   have:Mn os h=some p:=(uC os h).symm.trans hp
   exact Aj hos _ (BB this)
  obtain⟨ρ',hle,R4,hsh⟩:=R.join R3
  exact⟨v,ρ',rfl,hle,R4,hsh _ _ hr2⟩
theorem Ag {P:Program} {T:Az} {G:GP} {gs:rK} (hT:BY T G.tab) (hG:∀w0:cM gs,Jg P G T.fns w0) {fuel f n:Nat} {us:List GV} {vs:List Value} {hs:List Nat} {g:GV} {os:OL} (hm:FX T G fuel f us hs=some (g,n,os)) (hb:aZ P f)
  (hv:mQ (fun _=>none) us vs) (he:gs.env=[]) (b:cM gs):Calls P f vs.toArray b.w fun e w'=>∃v ρ',e = .returned v∧dU b ρ' (oD n os) w'∧Rl ρ' g v:=by
 obtain⟨r,hr,hm⟩:=aB.1 (show ob (tS T G fuel f us H0) _=some (g,n,os)from hm)
 obtain⟨os',hos,hm⟩:=aB.1 hm
 cases hm
 rw[nK hT]at hr
 rcases yM hG (H':=r.2) (g:=r.1) hr (dU.start b he) hv with⟨v,w',ρ',hr',_⟩|⟨_,hc⟩
 ·have:=hb vs.toArray b.w
  rw[this]at hr';cases hr'
 ·refine hc.mono ?_
  rintro e w' ⟨v,ρ2,rfl,_,R2,hr2⟩
  exact⟨v,ρ2,rfl,R2.sub rfl fun h p hp=>by
   have:Mn os h=some p:=(uC os h).symm.trans hp
   exact Aj hos _ (BB this),hr2⟩
end
noncomputable def sO (s:ByteArray):Nat×Nat:=(iO (aY s),(aY s).length)
theorem tV {a b:ByteArray} (h:sO a=sO b):a=b:=by
 have h1:=NY a b
 unfold sO at h
 rw[h]at h1
 have h2:Jh (iO (aY b),(aY b).length) (iO (aY b),(aY b).length)=true:=by simp[Jh]
 rw[h2]at h1
 have h3:a.toList=b.toList:=eq_of_beq h1.symm
 rw[Lib.toList_data,Lib.toList_data]at h3
 obtain⟨⟨x⟩⟩:=a
 obtain⟨⟨y⟩⟩:=b
 simp only at h3
 rw[h3]
noncomputable def Cd (cs:List GV):Option (Nat×Nat):=List.casesOn (motive:=fun _=>Option (Nat×Nat)) cs none fun c r=>List.casesOn (motive:=fun _=>Option (Nat×Nat)) r c.asStr fun _ _=>none
abbrev UN:eB ByteArray:=⟨1,Nat.one_pos,fun _ _ cs x=>cs=[.string x],fun h=>by simp[h],fun h _=>h⟩
theorem aV.str {S:Nat->Prop} {ρ:cS} {w:World}:aV S ρ w Cd UN sO:=fun gs vs y hr h _=>by
 cases gs with
 |nil=>cases h
 |cons c gs=>
 cases gs with
 |cons _ _=>cases h
 |nil=>
 have h:c.asStr=some y:=h
 obtain⟨v,vs,rfl,hv,hr⟩:=hr.of_cons
 rw[hr.of_nil]
 rw[lL h]at hv
 obtain⟨x,rfl,e1,e2⟩:=hv.str_inv
 exact⟨x,by unfold sO;rw[<-e1,<-e2],rfl⟩
theorem Au {ρ:cS} {V:Value} {n l:Nat} {s:ByteArray} (h:Rl ρ (.str n l) V) (e:sO s=(n,l)):V = .string s:=by
 obtain⟨x,rfl,e1,e2⟩:=h.str_inv
 have:sO x=sO s:=by rw[e];unfold sO;rw[<-e1,<-e2]
 rw[tV this]
theorem fZ {α:Type}:∀a b:α,id a=id b->a=b:=fun _ _ h=>h
theorem cY {α β α' β':Type} {f:α->α'} {g:β->β'} (hf:∀a b,f a=f b->a=b) (hg:∀a b,g a=g b->a=b):∀a b:α×β,(fun z:α×β=>(f z.1,g z.2)) a=(fun z:α×β=>(f z.1,g z.2)) b->a=b:=fun a b h=>by
 obtain⟨a1,a2⟩:=a
 obtain⟨b1,b2⟩:=b
 simp only[Prod.mk.injEq]at h
 rw[hf _ _ h.1,hg _ _ h.2]
theorem qD {α β:Type} {f:α->β} (hf:∀a b,f a=f b->a=b):∀{xs ys:List α},xs.map f=ys.map f->xs=ys
 | [],[],_=>rfl
 | [],_::_,h=>by simp at h
 |_::_,[],h=>by simp at h
 |a::xs,b::ys,h=>by
  simp only[List.map_cons,List.cons.injEq]at h
  rw[hf _ _ h.1,qD hf h.2]
end Go.Gx
end
