/- Models of functions with their proofs, by program (gen/xt.py), and plain laws, in one text. Conditions: none. -/
import Derived.Test.YtfbkplemadmbfaaGreatDoorZCRe4
import Derived.Test.YtfbkplemadmbfaaGreatDoorZCRe1
set_option linter.unusedVariables false
set_option linter.unusedSimpArgs false
set_option maxHeartbeats 4000000
set_option maxRecDepth 20000
section
set_option maxRecDepth 100000
namespace Go.Gx
open Go Go.Sx Go.Proofs
noncomputable section
abbrev y:=tyTab
def i (n:Nat):GV:= .int .i64 (.ofNat n)
def bC (q:Bool) (f t:RS):RS:=Bool.casesOn (motive:=fun _=>RS) q f t
def K (c:CH) (f:Nat) (us:List GV) (H:GH) (k:GV->GH->RS):RS:=kOR (c f us H) k
def bn (op:BinOp) (T:Nat) (v u:GV) (k:GV->RS):RS:=ob (vBin y op T v u) k
def ld (T:Nat) (v:GV) (H:GH) (k:GV->RS):RS:=ob (vLoad y T v H) k
def fd (T n:Nat) (v:GV) (k:GV->RS):RS:=ob (vField y T n v) k
def pt (T n:Nat) (v:GV) (k:GV->RS):RS:=ob (vPart y T n v) k
def ix (T:Nat) (v u:GV) (k:GV->RS):RS:=ob (vIndex y T v u) k
def ln (T:Nat) (v:GV) (k:GV->RS):RS:=ob (vLen y T v) k
def ex (n:Nat) (v:GV) (k:GV->RS):RS:=ob (vExt n v) k
def bd (T:Nat) (l:List (Nat×GV)) (k:GV->RS):RS:=ob (vBuild y T l) k
theorem rN {α:Type} {f n:Nat} {x y:Option α} {e:α} {R:Prop} (hx:x=some e->R) (hy:y=some e->R):tN f n x y=some e->R:=by
 unfold tN
 cases Nat.blt f n
 ·exact hy
 ·exact hx
theorem rL {α:Type} {f n:Nat} {x e:α} {R:Nat->α->Prop} (h:R n x):tL f n x=some e->R f e:=by
 intro he
 unfold tL at he
 cases hb:Nat.beq f n with
 |false=>rw[hb]at he;cases he
 |true=>rw[hb]at he;cases he;rw[Nat.eq_of_beq_eq_true hb];exact h
def B6 (c:CH) (ql:QH) (us:List GV) (H:GH):RS:=U0 us (kOR (vBuildS y 22 4 [(0,(i 0)),(1,(i 1)),(2,(i 2)),(3,(i 3))] H) fun t1 h2=>
 bd 38 [(0,(i 5)),(1,t1)] fun t3=>
 K c 28 [t3,(i 5)] h2 fun t4 h5=>
 kOR (vAlloc y 25 h5) fun t6 h7=>
 kOR (vStore y 25 t6 t4 h7) fun t8 h9=>
 K c 31 [] h9 fun t10 h11=>
 ob (some ()) fun _=>
 K c 30 [t10] h11 fun t12 h13=>
 ob (some ()) fun _=>
 ld 25 t6 h13 fun t14=>
 ob (Option.casesOn (motive:=fun _=>Option (Option (Nat×Nat))) (ob (GV.asP t6) fun p=>some p.1) (some none) fun k16=>ob (GH.ver h13 k16) fun k17=>vck h11 k16 k17 (vck h9 k16 k17 (some (some (k16,k17))))) fun e15=>
 kOR (vBuildS y 22 1 [(0,(i 0))] h13) fun t18 h19=>
 ob (pck h19 e15 (some ())) fun _=>
 kOR (vBuildS y 22 1 [(0,(i 1))] h19) fun t20 h21=>
 ob (pck h21 e15 (some ())) fun _=>
 kOR (vBuildS y 22 1 [(0,(i 0))] h21) fun t22 h23=>
 ob (pck h23 e15 (some ())) fun _=>
 kOR (vBuildS y 22 1 [(0,(i 1))] h23) fun t24 h25=>
 ob (pck h25 e15 (some ())) fun _=>
 kOR (vBuildS y 22 1 [(0,(i 1))] h25) fun t26 h27=>
 ob (pck h27 e15 (some ())) fun _=>
 kOR (vBuildS y 30 5 [(0,t18),(1,t20),(2,t22),(3,t24),(4,t26)] h27) fun t28 h29=>
 ob (pck h29 e15 (some ())) fun _=>
 kOR (vBuildS y 51 3 [(0,(.int .u32 (.ofNat 8))),(1,(.int .u32 (.ofNat 31))),(2,(.int .u32 (.ofNat 31)))] h29) fun t30 h31=>
 ob (pck h31 e15 (some ())) fun _=>
 K c 29 [t12,t14,(i 2),t28,t30] h31 fun t32 h33=>
 ob (some ()) fun _=>
 ex 0 t32 fun t34=>
 ex 1 t32 fun t35=>
 kOR (vAlloc y 41 h33) fun t36 h37=>
 ob (pck h37 e15 (some ())) fun _=>
 kOR (vStore y 41 t36 t34 h37) fun t38 h39=>
 ob (some ()) fun _=>
 bn .eql 42 t35 (i 0) fun t40=>
 kOR (rG t40 true h39 (ob (vField y 41 0 t36) fun g41=>some (g41,h39))) fun t42 h43=>
 kOR (rG t40 true h43 (ob (vLoad y 26 t42 h43) fun g44=>some (g44,h43))) fun t45 h46=>
 kOR (rG t40 true h46 (ob (vBin y .eql 26 t45 (.int .u32 (.ofNat 8))) fun g47=>some (g47,h46))) fun t48 h49=>
 ob (vPick t40 t48 (.bool false)) fun t50=>
 kOR (rG t50 true h49 (ob (vField y 41 1 t36) fun g51=>some (g51,h49))) fun t52 h53=>
 kOR (rG t50 true h53 (ob (vLoad y 3 t52 h53) fun g54=>some (g54,h53))) fun t55 h56=>
 kOR (rG t50 true h56 (ob (vBin y .eql 3 t55 (i 1)) fun g57=>some (g57,h56))) fun t58 h59=>
 ob (vPick t50 t58 (.bool false)) fun t60=>
 kOR (rG t60 true h59 (ob (vField y 41 2 t36) fun g61=>some (g61,h59))) fun t62 h63=>
 kOR (rG t60 true h63 (ob (vLoad y 3 t62 h63) fun g64=>some (g64,h63))) fun t65 h66=>
 kOR (rG t60 true h66 (ob (vBin y .eql 3 t65 (i 1)) fun g67=>some (g67,h66))) fun t68 h69=>
 ob (vPick t60 t68 (.bool false)) fun t70=>
 kOR (rG t70 true h69 (ob (vField y 41 4 t36) fun g71=>some (g71,h69))) fun t72 h73=>
 kOR (rG t70 true h73 (ob (vLoad y 4 t72 h73) fun g74=>some (g74,h73))) fun t75 h76=>
 ob (vPick t70 t75 (.bool false)) fun t77=>
 kOR (rG t77 true h76 (ob (vLoad y 25 t6 h76) fun g78=>some (g78,h76))) fun t79 h80=>
 kOR (rG t77 true h80 (kOR (c 7 [t79,(.int .u32 (.ofNat 16)),(i 1)] h80) orK)) fun t81 h82=>
 kOR (rG t77 true h82 (ob (vBin y .eql 26 t81 (.int .u32 (.ofNat 24))) fun g83=>some (g83,h82))) fun t84 h85=>
 ob (vPick t77 t84 (.bool false)) fun t86=>
 oR [t86] h85)
def B7 (c:CH) (ql:QH) (us:List GV) (H:GH):RS:=U3 us fun x87 x88 x89=>
 kOR (vBox x87 H) fun t90 h91=>
 ld 25 t90 h91 fun t92=>
 K c 32 [t92] h91 fun t93 h94=>
 ob (vUn .not t93) fun t95=>
 kOR (rG t95 false h94 (some (x89,h94))) fun t96 h97=>
 kOR (rG t95 false h97 (ob (vBin y .lss 3 t96 (i 0)) fun g98=>some (g98,h97))) fun t99 h100=>
 ob (vPick t95 (.bool true) t99) fun t101=>
 ob (GV.asB t101) fun q102=>jn (bC q102 (oN [x88,x89,t90] h100) (oR [(.int .u32 (.ofNat 0))] h100)) fun vs103 h104=>U3 vs103 fun a105 a106 a107=>ld 25 a107 h104 fun t108=>
 K c 33 [t108,a105] h104 fun t109 h110=>
 ln 22 t109 fun t111=>
 jn (nB 0 (ql 0 [a106,(.int .u32 (.ofNat 0)),t109,t111,(i 0)] h110)) fun vs112 h113=>U1 vs112 fun a114=>oR [a114] h113
def L0 (c:CH) (ql:QH) (us:List GV) (H:GH):RS:=U5 us fun a115 a116 a117 a118 a119=>jn (bn .lss 3 a119 a118 fun t120=>
 ob (GV.asB t120) fun q121=>jn (bC q121 (oX 0 [a116] H) (oN [a115,a116,a117,a118,a119] H)) fun vs122 h123=>U5 vs122 fun a124 a125 a126 a127 a128=>jn (nB 1 (ix 22 a126 a128 fun t129=>
 ld 3 t129 h123 fun t130=>
 bn .geq 3 t130 (i 0) fun t131=>
 kOR (rG t131 true h123 (some (t130,h123))) fun t132 h133=>
 kOR (rG t131 true h133 (some (a124,h133))) fun t134 h135=>
 kOR (rG t131 true h135 (ob (vBin y .leq 3 t132 t134) fun g136=>some (g136,h135))) fun t137 h138=>
 ob (vPick t131 t137 (.bool false)) fun t139=>
 ob (GV.asB t139) fun q140=>jn (bC q140 (oN [a124,a125,a126,a127,a128] h138) (bn .shl 26 (.int .u32 (.ofNat 1)) a128 fun t141=>
 bn .or 26 a125 t141 fun t142=>
 oN [a124,t142,a126,a127,a128] h138)) fun vs143 h144=>U5 vs143 fun a145 a146 a147 a148 a149=>oN [a145,a146,a147,a148,a149] h144)) fun vs150 h151=>U5 vs150 fun a152 a153 a154 a155 a156=>bn .add 3 a156 (i 1) fun t157=>
 oN [a152,a153,a154,a155,t157] h151) (ql 0)
def B29 (c:CH) (ql:QH) (us:List GV) (H:GH):RS:=U5 us fun x158 x159 x160 x161 x162=>
 kOR (vBox x158 H) fun t163 h164=>
 kOR (vBox x159 h164) fun t165 h166=>
 kOR (vAlloc y 41 h166) fun t167 h168=>
 ld 48 t163 h168 fun t169=>
 ld 25 t165 h168 fun t170=>
 K c 37 [t169,t170,x160,x161,x162] h168 fun t171 h172=>
 ex 0 t171 fun t173=>
 ex 1 t171 fun t174=>
 kOR (vAlloc y 58 h172) fun t175 h176=>
 kOR (vStore y 58 t175 t173 h176) fun t177 h178=>
 bn .neq 42 t174 (i 0) fun t179=>
 ob (GV.asB t179) fun q180=>jn (bC q180 (oN [t167,t175] h178) (bd 41 [] fun t181=>
 kOR (vStore y 41 t167 t181 h178) fun t182 h183=>
 ob (ob (vLoad y 41 t167 h183) fun r184=>some [r184,t174]) fun vs185=>oR vs185 h183)) fun vs186 h187=>U2 vs186 fun a188 a189=>ld 58 a189 h187 fun t190=>
 K c 66 [t190] h187 fun t191 h192=>
 ex 0 t191 fun t193=>
 ex 1 t191 fun t194=>
 fd 58 3 a189 fun t195=>
 fd 56 1 t195 fun t196=>
 ld 3 t196 h192 fun t197=>
 fd 58 3 a189 fun t198=>
 fd 56 3 t198 fun t199=>
 ld 3 t199 h192 fun t200=>
 fd 58 1 a189 fun t201=>
 ld 51 t201 h192 fun t202=>
 fd 58 1 a189 fun t203=>
 ld 51 t203 h192 fun t204=>
 ln 51 t204 fun t205=>
 bn .sub 3 t205 (i 1) fun t206=>
 ix 51 t202 t206 fun t207=>
 ld 26 t207 h192 fun t208=>
 bn .eql 26 t208 (.int .u32 (.ofNat 0)) fun t209=>
 fd 58 2 a189 fun t210=>
 ld 30 t210 h192 fun t211=>
 bd 41 [(0,t193),(1,t194),(2,t197),(3,t200),(4,t209),(5,t211)] fun t212=>
 kOR (vStore y 41 a188 t212 h192) fun t213 h214=>
 ob (ob (vLoad y 41 a188 h214) fun r215=>some [r215,(i 0)]) fun vs216=>oR vs216 h214
def B30 (c:CH) (ql:QH) (us:List GV) (H:GH):RS:=U1 us fun x217=>
 kOR (vAlloc y 48 H) fun t218 h219=>
 K c 67 [x217] h219 fun t220 h221=>
 ex 0 t220 fun t222=>
 ex 1 t220 fun t223=>
 ex 2 t220 fun t224=>
 kOR (vAlloc y 48 h221) fun t225 h226=>
 kOR (vStore y 48 t225 t222 h226) fun t227 h228=>
 ld 48 t225 h228 fun t229=>
 kOR (vStore y 48 t218 t229 h228) fun t230 h231=>
 ob (ob (vLoad y 48 t218 h231) fun r232=>some [r232]) fun vs233=>oR vs233 h231
def B31 (c:CH) (ql:QH) (us:List GV) (H:GH):RS:=U0 us (oR [(.str 2782272544148574329703548915484139416562471587372346629090892429547018860149309682118537811771073185556707760590527461846276004869770941806974104689717583530206048895217444112283498148464 78)] H)
def B33 (c:CH) (ql:QH) (us:List GV) (H:GH):RS:=U2 us fun x234 x235=>
 kOR (vBox x234 H) fun t236 h237=>
 fd 25 0 t236 fun t238=>
 ld 22 t238 h237 fun t239=>
 ln 22 t239 fun t240=>
 kOR (vMake y 22 t240 t240 h237) fun t241 h242=>
 ln 22 t241 fun t243=>
 jn (nB 0 (ql 1 [x235,t236,t241,t243,(i 0)] h242)) fun vs244 h245=>U3 vs244 fun a246 a247 a248=>fd 25 0 a247 fun t249=>
 ld 22 t249 h245 fun t250=>
 ln 22 t250 fun t251=>
 jn (nB 2 (ql 2 [a246,a247,a248,t251,(i 0)] h245)) fun vs252 h253=>U1 vs252 fun a254=>oR [a254] h253
def L1 (c:CH) (ql:QH) (us:List GV) (H:GH):RS:=U5 us fun a255 a256 a257 a258 a259=>jn (bn .lss 3 a259 a258 fun t260=>
 ob (GV.asB t260) fun q261=>jn (bC q261 (oX 0 [a255,a256,a257] H) (oN [a255,a256,a257,a258,a259] H)) fun vs262 h263=>U5 vs262 fun a264 a265 a266 a267 a268=>jn (nB 1 (ix 22 a266 a268 fun t269=>
 kOR (vStore y 3 t269 (.int .i64 (.negSucc 0)) h263) fun t270 h271=>
 oN [a264,a265,a266,a267,a268] h271)) fun vs272 h273=>U5 vs272 fun a274 a275 a276 a277 a278=>bn .add 3 a278 (i 1) fun t279=>
 oN [a274,a275,a276,a277,t279] h273) (ql 1)
def L2 (c:CH) (ql:QH) (us:List GV) (H:GH):RS:=U5 us fun a280 a281 a282 a283 a284=>jn (bn .lss 3 a284 a283 fun t285=>
 ob (GV.asB t285) fun q286=>jn (bC q286 (oX 2 [a282] H) (oN [a280,a281,a282,a283,a284] H)) fun vs287 h288=>U5 vs287 fun a289 a290 a291 a292 a293=>jn (nB 3 (bn .shr 26 a289 a293 fun t294=>
 bn .and 26 t294 (.int .u32 (.ofNat 1)) fun t295=>
 bn .eql 26 t295 (.int .u32 (.ofNat 0)) fun t296=>
 ob (GV.asB t296) fun q297=>jn (bC q297 (oN [a289,a290,a291,a293,a292,a293] h288) (oX 3 [a289,a290,a291,a292,a293] h288)) fun vs298 h299=>U6 vs298 fun a300 a301 a302 a303 a304 a305=>ld 25 a301 h299 fun t306=>
 K c 70 [t306,a303] h299 fun t307 h308=>
 ln 22 t307 fun t309=>
 jn (nB 4 (ql 3 [a300,a301,a302,a304,a305,t307,t309,(i 0)] h308)) fun vs310 h311=>U5 vs310 fun a312 a313 a314 a315 a316=>oN [a312,a313,a314,a315,a316] h311)) fun vs317 h318=>U5 vs317 fun a319 a320 a321 a322 a323=>bn .add 3 a323 (i 1) fun t324=>
 oN [a319,a320,a321,a322,t324] h318) (ql 2)
def L3 (c:CH) (ql:QH) (us:List GV) (H:GH):RS:=U8 us fun a325 a326 a327 a328 a329 a330 a331 a332=>jn (bn .lss 3 a332 a331 fun t333=>
 ob (GV.asB t333) fun q334=>jn (bC q334 (oX 4 [a325,a326,a327,a328,a329] H) (oN [a325,a326,a327,a328,a329,a330,a331,a332] H)) fun vs335 h336=>U8 vs335 fun a337 a338 a339 a340 a341 a342 a343 a344=>jn (nB 5 (ix 22 a342 a344 fun t345=>
 ld 3 t345 h336 fun t346=>
 bn .geq 3 t346 (i 0) fun t347=>
 kOR (rG t347 true h336 (some (a339,h336))) fun t348 h349=>
 kOR (rG t347 true h349 (some (a344,h349))) fun t350 h351=>
 kOR (rG t347 true h351 (ob (vIndex y 22 t348 t350) fun g352=>some (g352,h351))) fun t353 h354=>
 kOR (rG t347 true h354 (ob (vLoad y 3 t353 h354) fun g355=>some (g355,h354))) fun t356 h357=>
 kOR (rG t347 true h357 (ob (vBin y .lss 3 t356 (i 0)) fun g358=>some (g358,h357))) fun t359 h360=>
 kOR (rG t347 true h360 (some (t359,h360))) fun t361 h362=>
 kOR (rG t361 false h362 (some (t346,h362))) fun t363 h364=>
 kOR (rG t361 false h364 (some (a339,h364))) fun t365 h366=>
 kOR (rG t361 false h366 (some (a344,h366))) fun t367 h368=>
 kOR (rG t361 false h368 (ob (vIndex y 22 t365 t367) fun g369=>some (g369,h368))) fun t370 h371=>
 kOR (rG t361 false h371 (ob (vLoad y 3 t370 h371) fun g372=>some (g372,h371))) fun t373 h374=>
 kOR (rG t361 false h374 (ob (vBin y .lss 3 t363 t373) fun g375=>some (g375,h374))) fun t376 h377=>
 kOR (rG t347 true h377 (ob (vPick t361 (.bool true) t376) fun g378=>some (g378,h377))) fun t379 h380=>
 ob (vPick t347 t379 (.bool false)) fun t381=>
 ob (GV.asB t381) fun q382=>jn (bC q382 (oN [a337,a338,a339,a340,a341,a342,a343,a344] h380) (ix 22 a339 a344 fun t383=>
 kOR (vStore y 3 t383 t346 h380) fun t384 h385=>
 oN [a337,a338,a339,a340,a341,a342,a343,a344] h385)) fun vs386 h387=>U8 vs386 fun a388 a389 a390 a391 a392 a393 a394 a395=>oN [a388,a389,a390,a391,a392,a393,a394,a395] h387)) fun vs396 h397=>U8 vs396 fun a398 a399 a400 a401 a402 a403 a404 a405=>bn .add 3 a405 (i 1) fun t406=>
 oN [a398,a399,a400,a401,a402,a403,a404,t406] h397) (ql 3)
def B37 (c:CH) (ql:QH) (us:List GV) (H:GH):RS:=U5 us fun x407 x408 x409 x410 x411=>
 kOR (vBox x407 H) fun t412 h413=>
 kOR (vBox x408 h413) fun t414 h415=>
 kOR (vAlloc y 58 h415) fun t416 h417=>
 ld 48 t412 h417 fun t418=>
 ld 25 t414 h417 fun t419=>
 ln 51 x411 fun t420=>
 K c 75 [t418,t419,x409,x410,t420] h417 fun t421 h422=>
 bn .neq 42 t421 (i 0) fun t423=>
 ob (GV.asB t423) fun q424=>jn (bC q424 (oN [x409,x410,x411,t412,t414,t416] h422) (bd 58 [] fun t425=>
 kOR (vStore y 58 t416 t425 h422) fun t426 h427=>
 ob (ob (vLoad y 58 t416 h427) fun r428=>some [r428,t421]) fun vs429=>oR vs429 h427)) fun vs430 h431=>U6 vs430 fun a432 a433 a434 a435 a436 a437=>ld 48 a435 h431 fun t438=>
 ld 25 a436 h431 fun t439=>
 K c 76 [t438,t439,a432,(.fn 77 [] [])] h431 fun t440 h441=>
 K c 78 [t440,a433,a434] h441 fun t442 h443=>
 ex 0 t442 fun t444=>
 ex 1 t442 fun t445=>
 kOR (vStore y 58 a437 t444 h443) fun t446 h447=>
 ob (ob (vLoad y 58 a437 h447) fun r448=>some [r448,t445]) fun vs449=>oR vs449 h447
def B66 (c:CH) (ql:QH) (us:List GV) (H:GH):RS:=U1 us fun x450=>
 kOR (vBox x450 H) fun t451 h452=>
 kOR (vAlloc y 108 h452) fun t453 h454=>
 fd 58 0 t451 fun t455=>
 ld 51 t455 h454 fun t456=>
 ln 51 t456 fun t457=>
 jn (nB 0 (ql 4 [(.int .u32 (.ofNat 0)),(i 0),t453,t456,t457,(i 0)] h454)) fun vs458 h459=>U2 vs458 fun a460 a461=>oR [a460,a461] h459
def L4 (c:CH) (ql:QH) (us:List GV) (H:GH):RS:=U6 us fun a462 a463 a464 a465 a466 a467=>jn (bn .lss 3 a467 a466 fun t468=>
 ob (GV.asB t468) fun q469=>jn (bC q469 (oX 0 [a462,a463] H) (oN [a462,a463,a464,a465,a466,a467] H)) fun vs470 h471=>U6 vs470 fun a472 a473 a474 a475 a476 a477=>jn (nB 1 (ix 51 a475 a477 fun t478=>
 ld 26 t478 h471 fun t479=>
 bn .or 26 a472 t479 fun t480=>
 jn (nB 2 (ql 5 [t480,a473,a474,t479,a475,a476,a477,(i 0)] h471)) fun vs481 h482=>U6 vs481 fun a483 a484 a485 a486 a487 a488=>oN [a483,a484,a485,a486,a487,a488] h482)) fun vs489 h490=>U6 vs489 fun a491 a492 a493 a494 a495 a496=>bn .add 3 a496 (i 1) fun t497=>
 oN [a491,a492,a493,a494,a495,t497] h490) (ql 4)
def L5 (c:CH) (ql:QH) (us:List GV) (H:GH):RS:=U8 us fun a498 a499 a500 a501 a502 a503 a504 a505=>jn (bn .lss 3 a505 (i 24) fun t506=>
 ob (GV.asB t506) fun q507=>jn (bC q507 (oX 2 [a498,a499,a500,a502,a503,a504] H) (oN [a498,a499,a500,a501,a502,a503,a504,a505] H)) fun vs508 h509=>U8 vs508 fun a510 a511 a512 a513 a514 a515 a516 a517=>jn (nB 3 (ix 108 a512 a517 fun t518=>
 ld 3 t518 h509 fun t519=>
 bn .shr 26 a513 a517 fun t520=>
 bn .and 26 t520 (.int .u32 (.ofNat 1)) fun t521=>
 ob (vConv y 26 3 t521) fun t522=>
 bn .add 3 t519 t522 fun t523=>
 ix 108 a512 a517 fun t524=>
 kOR (vStore y 3 t524 t523 h509) fun t525 h526=>
 ix 108 a512 a517 fun t527=>
 ld 3 t527 h526 fun t528=>
 ob (vMax a511 t528) fun t529=>
 oN [a510,t529,a512,a513,a514,a515,a516,a517] h526)) fun vs530 h531=>U8 vs530 fun a532 a533 a534 a535 a536 a537 a538 a539=>bn .add 3 a539 (i 1) fun t540=>
 oN [a532,a533,a534,a535,a536,a537,a538,t540] h531) (ql 5)
def B67 (c:CH) (ql:QH) (us:List GV) (H:GH):RS:=U1 us fun x541=>
 kOR (vAlloc y 48 H) fun t542 h543=>
 K c 94 [x541] h543 fun t544 h545=>
 ex 0 t544 fun t546=>
 ex 1 t544 fun t547=>
 ex 2 t544 fun t548=>
 bn .neq 42 t548 (i 0) fun t549=>
 ob (GV.asB t549) fun q550=>jn (bC q550 (oN [x541,t542,t546] h545) (bd 48 [] fun t551=>
 kOR (vStore y 48 t542 t551 h545) fun t552 h553=>
 ob (ob (vLoad y 48 t542 h553) fun r554=>some [r554,t547,t548]) fun vs555=>oR vs555 h553)) fun vs556 h557=>U3 vs556 fun a558 a559 a560=>bd 115 [(0,a558),(1,a560)] fun t561=>
 bd 117 [(0,t561)] fun t562=>
 kOR (vBox t562 h557) fun t563 h564=>
 K c 95 [(.fn 96 [t563] [])] h564 fun t565 h566=>
 ex 0 t565 fun t567=>
 ex 1 t565 fun t568=>
 bn .neq 42 t568 (i 0) fun t569=>
 ob (GV.asB t569) fun q570=>jn (bC q570 (oN [a559,t563] h566) (bd 48 [] fun t571=>
 kOR (vStore y 48 a559 t571 h566) fun t572 h573=>
 ob (ob (vLoad y 48 a559 h573) fun r574=>some [r574,t567,t568]) fun vs575=>oR vs575 h573)) fun vs576 h577=>U2 vs576 fun a578 a579=>ob (GV.nilck a579) fun t580=>
 fd 117 1 t580 fun t581=>
 fd 48 1 t581 fun t582=>
 ld 45 t582 h577 fun t583=>
 ln 45 t583 fun t584=>
 bn .eql 3 t584 (i 0) fun t585=>
 ob (GV.asB t585) fun q586=>jn (bC q586 (oN [a578,a579] h577) (bd 48 [] fun t587=>
 kOR (vStore y 48 a578 t587 h577) fun t588 h589=>
 ob (ob (vLoad y 48 a578 h589) fun r590=>some [r590,(i 0),(i 3)]) fun vs591=>oR vs591 h589)) fun vs592 h593=>U2 vs592 fun a594 a595=>ob (GV.nilck a595) fun t596=>
 fd 117 1 t596 fun t597=>
 ld 48 t597 h593 fun t598=>
 K c 97 [t598] h593 fun t599 h600=>
 bn .neq 42 t599 (i 0) fun t601=>
 ob (GV.asB t601) fun q602=>jn (bC q602 (oN [a594,a595] h600) (bd 48 [] fun t603=>
 kOR (vStore y 48 a594 t603 h600) fun t604 h605=>
 ob (ob (vLoad y 48 a594 h605) fun r606=>some [r606,(i 0),t599]) fun vs607=>oR vs607 h605)) fun vs608 h609=>U2 vs608 fun a610 a611=>ob (GV.nilck a611) fun t612=>
 fd 117 1 t612 fun t613=>
 ld 48 t613 h609 fun t614=>
 kOR (vStore y 48 a610 t614 h609) fun t615 h616=>
 ob (ob (vLoad y 48 a610 h616) fun r617=>some [r617,(i 0),(i 0)]) fun vs618=>oR vs618 h616
def B70 (c:CH) (ql:QH) (us:List GV) (H:GH):RS:=U2 us fun x619 x620=>
 kOR (vBox x619 H) fun t621 h622=>
 ld 25 t621 h622 fun t623=>
 K c 32 [t623] h622 fun t624 h625=>
 ob (vUn .not t624) fun t626=>
 kOR (rG t626 false h625 (some (x620,h625))) fun t627 h628=>
 kOR (rG t626 false h628 (ob (vBin y .lss 3 t627 (i 0)) fun g629=>some (g629,h628))) fun t630 h631=>
 ob (vPick t626 (.bool true) t630) fun t632=>
 kOR (rG t632 false h631 (some (x620,h631))) fun t633 h634=>
 kOR (rG t632 false h634 (ob (vField y 25 1 t621) fun g635=>some (g635,h634))) fun t636 h637=>
 kOR (rG t632 false h637 (ob (vLoad y 23 t636 h637) fun g638=>some (g638,h637))) fun t639 h640=>
 kOR (rG t632 false h640 (ob (vLen y 23 t639) fun g641=>some (g641,h640))) fun t642 h643=>
 kOR (rG t632 false h643 (ob (vBin y .geq 3 t633 t642) fun g644=>some (g644,h643))) fun t645 h646=>
 ob (vPick t632 (.bool true) t645) fun t647=>
 ob (GV.asB t647) fun q648=>jn (bC q648 (oN [x620,t621] h646) (oR [.snil] h646)) fun vs649 h650=>U2 vs649 fun a651 a652=>ld 25 a652 h650 fun t653=>
 K c 79 [t653,a651] h650 fun t654 h655=>
 oR [t654] h655
def B75 (c:CH) (ql:QH) (us:List GV) (H:GH):RS:=U5 us fun x656 x657 x658 x659 x660=>
 kOR (vBox x656 H) fun t661 h662=>
 kOR (vBox x657 h662) fun t663 h664=>
 ld 48 t661 h664 fun t665=>
 ld 25 t663 h664 fun t666=>
 K c 98 [t665,t666,x659] h664 fun t667 h668=>
 bn .neq 42 t667 (i 0) fun t669=>
 ob (GV.asB t669) fun q670=>jn (bC q670 (oN [x658,x660] h668) (oR [t667] h668)) fun vs671 h672=>U2 vs671 fun a673 a674=>K c 99 [a673] h672 fun t675 h676=>
 ob (vUn .not t675) fun t677=>
 ob (GV.asB t677) fun q678=>jn (bC q678 (oN [a674] h676) (oR [(i 12)] h676)) fun vs679 h680=>U1 vs679 fun a681=>bn .gtr 3 a681 (i 4096) fun t682=>
 ob (GV.asB t682) fun q683=>jn (bC q683 (oN [] h680) (oR [(i 3)] h680)) fun vs684 h685=>U0 vs684 (oR [(i 0)] h685)
def B76 (c:CH) (ql:QH) (us:List GV) (H:GH):RS:=U4 us fun x686 x687 x688 x689=>
 kOR (vBox x686 H) fun t690 h691=>
 kOR (vBox x687 h691) fun t692 h693=>
 kOR (vAlloc y 96 h693) fun t694 h695=>
 ld 48 t690 h695 fun t696=>
 ob (Option.casesOn (motive:=fun _=>Option (Option (Nat×Nat))) (ob (GV.asP t690) fun p=>some p.1) (some none) fun k698=>ob (GH.ver h695 k698) fun k699=>some (some (k698,k699))) fun e697=>
 ld 25 t692 h695 fun t700=>
 ob (Option.casesOn (motive:=fun _=>Option (Option (Nat×Nat))) (ob (GV.asP t692) fun p=>some p.1) (some none) fun k702=>ob (GH.ver h695 k702) fun k703=>some (some (k702,k703))) fun e701=>
 K c 100 [t696,t700] h695 fun t704 h705=>
 ob (some ()) fun _=>
 ld 25 t692 h705 fun t706=>
 ob (Option.casesOn (motive:=fun _=>Option (Option (Nat×Nat))) (ob (GV.asP t692) fun p=>some p.1) (some none) fun k708=>ob (GH.ver h705 k708) fun k709=>vck h695 k708 k709 (some (some (k708,k709)))) fun e707=>
 K c 101 [t706] h705 fun t710 h711=>
 ob (some ()) fun _=>
 ld 25 t692 h711 fun t712=>
 ob (Option.casesOn (motive:=fun _=>Option (Option (Nat×Nat))) (ob (GV.asP t692) fun p=>some p.1) (some none) fun k714=>ob (GH.ver h711 k714) fun k715=>vck h705 k714 k715 (vck h695 k714 k715 (some (some (k714,k715))))) fun e713=>
 K c 102 [t712] h711 fun t716 h717=>
 ob (some ()) fun _=>
 bd 96 [(0,t704),(1,t710),(2,x688),(3,t716),(4,x689)] fun t718=>
 kOR (vStore y 96 t694 t718 h717) fun t719 h720=>
 ob (some ()) fun _=>
 ob (ob (vLoad y 96 t694 h720) fun r721=>some [r721]) fun vs722=>oR vs722 h720
def B77 (c:CH) (ql:QH) (us:List GV) (H:GH):RS:=U3 us fun x723 x724 x725=>
 kOR (vBox x725 H) fun t726 h727=>
 oR [] h727
def B78 (c:CH) (ql:QH) (us:List GV) (H:GH):RS:=U3 us fun x728 x729 x730=>
 kOR (vBox x728 H) fun t731 h732=>
 kOR (vBox x730 h732) fun t733 h734=>
 kOR (vAlloc y 58 h734) fun t735 h736=>
 ld 96 t731 h736 fun t737=>
 ld 51 t733 h736 fun t738=>
 ln 51 t738 fun t739=>
 K c 103 [t737,x729,t739,(.fn 104 [] [t731,t733])] h736 fun t740 h741=>
 ex 0 t740 fun t742=>
 ex 1 t740 fun t743=>
 kOR (vStore y 58 t735 t742 h741) fun t744 h745=>
 ob (ob (vLoad y 58 t735 h745) fun r746=>some [r746,t743]) fun vs747=>oR vs747 h745
def B79 (c:CH) (ql:QH) (us:List GV) (H:GH):RS:=U2 us fun x748 x749=>
 kOR (vBox x748 H) fun t750 h751=>
 fd 25 1 t750 fun t752=>
 ld 23 t752 h751 fun t753=>
 ln 23 t753 fun t754=>
 kOR (vMake y 22 t754 t754 h751) fun t755 h756=>
 ln 22 t755 fun t757=>
 jn (nB 0 (ql 6 [x749,t750,t755,t757,(i 0)] h756)) fun vs758 h759=>U3 vs758 fun a760 a761 a762=>ix 22 a762 a760 fun t763=>
 kOR (vStore y 3 t763 (i 0) h759) fun t764 h765=>
 kOR (vBuildS y 22 1 [(0,a760)] h765) fun t766 h767=>
 jn (nB 2 (ql 7 [a761,a762,t766] h767)) fun vs768 h769=>U1 vs768 fun a770=>oR [a770] h769
def L6 (c:CH) (ql:QH) (us:List GV) (H:GH):RS:=U5 us fun a771 a772 a773 a774 a775=>jn (bn .lss 3 a775 a774 fun t776=>
 ob (GV.asB t776) fun q777=>jn (bC q777 (oX 0 [a771,a772,a773] H) (oN [a771,a772,a773,a774,a775] H)) fun vs778 h779=>U5 vs778 fun a780 a781 a782 a783 a784=>jn (nB 1 (ix 22 a782 a784 fun t785=>
 kOR (vStore y 3 t785 (.int .i64 (.negSucc 0)) h779) fun t786 h787=>
 oN [a780,a781,a782,a783,a784] h787)) fun vs788 h789=>U5 vs788 fun a790 a791 a792 a793 a794=>bn .add 3 a794 (i 1) fun t795=>
 oN [a790,a791,a792,a793,t795] h789) (ql 6)
def L7 (c:CH) (ql:QH) (us:List GV) (H:GH):RS:=U3 us fun a796 a797 a798=>jn (ln 22 a798 fun t799=>
 bn .gtr 3 t799 (i 0) fun t800=>
 ob (GV.asB t800) fun q801=>jn (bC q801 (oX 2 [a797] H) (oN [a796,a797,a798] H)) fun vs802 h803=>U3 vs802 fun a804 a805 a806=>jn (nB 3 (ix 22 a806 (i 0) fun t807=>
 ld 3 t807 h803 fun t808=>
 ob (vSlice y 22 a806 (some (i 1)) none h803) fun t809=>
 fd 25 1 a804 fun t810=>
 ld 23 t810 h803 fun t811=>
 ix 23 t811 t808 fun t812=>
 ld 84 t812 h803 fun t813=>
 ln 84 t813 fun t814=>
 jn (nB 4 (ql 8 [a804,a805,t809,t808,t813,t814,(i 0)] h803)) fun vs815 h816=>U3 vs815 fun a817 a818 a819=>oN [a817,a818,a819] h816)) fun vs820 h821=>U3 vs820 fun a822 a823 a824=>oN [a822,a823,a824] h821) (ql 7)
def L8 (c:CH) (ql:QH) (us:List GV) (H:GH):RS:=U7 us fun a825 a826 a827 a828 a829 a830 a831=>jn (bn .lss 3 a831 a830 fun t832=>
 ob (GV.asB t832) fun q833=>jn (bC q833 (oX 4 [a825,a826,a827] H) (oN [a825,a826,a827,a828,a829,a830,a831] H)) fun vs834 h835=>U7 vs834 fun a836 a837 a838 a839 a840 a841 a842=>jn (nB 5 (ix 84 a840 a842 fun t843=>
 ld 87 t843 h835 fun t844=>
 kOR (vAlloc y 87 h835) fun t845 h846=>
 kOR (vStore y 87 t845 t844 h846) fun t847 h848=>
 fd 87 0 t845 fun t849=>
 ld 3 t849 h848 fun t850=>
 ix 22 a837 t850 fun t851=>
 ld 3 t851 h848 fun t852=>
 bn .lss 3 t852 (i 0) fun t853=>
 ob (GV.asB t853) fun q854=>jn (bC q854 (oN [a836,a837,a838,a839,a840,a841,a842] h848) (fd 87 0 t845 fun t855=>
 ld 3 t855 h848 fun t856=>
 ix 22 a837 a839 fun t857=>
 ld 3 t857 h848 fun t858=>
 bn .add 3 t858 (i 1) fun t859=>
 ix 22 a837 t856 fun t860=>
 kOR (vStore y 3 t860 t859 h848) fun t861 h862=>
 fd 87 0 t845 fun t863=>
 ld 3 t863 h862 fun t864=>
 kOR (vBuildS y 22 1 [(0,t864)] h862) fun t865 h866=>
 kOR (vApp y 22 22 a838 t865 h866) fun t867 h868=>
 oN [a836,a837,t867,a839,a840,a841,a842] h868)) fun vs869 h870=>U7 vs869 fun a871 a872 a873 a874 a875 a876 a877=>oN [a871,a872,a873,a874,a875,a876,a877] h870)) fun vs878 h879=>U7 vs878 fun a880 a881 a882 a883 a884 a885 a886=>bn .add 3 a886 (i 1) fun t887=>
 oN [a880,a881,a882,a883,a884,a885,t887] h879) (ql 8)
def B94 (c:CH) (ql:QH) (us:List GV) (H:GH):RS:=U1 us fun x888=>
 ln 9 x888 fun t889=>
 bn .gtr 3 t889 (i 16384) fun t890=>
 ob (GV.asB t890) fun q891=>jn (bC q891 (oN [x888] H) (oR [.snil,(i 0),(i 3)] H)) fun vs892 h893=>U1 vs892 fun a894=>K c 112 [a894,(i 0)] h893 fun t895 h896=>
 jn (nB 0 (ql 9 [a894,.snil,t895] h896)) fun vs897 h898=>U1 vs897 fun a899=>oR [a899,(i 0),(i 0)] h898
def L9 (c:CH) (ql:QH) (us:List GV) (H:GH):RS:=U3 us fun a900 a901 a902=>jn (ln 9 a900 fun t903=>
 bn .lss 3 a902 t903 fun t904=>
 ob (GV.asB t904) fun q905=>jn (bC q905 (oX 0 [a901] H) (oN [a900,a901,a902] H)) fun vs906 h907=>U3 vs906 fun a908 a909 a910=>jn (nB 1 (ln 109 a909 fun t911=>
 bn .eql 3 t911 (i 4096) fun t912=>
 ob (GV.asB t912) fun q913=>jn (bC q913 (oN [a908,a909,a910] h907) (oR [.snil,a910,(i 3)] h907)) fun vs914 h915=>U3 vs914 fun a916 a917 a918=>K c 113 [a916,a918] h915 fun t919 h920=>
 ex 0 t919 fun t921=>
 ex 1 t919 fun t922=>
 kOR (vAlloc y 136 h920) fun t923 h924=>
 kOR (vStore y 136 t923 t921 h924) fun t925 h926=>
 bn .neq 42 t922 (i 0) fun t927=>
 ob (GV.asB t927) fun q928=>jn (bC q928 (oN [a916,a917,t923] h926) (oR [.snil,a918,t922] h926)) fun vs929 h930=>U3 vs929 fun a931 a932 a933=>ld 136 a933 h930 fun t934=>
 kOR (vBuildS y 109 1 [(0,t934)] h930) fun t935 h936=>
 kOR (vApp y 109 109 a932 t935 h936) fun t937 h938=>
 fd 136 2 a933 fun t939=>
 ld 3 t939 h938 fun t940=>
 K c 112 [a931,t940] h938 fun t941 h942=>
 oN [a931,t937,t941] h942)) fun vs943 h944=>U3 vs943 fun a945 a946 a947=>oN [a945,a946,a947] h944) (ql 9)
def B96 (c:CH) (ql:QH) (us:List GV) (H:GH):RS:=U1 us fun x948=>
 ob (GV.nilck x948) fun t949=>
 fd 117 0 t949 fun t950=>
 K c 116 [t950,(.str 30787916450984560 7)] H fun t951 h952=>
 K c 117 [x948,.snil] h952 fun t953 h954=>
 ob (GV.nilck x948) fun t955=>
 fd 117 1 t955 fun t956=>
 fd 48 0 t956 fun t957=>
 kOR (vStore y 9 t957 t953 h954) fun t958 h959=>
 ob (GV.nilck x948) fun t960=>
 fd 117 0 t960 fun t961=>
 K c 116 [t961,(.str 59 1)] h959 fun t962 h963=>
 K c 118 [x948,(.str 7496054 3),(i 6),(.fn 119 [x948] [])] h963 fun t964 h965=>
 K c 118 [x948,(.str 1701606770 4),(i 12),(.fn 120 [x948] [])] h965 fun t966 h967=>
 ob (GV.nilck x948) fun t968=>
 fd 117 0 t968 fun t969=>
 K c 121 [t969] h967 fun t970 h971=>
 ob (vUn .not t970) fun t972=>
 ob (GV.asB t972) fun q973=>jn (bC q973 (oN [] h971) (ob (GV.nilck x948) fun t974=>
 fd 117 0 t974 fun t975=>
 K c 122 [t975,(i 4)] h971 fun t976 h977=>
 oN [] h977)) fun vs978 h979=>U0 vs978 (oR [] h979)
def B97 (c:CH) (ql:QH) (us:List GV) (H:GH):RS:=U1 us fun x980=>
 kOR (vBox x980 H) fun t981 h982=>
 fd 48 1 t981 fun t983=>
 ld 45 t983 h982 fun t984=>
 ln 45 t984 fun t985=>
 bn .eql 3 t985 (i 0) fun t986=>
 kOR (rG t986 false h982 (ob (vField y 48 1 t981) fun g987=>some (g987,h982))) fun t988 h989=>
 kOR (rG t986 false h989 (ob (vLoad y 45 t988 h989) fun g990=>some (g990,h989))) fun t991 h992=>
 kOR (rG t986 false h992 (ob (vLen y 45 t991) fun g993=>some (g993,h992))) fun t994 h995=>
 kOR (rG t986 false h995 (ob (vBin y .gtr 3 t994 (i 6)) fun g996=>some (g996,h995))) fun t997 h998=>
 ob (vPick t986 (.bool true) t997) fun t999=>
 kOR (rG t999 false h998 (ob (vField y 48 2 t981) fun g1000=>some (g1000,h998))) fun t1001 h1002=>
 kOR (rG t999 false h1002 (ob (vLoad y 46 t1001 h1002) fun g1003=>some (g1003,h1002))) fun t1004 h1005=>
 kOR (rG t999 false h1005 (ob (vLen y 46 t1004) fun g1006=>some (g1006,h1005))) fun t1007 h1008=>
 kOR (rG t999 false h1008 (ob (vBin y .gtr 3 t1007 (i 12)) fun g1009=>some (g1009,h1008))) fun t1010 h1011=>
 ob (vPick t999 (.bool true) t1010) fun t1012=>
 ob (GV.asB t1012) fun q1013=>jn (bC q1013 (oN [t981] h1011) (oR [(i 3)] h1011)) fun vs1014 h1015=>U1 vs1014 fun a1016=>ld 48 a1016 h1015 fun t1017=>
 K c 123 [t1017] h1015 fun t1018 h1019=>
 ob (vUn .not t1018) fun t1020=>
 ob (GV.asB t1020) fun q1021=>jn (bC q1021 (oN [a1016] h1019) (oR [(i 5)] h1019)) fun vs1022 h1023=>U1 vs1022 fun a1024=>fd 48 1 a1024 fun t1025=>
 ld 45 t1025 h1023 fun t1026=>
 ln 45 t1026 fun t1027=>
 jn (nB 0 (ql 10 [a1024,t1026,t1027,(i 0)] h1023)) fun vs1028 h1029=>U1 vs1028 fun a1030=>fd 48 2 a1030 fun t1031=>
 ld 46 t1031 h1029 fun t1032=>
 ln 46 t1032 fun t1033=>
 jn (nB 2 (ql 11 [a1030,t1032,t1033,(i 0)] h1029)) fun vs1034 h1035=>U1 vs1034 fun a1036=>ld 48 a1036 h1035 fun t1037=>
 K c 126 [t1037] h1035 fun t1038 h1039=>
 fd 48 2 a1036 fun t1040=>
 ld 46 t1040 h1039 fun t1041=>
 ln 46 t1041 fun t1042=>
 jn (nB 4 (ql 12 [t1038,t1041,t1042,(i 0)] h1039)) fun vs1043 h1044=>U0 vs1043 (oR [(i 0)] h1044)
def L10 (c:CH) (ql:QH) (us:List GV) (H:GH):RS:=U4 us fun a1045 a1046 a1047 a1048=>jn (bn .lss 3 a1048 a1047 fun t1049=>
 ob (GV.asB t1049) fun q1050=>jn (bC q1050 (oX 0 [a1045] H) (oN [a1045,a1046,a1047,a1048] H)) fun vs1051 h1052=>U4 vs1051 fun a1053 a1054 a1055 a1056=>jn (nB 1 (ix 45 a1054 a1056 fun t1057=>
 ld 103 t1057 h1052 fun t1058=>
 kOR (vAlloc y 103 h1052) fun t1059 h1060=>
 kOR (vStore y 103 t1059 t1058 h1060) fun t1061 h1062=>
 ld 103 t1059 h1062 fun t1063=>
 K c 124 [t1063] h1062 fun t1064 h1065=>
 ob (vUn .not t1064) fun t1066=>
 ob (GV.asB t1066) fun q1067=>jn (bC q1067 (oN [a1053,a1054,a1055,a1056] h1065) (oR [(i 2)] h1065)) fun vs1068 h1069=>U4 vs1068 fun a1070 a1071 a1072 a1073=>oN [a1070,a1071,a1072,a1073] h1069)) fun vs1074 h1075=>U4 vs1074 fun a1076 a1077 a1078 a1079=>bn .add 3 a1079 (i 1) fun t1080=>
 oN [a1076,a1077,a1078,t1080] h1075) (ql 10)
def L11 (c:CH) (ql:QH) (us:List GV) (H:GH):RS:=U4 us fun a1081 a1082 a1083 a1084=>jn (bn .lss 3 a1084 a1083 fun t1085=>
 ob (GV.asB t1085) fun q1086=>jn (bC q1086 (oX 2 [a1081] H) (oN [a1081,a1082,a1083,a1084] H)) fun vs1087 h1088=>U4 vs1087 fun a1089 a1090 a1091 a1092=>jn (nB 3 (ix 46 a1090 a1092 fun t1093=>
 ld 152 t1093 h1088 fun t1094=>
 kOR (vAlloc y 152 h1088) fun t1095 h1096=>
 kOR (vStore y 152 t1095 t1094 h1096) fun t1097 h1098=>
 ld 152 t1095 h1098 fun t1099=>
 fd 48 1 a1089 fun t1100=>
 ld 45 t1100 h1098 fun t1101=>
 ln 45 t1101 fun t1102=>
 K c 125 [t1099,t1102] h1098 fun t1103 h1104=>
 ob (vUn .not t1103) fun t1105=>
 ob (GV.asB t1105) fun q1106=>jn (bC q1106 (oN [a1089,a1090,a1091,a1092] h1104) (oR [(i 7)] h1104)) fun vs1107 h1108=>U4 vs1107 fun a1109 a1110 a1111 a1112=>oN [a1109,a1110,a1111,a1112] h1108)) fun vs1113 h1114=>U4 vs1113 fun a1115 a1116 a1117 a1118=>bn .add 3 a1118 (i 1) fun t1119=>
 oN [a1115,a1116,a1117,t1119] h1114) (ql 11)
def L12 (c:CH) (ql:QH) (us:List GV) (H:GH):RS:=U4 us fun a1120 a1121 a1122 a1123=>jn (bn .lss 3 a1123 a1122 fun t1124=>
 ob (GV.asB t1124) fun q1125=>jn (bC q1125 (oX 4 [] H) (oN [a1120,a1121,a1122,a1123] H)) fun vs1126 h1127=>U4 vs1126 fun a1128 a1129 a1130 a1131=>jn (nB 5 (ix 46 a1129 a1131 fun t1132=>
 ld 152 t1132 h1127 fun t1133=>
 kOR (vAlloc y 152 h1127) fun t1134 h1135=>
 kOR (vStore y 152 t1134 t1133 h1135) fun t1136 h1137=>
 ld 152 t1134 h1137 fun t1138=>
 K c 127 [t1138,a1128] h1137 fun t1139 h1140=>
 ob (vUn .not t1139) fun t1141=>
 ob (GV.asB t1141) fun q1142=>jn (bC q1142 (oN [a1128,a1129,a1130,a1131] h1140) (oR [(i 6)] h1140)) fun vs1143 h1144=>U4 vs1143 fun a1145 a1146 a1147 a1148=>oN [a1145,a1146,a1147,a1148] h1144)) fun vs1149 h1150=>U4 vs1149 fun a1151 a1152 a1153 a1154=>bn .add 3 a1154 (i 1) fun t1155=>
 oN [a1151,a1152,a1153,t1155] h1150) (ql 12)
def B98 (c:CH) (ql:QH) (us:List GV) (H:GH):RS:=U3 us fun x1156 x1157 x1158=>
 kOR (vBox x1156 H) fun t1159 h1160=>
 kOR (vBox x1157 h1160) fun t1161 h1162=>
 ld 48 t1159 h1162 fun t1163=>
 ld 25 t1161 h1162 fun t1164=>
 K c 128 [t1163,t1164] h1162 fun t1165 h1166=>
 bn .neq 42 t1165 (i 0) fun t1167=>
 ob (GV.asB t1167) fun q1168=>jn (bC q1168 (oN [x1158,t1159,t1161] h1166) (oR [t1165] h1166)) fun vs1169 h1170=>U3 vs1169 fun a1171 a1172 a1173=>ld 48 a1172 h1170 fun t1174=>
 ld 25 a1173 h1170 fun t1175=>
 K c 130 [t1174,t1175] h1170 fun t1176 h1177=>
 K c 129 [t1176,a1171] h1177 fun t1178 h1179=>
 ob (vUn .not t1178) fun t1180=>
 ob (GV.asB t1180) fun q1181=>jn (bC q1181 (oN [] h1179) (oR [(i 10)] h1179)) fun vs1182 h1183=>U0 vs1182 (oR [(i 0)] h1183)
def B99 (c:CH) (ql:QH) (us:List GV) (H:GH):RS:=U1 us fun x1184=>
 bn .geq 3 x1184 (i 1) fun t1185=>
 kOR (rG t1185 true H (some (x1184,H))) fun t1186 h1187=>
 kOR (rG t1185 true h1187 (ob (vBin y .leq 3 t1186 (i 4)) fun g1188=>some (g1188,h1187))) fun t1189 h1190=>
 ob (vPick t1185 t1189 (.bool false)) fun t1191=>
 oR [t1191] h1190
def B100 (c:CH) (ql:QH) (us:List GV) (H:GH):RS:=U2 us fun x1192 x1193=>
 kOR (vBox x1192 H) fun t1194 h1195=>
 kOR (vBox x1193 h1195) fun t1196 h1197=>
 ld 48 t1194 h1197 fun t1198=>
 ob (Option.casesOn (motive:=fun _=>Option (Option (Nat×Nat))) (ob (GV.asP t1194) fun p=>some p.1) (some none) fun k1200=>ob (GH.ver h1197 k1200) fun k1201=>some (some (k1200,k1201))) fun e1199=>
 ld 48 t1194 h1197 fun t1202=>
 ob (Option.casesOn (motive:=fun _=>Option (Option (Nat×Nat))) (ob (GV.asP t1194) fun p=>some p.1) (some none) fun k1204=>ob (GH.ver h1197 k1204) fun k1205=>some (some (k1204,k1205))) fun e1203=>
 ld 25 t1196 h1197 fun t1206=>
 ob (Option.casesOn (motive:=fun _=>Option (Option (Nat×Nat))) (ob (GV.asP t1196) fun p=>some p.1) (some none) fun k1208=>ob (GH.ver h1197 k1208) fun k1209=>some (some (k1208,k1209))) fun e1207=>
 K c 131 [t1202,t1206] h1197 fun t1210 h1211=>
 ob (pck h1211 e1199 (some ())) fun _=>
 ld 48 t1194 h1211 fun t1212=>
 ob (Option.casesOn (motive:=fun _=>Option (Option (Nat×Nat))) (ob (GV.asP t1194) fun p=>some p.1) (some none) fun k1214=>ob (GH.ver h1211 k1214) fun k1215=>vck h1197 k1214 k1215 (some (some (k1214,k1215)))) fun e1213=>
 ld 25 t1196 h1211 fun t1216=>
 ob (Option.casesOn (motive:=fun _=>Option (Option (Nat×Nat))) (ob (GV.asP t1196) fun p=>some p.1) (some none) fun k1218=>ob (GH.ver h1211 k1218) fun k1219=>vck h1197 k1218 k1219 (some (some (k1218,k1219)))) fun e1217=>
 K c 130 [t1212,t1216] h1211 fun t1220 h1221=>
 ob (pck h1221 e1199 (some ())) fun _=>
 bd 163 [(0,t1198),(1,t1210),(2,t1220)] fun t1222=>
 kOR (vBox t1222 h1221) fun t1223 h1224=>
 ob (some ()) fun _=>
 oR [t1223] h1224
def B101 (c:CH) (ql:QH) (us:List GV) (H:GH):RS:=U1 us fun x1225=>
 kOR (vBox x1225 H) fun t1226 h1227=>
 fd 25 1 t1226 fun t1228=>
 ld 23 t1228 h1227 fun t1229=>
 ln 23 t1229 fun t1230=>
 kOR (vMake y 93 t1230 t1230 h1227) fun t1231 h1232=>
 fd 25 1 t1226 fun t1233=>
 ld 23 t1233 h1232 fun t1234=>
 ln 23 t1234 fun t1235=>
 jn (nB 0 (ql 13 [t1231,t1234,t1235,(i 0)] h1232)) fun vs1236 h1237=>U1 vs1236 fun a1238=>oR [a1238] h1237
def L13 (c:CH) (ql:QH) (us:List GV) (H:GH):RS:=U4 us fun a1239 a1240 a1241 a1242=>jn (bn .lss 3 a1242 a1241 fun t1243=>
 ob (GV.asB t1243) fun q1244=>jn (bC q1244 (oX 0 [a1239] H) (oN [a1239,a1240,a1241,a1242] H)) fun vs1245 h1246=>U4 vs1245 fun a1247 a1248 a1249 a1250=>jn (nB 1 (ix 23 a1248 a1250 fun t1251=>
 ld 84 t1251 h1246 fun t1252=>
 ln 84 t1252 fun t1253=>
 jn (nB 2 (ql 14 [a1247,a1250,a1248,a1249,a1250,t1252,t1253,(i 0)] h1246)) fun vs1254 h1255=>U4 vs1254 fun a1256 a1257 a1258 a1259=>oN [a1256,a1257,a1258,a1259] h1255)) fun vs1260 h1261=>U4 vs1260 fun a1262 a1263 a1264 a1265=>bn .add 3 a1265 (i 1) fun t1266=>
 oN [a1262,a1263,a1264,t1266] h1261) (ql 13)
def L14 (c:CH) (ql:QH) (us:List GV) (H:GH):RS:=U8 us fun a1267 a1268 a1269 a1270 a1271 a1272 a1273 a1274=>jn (bn .lss 3 a1274 a1273 fun t1275=>
 ob (GV.asB t1275) fun q1276=>jn (bC q1276 (oX 2 [a1267,a1269,a1270,a1271] H) (oN [a1267,a1268,a1269,a1270,a1271,a1272,a1273,a1274] H)) fun vs1277 h1278=>U8 vs1277 fun a1279 a1280 a1281 a1282 a1283 a1284 a1285 a1286=>jn (nB 3 (ix 84 a1284 a1286 fun t1287=>
 ld 87 t1287 h1278 fun t1288=>
 kOR (vAlloc y 87 h1278) fun t1289 h1290=>
 kOR (vStore y 87 t1289 t1288 h1290) fun t1291 h1292=>
 ix 93 a1279 a1280 fun t1293=>
 ld 26 t1293 h1292 fun t1294=>
 fd 87 0 t1289 fun t1295=>
 ld 3 t1295 h1292 fun t1296=>
 bn .shl 26 (.int .u32 (.ofNat 1)) t1296 fun t1297=>
 bn .or 26 t1294 t1297 fun t1298=>
 ix 93 a1279 a1280 fun t1299=>
 kOR (vStore y 26 t1299 t1298 h1292) fun t1300 h1301=>
 oN [a1279,a1280,a1281,a1282,a1283,a1284,a1285,a1286] h1301)) fun vs1302 h1303=>U8 vs1302 fun a1304 a1305 a1306 a1307 a1308 a1309 a1310 a1311=>bn .add 3 a1311 (i 1) fun t1312=>
 oN [a1304,a1305,a1306,a1307,a1308,a1309,a1310,t1312] h1303) (ql 14)
def B102 (c:CH) (ql:QH) (us:List GV) (H:GH):RS:=U1 us fun x1313=>
 kOR (vBox x1313 H) fun t1314 h1315=>
 fd 25 0 t1314 fun t1316=>
 ld 22 t1316 h1315 fun t1317=>
 ln 22 t1317 fun t1318=>
 bn .shl 26 (.int .u32 (.ofNat 1)) t1318 fun t1319=>
 bn .sub 26 t1319 (.int .u32 (.ofNat 1)) fun t1320=>
 oR [t1320] h1315
def B103 (c:CH) (ql:QH) (us:List GV) (H:GH):RS:=U4 us fun x1321 x1322 x1323 x1324=>
 kOR (vBox x1321 H) fun t1325 h1326=>
 kOR (vAlloc y 58 h1326) fun t1327 h1328=>
 kOR (vAlloc y 58 h1328) fun t1329 h1330=>
 K c 132 [x1322] h1330 fun t1331 h1332=>
 fd 96 0 t1325 fun t1333=>
 ld 92 t1333 h1332 fun t1334=>
 ob (Option.casesOn (motive:=fun _=>Option (Option (Nat×Nat))) (ob (GV.asP t1333) fun p=>some p.1) (some none) fun k1336=>ob (GH.ver h1332 k1336) fun k1337=>some (some (k1336,k1337))) fun e1335=>
 K c 133 [t1334,t1331] h1332 fun t1338 h1339=>
 ob (some ()) fun _=>
 fd 96 3 t1325 fun t1340=>
 ld 26 t1340 h1339 fun t1341=>
 ob (Option.casesOn (motive:=fun _=>Option (Option (Nat×Nat))) (ob (GV.asP t1340) fun p=>some p.1) (some none) fun k1343=>ob (GH.ver h1339 k1343) fun k1344=>vck h1332 k1343 k1344 (some (some (k1343,k1344)))) fun e1342=>
 bn .and 26 t1338 t1341 fun t1345=>
 K c 134 [t1345] h1339 fun t1346 h1347=>
 kOR (vAlloc y 56 h1347) fun t1348 h1349=>
 kOR (vStore y 56 t1348 t1346 h1349) fun t1350 h1351=>
 fd 96 4 t1325 fun t1352=>
 ld 94 t1352 h1351 fun t1353=>
 ld 56 t1348 h1351 fun t1354=>
 ob (GV.asF t1353) fun p1357=>kOR (c p1357.1 (p1357.2.1++[t1331,t1345,t1354]++p1357.2.2) h1351) fun t1355 h1356=>
 fd 58 1 t1329 fun t1358=>
 ld 51 t1358 h1356 fun t1359=>
 kOR (vBuildS y 51 1 [(0,t1345)] h1356) fun t1360 h1361=>
 kOR (vApp y 51 51 t1359 t1360 h1361) fun t1362 h1363=>
 fd 58 1 t1329 fun t1364=>
 kOR (vStore y 51 t1364 t1362 h1363) fun t1365 h1366=>
 jn (nB 0 (ql 15 [t1331,x1324,t1325,t1327,t1329,t1345,t1348,x1323,(i 0)] h1366)) fun vs1367 h1368=>U4 vs1367 fun a1369 a1370 a1371 a1372=>ld 56 a1372 h1368 fun t1373=>
 ob (Option.casesOn (motive:=fun _=>Option (Option (Nat×Nat))) (ob (GV.asP a1372) fun p=>some p.1) (some none) fun k1375=>ob (GH.ver h1368 k1375) fun k1376=>some (some (k1375,k1376))) fun e1374=>
 fd 58 2 a1371 fun t1377=>
 kOR (vStore y 30 t1377 a1369 h1368) fun t1378 h1379=>
 ob (pck h1379 e1374 (some ())) fun _=>
 fd 58 3 a1371 fun t1380=>
 kOR (vStore y 56 t1380 t1373 h1379) fun t1381 h1382=>
 ob (some ()) fun _=>
 ld 58 a1371 h1382 fun t1383=>
 kOR (vStore y 58 a1370 t1383 h1382) fun t1384 h1385=>
 ob (ob (vLoad y 58 a1370 h1385) fun r1386=>some [r1386,(i 0)]) fun vs1387=>oR vs1387 h1385
def L15 (c:CH) (ql:QH) (us:List GV) (H:GH):RS:=U9 us fun a1388 a1389 a1390 a1391 a1392 a1393 a1394 a1395 a1396=>jn (bn .lss 3 a1396 a1395 fun t1397=>
 ob (GV.asB t1397) fun q1398=>jn (bC q1398 (oX 0 [a1388,a1391,a1392,a1394] H) (oN [a1388,a1389,a1390,a1391,a1392,a1393,a1394,a1395,a1396] H)) fun vs1399 h1400=>U9 vs1399 fun a1401 a1402 a1403 a1404 a1405 a1406 a1407 a1408 a1409=>jn (nB 1 (ob (GV.asF a1402) fun p1412=>kOR (c p1412.1 (p1412.2.1++[a1409,a1406]++p1412.2.2) h1400) fun t1410 h1411=>
 ex 0 t1410 fun t1413=>
 ex 1 t1410 fun t1414=>
 ob (vUn .not t1414) fun t1415=>
 ob (GV.asB t1415) fun q1416=>jn (bC q1416 (oN [a1401,a1402,a1403,a1404,a1405,a1406,a1407,t1413,a1408,a1409] h1411) (oX 0 [a1401,a1404,a1405,a1407] h1411)) fun vs1417 h1418=>U10 vs1417 fun a1419 a1420 a1421 a1422 a1423 a1424 a1425 a1426 a1427 a1428=>fd 96 1 a1421 fun t1429=>
 ld 93 t1429 h1418 fun t1430=>
 fd 96 2 a1421 fun t1431=>
 ld 3 t1431 h1418 fun t1432=>
 K c 135 [t1430,t1432,a1424,a1426] h1418 fun t1433 h1434=>
 ob (vUn .not t1433) fun t1435=>
 ob (GV.asB t1435) fun q1436=>jn (bC q1436 (oN [a1419,a1420,a1421,a1422,a1423,a1425,a1426,a1427,a1428] h1434) (bd 58 [] fun t1437=>
 kOR (vStore y 58 a1422 t1437 h1434) fun t1438 h1439=>
 ob (ob (vLoad y 58 a1422 h1439) fun r1440=>some [r1440,(i 11)]) fun vs1441=>oR vs1441 h1439)) fun vs1442 h1443=>U9 vs1442 fun a1444 a1445 a1446 a1447 a1448 a1449 a1450 a1451 a1452=>fd 96 0 a1446 fun t1453=>
 ld 92 t1453 h1443 fun t1454=>
 K c 136 [t1454,a1444,a1450] h1443 fun t1455 h1456=>
 fd 96 0 a1446 fun t1457=>
 ld 92 t1457 h1456 fun t1458=>
 ob (Option.casesOn (motive:=fun _=>Option (Option (Nat×Nat))) (ob (GV.asP t1457) fun p=>some p.1) (some none) fun k1460=>ob (GH.ver h1456 k1460) fun k1461=>some (some (k1460,k1461))) fun e1459=>
 K c 133 [t1458,t1455] h1456 fun t1462 h1463=>
 ob (some ()) fun _=>
 fd 96 3 a1446 fun t1464=>
 ld 26 t1464 h1463 fun t1465=>
 ob (Option.casesOn (motive:=fun _=>Option (Option (Nat×Nat))) (ob (GV.asP t1464) fun p=>some p.1) (some none) fun k1467=>ob (GH.ver h1463 k1467) fun k1468=>vck h1456 k1467 k1468 (some (some (k1467,k1468)))) fun e1466=>
 bn .and 26 t1462 t1465 fun t1469=>
 ld 56 a1449 h1463 fun t1470=>
 K c 137 [t1470,a1450,t1469] h1463 fun t1471 h1472=>
 ex 0 t1471 fun t1473=>
 ex 1 t1471 fun t1474=>
 kOR (vStore y 56 a1449 t1473 h1472) fun t1475 h1476=>
 fd 96 4 a1446 fun t1477=>
 ld 94 t1477 h1476 fun t1478=>
 ld 56 a1449 h1476 fun t1479=>
 ob (GV.asF t1478) fun p1482=>kOR (c p1482.1 (p1482.2.1++[t1455,t1469,t1479]++p1482.2.2) h1476) fun t1480 h1481=>
 fd 58 0 a1448 fun t1483=>
 ld 51 t1483 h1481 fun t1484=>
 kOR (vBuildS y 51 1 [(0,a1450)] h1481) fun t1485 h1486=>
 kOR (vApp y 51 51 t1484 t1485 h1486) fun t1487 h1488=>
 fd 58 0 a1448 fun t1489=>
 kOR (vStore y 51 t1489 t1487 h1488) fun t1490 h1491=>
 fd 58 1 a1448 fun t1492=>
 ld 51 t1492 h1491 fun t1493=>
 kOR (vBuildS y 51 1 [(0,t1469)] h1491) fun t1494 h1495=>
 kOR (vApp y 51 51 t1493 t1494 h1495) fun t1496 h1497=>
 fd 58 1 a1448 fun t1498=>
 kOR (vStore y 51 t1498 t1496 h1497) fun t1499 h1500=>
 oN [t1455,a1445,a1446,a1447,a1448,t1469,a1449,a1451,a1452] h1500)) fun vs1501 h1502=>U9 vs1501 fun a1503 a1504 a1505 a1506 a1507 a1508 a1509 a1510 a1511=>bn .add 3 a1511 (i 1) fun t1512=>
 oN [a1503,a1504,a1505,a1506,a1507,a1508,a1509,a1510,t1512] h1502) (ql 15)
def B104 (c:CH) (ql:QH) (us:List GV) (H:GH):RS:=U4 us fun x1513 x1514 x1515 x1516=>
 fd 96 1 x1515 fun t1517=>
 ld 93 t1517 H fun t1518=>
 fd 96 2 x1515 fun t1519=>
 ld 3 t1519 H fun t1520=>
 ld 51 x1516 H fun t1521=>
 ix 51 t1521 x1513 fun t1522=>
 ld 26 t1522 H fun t1523=>
 K c 105 [t1518,t1520,x1514,t1523] H fun t1524 h1525=>
 bn .neq 26 x1514 (.int .u32 (.ofNat 0)) fun t1526=>
 oR [t1524,t1526] h1525
def B112 (c:CH) (ql:QH) (us:List GV) (H:GH):RS:=U2 us fun x1527 x1528=>
 jn (nB 0 (ql 16 [x1527,x1528] H)) fun vs1529 h1530=>U1 vs1529 fun a1531=>oR [a1531] h1530
def L16 (c:CH) (ql:QH) (us:List GV) (H:GH):RS:=U2 us fun a1532 a1533=>jn (ln 9 a1532 fun t1534=>
 bn .lss 3 a1533 t1534 fun t1535=>
 ob (GV.asB t1535) fun q1536=>jn (bC q1536 (oX 0 [a1533] H) (oN [a1532,a1533] H)) fun vs1537 h1538=>U2 vs1537 fun a1539 a1540=>jn (nB 1 (ob (vAt y 9 a1539 a1540) fun t1541=>
 jn (nB 2 (bn .eql 5 t1541 (.int .u8 (.ofNat 32)) fun t1542=>
 ob (GV.asB t1542) fun q1543=>jn (bC q1543 (bn .eql 5 t1541 (.int .u8 (.ofNat 9)) fun t1544=>
 ob (GV.asB t1544) fun q1545=>jn (bC q1545 (bn .eql 5 t1541 (.int .u8 (.ofNat 10)) fun t1546=>
 ob (GV.asB t1546) fun q1547=>jn (bC q1547 (bn .eql 5 t1541 (.int .u8 (.ofNat 13)) fun t1548=>
 oN [a1539,a1540,t1541,t1548] h1538) (oN [a1539,a1540,t1541,t1546] h1538)) fun vs1549 h1550=>U4 vs1549 fun a1551 a1552 a1553 a1554=>oN [a1551,a1552,a1553,a1554] h1550) (oN [a1539,a1540,t1541,t1544] h1538)) fun vs1555 h1556=>U4 vs1555 fun a1557 a1558 a1559 a1560=>oN [a1557,a1558,a1559,a1560] h1556) (oN [a1539,a1540,t1541,t1542] h1538)) fun vs1561 h1562=>U4 vs1561 fun a1563 a1564 a1565 a1566=>ob (GV.asB a1566) fun q1567=>jn (bC q1567 (bn .eql 5 a1565 (.int .u8 (.ofNat 35)) fun t1569=>
 ob (GV.asB t1569) fun q1570=>jn (bC q1570 (oR [a1564] h1562) (jn (nB 3 (ql 17 [a1563,a1564] h1562)) fun vs1571 h1572=>U2 vs1571 fun a1573 a1574=>oN [a1573,a1574] h1572)) fun vs1575 h1576=>U2 vs1575 fun a1577 a1578=>oN [a1577,a1578] h1576) (bn .add 3 a1564 (i 1) fun t1568=>
 oN [a1563,t1568] h1562)) fun vs1579 h1580=>U2 vs1579 fun a1581 a1582=>oN [a1581,a1582] h1580)) fun vs1583 h1584=>U2 vs1583 fun a1585 a1586=>oN [a1585,a1586] h1584)) fun vs1587 h1588=>U2 vs1587 fun a1589 a1590=>oN [a1589,a1590] h1588) (ql 16)
def L17 (c:CH) (ql:QH) (us:List GV) (H:GH):RS:=U2 us fun a1591 a1592=>jn (ln 9 a1591 fun t1593=>
 bn .lss 3 a1592 t1593 fun t1594=>
 kOR (rG t1594 true H (some (a1591,H))) fun t1595 h1596=>
 kOR (rG t1594 true h1596 (some (a1592,h1596))) fun t1597 h1598=>
 kOR (rG t1594 true h1598 (ob (vAt y 9 t1595 t1597) fun g1599=>some (g1599,h1598))) fun t1600 h1601=>
 kOR (rG t1594 true h1601 (ob (vBin y .neq 5 t1600 (.int .u8 (.ofNat 10))) fun g1602=>some (g1602,h1601))) fun t1603 h1604=>
 ob (vPick t1594 t1603 (.bool false)) fun t1605=>
 ob (GV.asB t1605) fun q1606=>jn (bC q1606 (oX 3 [a1591,a1592] h1604) (oN [a1591,a1592] h1604)) fun vs1607 h1608=>U2 vs1607 fun a1609 a1610=>jn (nB 4 (bn .add 3 a1610 (i 1) fun t1611=>
 oN [a1609,t1611] h1608)) fun vs1612 h1613=>U2 vs1612 fun a1614 a1615=>oN [a1614,a1615] h1613) (ql 17)
def B113 (c:CH) (ql:QH) (us:List GV) (H:GH):RS:=U2 us fun x1616 x1617=>
 kOR (vBox x1616 H) fun t1618 h1619=>
 kOR (vBox x1617 h1619) fun t1620 h1621=>
 kOR (vAlloc y 136 h1621) fun t1622 h1623=>
 ld 9 t1618 h1623 fun t1624=>
 ld 3 t1620 h1623 fun t1625=>
 ob (vAt y 9 t1624 t1625) fun t1626=>
 jn (nB 0 (K c 141 [t1626] h1623 fun t1627 h1628=>
 ob (GV.asB t1627) fun q1629=>jn (bC q1629 (K c 143 [t1626] h1628 fun t1653 h1654=>
 ob (GV.asB t1653) fun q1655=>jn (bC q1655 (oN [t1618,t1620,t1622] h1654) (ob (GV.asF (.fn 140 [] [t1620,t1618])) fun p1658=>kOR (c p1658.1 (p1658.2.1++[(.fn 143 [] [])]++p1658.2.2) h1654) fun t1656 h1657=>
 ld 9 t1618 h1657 fun t1659=>
 ld 3 t1620 h1657 fun t1660=>
 ob (vSlice y 9 t1659 (some t1660) (some t1656) h1657) fun t1661=>
 K c 144 [t1661] h1657 fun t1662 h1663=>
 ex 0 t1662 fun t1664=>
 ex 1 t1662 fun t1665=>
 ob (vUn .not t1665) fun t1666=>
 ob (GV.asB t1666) fun q1667=>jn (bC q1667 (oN [t1620,t1622,t1656,t1664] h1663) (bd 136 [] fun t1668=>
 kOR (vStore y 136 t1622 t1668 h1663) fun t1669 h1670=>
 ob (ob (vLoad y 136 t1622 h1670) fun r1671=>some [r1671,(i 2)]) fun vs1672=>oR vs1672 h1670)) fun vs1673 h1674=>U4 vs1673 fun a1675 a1676 a1677 a1678=>ld 3 a1675 h1674 fun t1679=>
 bd 136 [(0,(i 2)),(1,t1679),(2,a1677),(3,a1678)] fun t1680=>
 kOR (vStore y 136 a1676 t1680 h1674) fun t1681 h1682=>
 ob (ob (vLoad y 136 a1676 h1682) fun r1683=>some [r1683,(i 0)]) fun vs1684=>oR vs1684 h1682)) fun vs1685 h1686=>U3 vs1685 fun a1687 a1688 a1689=>oN [a1687,a1688,a1689] h1686) (ob (GV.asF (.fn 140 [] [t1620,t1618])) fun p1632=>kOR (c p1632.1 (p1632.2.1++[(.fn 142 [] [])]++p1632.2.2) h1628) fun t1630 h1631=>
 ld 3 t1620 h1631 fun t1633=>
 bn .sub 3 t1630 t1633 fun t1634=>
 bn .gtr 3 t1634 (i 24) fun t1635=>
 ob (GV.asB t1635) fun q1636=>jn (bC q1636 (oN [t1620,t1622,t1630] h1631) (bd 136 [] fun t1637=>
 kOR (vStore y 136 t1622 t1637 h1631) fun t1638 h1639=>
 ob (ob (vLoad y 136 t1622 h1639) fun r1640=>some [r1640,(i 5)]) fun vs1641=>oR vs1641 h1639)) fun vs1642 h1643=>U3 vs1642 fun a1644 a1645 a1646=>ld 3 a1644 h1643 fun t1647=>
 bd 136 [(0,(i 1)),(1,t1647),(2,a1646)] fun t1648=>
 kOR (vStore y 136 a1645 t1648 h1643) fun t1649 h1650=>
 ob (ob (vLoad y 136 a1645 h1650) fun r1651=>some [r1651,(i 0)]) fun vs1652=>oR vs1652 h1650)) fun vs1690 h1691=>U3 vs1690 fun a1692 a1693 a1694=>oN [a1692,a1693,a1694] h1691)) fun vs1695 h1696=>U3 vs1695 fun a1697 a1698 a1699=>ld 9 a1697 h1696 fun t1700=>
 ld 3 a1698 h1696 fun t1701=>
 ob (vSlice y 9 t1700 (some t1701) none h1696) fun t1702=>
 K c 145 [t1702] h1696 fun t1703 h1704=>
 bn .eql 3 t1703 (i 0) fun t1705=>
 ob (GV.asB t1705) fun q1706=>jn (bC q1706 (oN [a1698,a1699,t1703] h1704) (bd 136 [] fun t1707=>
 kOR (vStore y 136 a1699 t1707 h1704) fun t1708 h1709=>
 ob (ob (vLoad y 136 a1699 h1709) fun r1710=>some [r1710,(i 4)]) fun vs1711=>oR vs1711 h1709)) fun vs1712 h1713=>U3 vs1712 fun a1714 a1715 a1716=>ld 3 a1714 h1713 fun t1717=>
 ld 3 a1714 h1713 fun t1718=>
 bn .add 3 t1718 a1716 fun t1719=>
 bd 136 [(0,(i 3)),(1,t1717),(2,t1719)] fun t1720=>
 kOR (vStore y 136 a1715 t1720 h1713) fun t1721 h1722=>
 ob (ob (vLoad y 136 a1715 h1722) fun r1723=>some [r1723,(i 0)]) fun vs1724=>oR vs1724 h1722
def B116 (c:CH) (ql:QH) (us:List GV) (H:GH):RS:=U2 us fun x1725 x1726=>
 K c 146 [x1725,x1726] H fun t1727 h1728=>
 ob (vUn .not t1727) fun t1729=>
 ob (GV.asB t1729) fun q1730=>jn (bC q1730 (oN [] h1728) (K c 122 [x1725,(i 4)] h1728 fun t1731 h1732=>
 oN [] h1732)) fun vs1733 h1734=>U0 vs1733 (oR [] h1734)
def B117 (c:CH) (ql:QH) (us:List GV) (H:GH):RS:=U2 us fun x1735 x1736=>
 ob (GV.nilck x1735) fun t1737=>
 fd 117 0 t1737 fun t1738=>
 K c 147 [t1738] H fun t1739 h1740=>
 ob (GV.nilck x1735) fun t1741=>
 fd 117 0 t1741 fun t1742=>
 K c 148 [t1742] h1740 fun t1743 h1744=>
 bn .neq 3 t1743 (i 1) fun t1745=>
 kOR (rG t1745 false h1744 (some (t1739,h1744))) fun t1746 h1747=>
 kOR (rG t1745 false h1747 (kOR (c 149 [t1746] h1747) orK)) fun t1748 h1749=>
 kOR (rG t1745 false h1749 (ob (vUn .not t1748) fun g1750=>some (g1750,h1749))) fun t1751 h1752=>
 ob (vPick t1745 (.bool true) t1751) fun t1753=>
 ob (GV.asB t1753) fun q1754=>jn (bC q1754 (oN [x1735,x1736,t1739] h1752) (ob (GV.nilck x1735) fun t1755=>
 fd 117 0 t1755 fun t1756=>
 K c 122 [t1756,(i 4)] h1752 fun t1757 h1758=>
 oN [x1735,x1736,t1739] h1758)) fun vs1759 h1760=>U3 vs1759 fun a1761 a1762 a1763=>ln 113 a1762 fun t1764=>
 jn (nB 0 (ql 18 [a1761,a1763,a1762,t1764,(i 0)] h1760)) fun vs1765 h1766=>U2 vs1765 fun a1767 a1768=>ob (GV.nilck a1767) fun t1769=>
 fd 117 0 t1769 fun t1770=>
 K c 150 [t1770] h1766 fun t1771 h1772=>
 oR [a1768] h1772
def L18 (c:CH) (ql:QH) (us:List GV) (H:GH):RS:=U5 us fun a1773 a1774 a1775 a1776 a1777=>jn (bn .lss 3 a1777 a1776 fun t1778=>
 ob (GV.asB t1778) fun q1779=>jn (bC q1779 (oX 0 [a1773,a1774] H) (oN [a1773,a1774,a1775,a1776,a1777] H)) fun vs1780 h1781=>U5 vs1780 fun a1782 a1783 a1784 a1785 a1786=>jn (nB 1 (ix 113 a1784 a1786 fun t1787=>
 ld 9 t1787 h1781 fun t1788=>
 bn .eql 9 t1788 a1783 fun t1789=>
 ob (GV.asB t1789) fun q1790=>jn (bC q1790 (oN [a1782,a1783,a1784,a1785,a1786] h1781) (ob (GV.nilck a1782) fun t1791=>
 fd 117 0 t1791 fun t1792=>
 K c 122 [t1792,(i 5)] h1781 fun t1793 h1794=>
 oN [a1782,a1783,a1784,a1785,a1786] h1794)) fun vs1795 h1796=>U5 vs1795 fun a1797 a1798 a1799 a1800 a1801=>oN [a1797,a1798,a1799,a1800,a1801] h1796)) fun vs1802 h1803=>U5 vs1802 fun a1804 a1805 a1806 a1807 a1808=>bn .add 3 a1808 (i 1) fun t1809=>
 oN [a1804,a1805,a1806,a1807,t1809] h1803) (ql 18)
def B118 (c:CH) (ql:QH) (us:List GV) (H:GH):RS:=U4 us fun x1810 x1811 x1812 x1813=>
 jn (nB 0 (ql 19 [x1810,x1811,x1812,x1813,(i 0)] H)) fun vs1814 h1815=>U0 vs1814 (oR [] h1815)
def L19 (c:CH) (ql:QH) (us:List GV) (H:GH):RS:=U5 us fun a1816 a1817 a1818 a1819 a1820=>jn (ob (GV.nilck a1816) fun t1821=>
 fd 117 0 t1821 fun t1822=>
 K c 147 [t1822] H fun t1823 h1824=>
 bn .eql 9 t1823 a1817 fun t1825=>
 ob (GV.asB t1825) fun q1826=>jn (bC q1826 (oX 0 [] h1824) (oN [a1816,a1817,a1818,a1819,a1820] h1824)) fun vs1827 h1828=>U5 vs1827 fun a1829 a1830 a1831 a1832 a1833=>jn (nB 1 (bn .eql 3 a1833 a1831 fun t1834=>
 ob (GV.asB t1834) fun q1835=>jn (bC q1835 (oN [a1829,a1830,a1831,a1832,a1833] h1828) (ob (GV.nilck a1829) fun t1836=>
 fd 117 0 t1836 fun t1837=>
 K c 122 [t1837,(i 3)] h1828 fun t1838 h1839=>
 oN [a1829,a1830,a1831,a1832,a1833] h1839)) fun vs1840 h1841=>U5 vs1840 fun a1842 a1843 a1844 a1845 a1846=>ob (GV.nilck a1842) fun t1847=>
 fd 117 0 t1847 fun t1848=>
 K c 150 [t1848] h1841 fun t1849 h1850=>
 ob (GV.asF a1845) fun p1853=>kOR (c p1853.1 (p1853.2.1++[]++p1853.2.2) h1850) fun t1851 h1852=>
 oN [a1842,a1843,a1844,a1845,a1846] h1852)) fun vs1854 h1855=>U5 vs1854 fun a1856 a1857 a1858 a1859 a1860=>bn .add 3 a1860 (i 1) fun t1861=>
 oN [a1856,a1857,a1858,a1859,t1861] h1855) (ql 19)
def B119 (c:CH) (ql:QH) (us:List GV) (H:GH):RS:=U1 us fun x1862=>
 ob (GV.nilck x1862) fun t1863=>
 fd 117 0 t1863 fun t1864=>
 fd 115 2 t1864 fun t1865=>
 ld 113 t1865 H fun t1866=>
 K c 117 [x1862,t1866] H fun t1867 h1868=>
 bd 103 [(0,t1867)] fun t1869=>
 kOR (vAlloc y 103 h1868) fun t1870 h1871=>
 kOR (vStore y 103 t1870 t1869 h1871) fun t1872 h1873=>
 ob (GV.nilck x1862) fun t1874=>
 fd 117 0 t1874 fun t1875=>
 K c 116 [t1875,(.str 58 1)] h1873 fun t1876 h1877=>
 jn (nB 0 (ob (GV.nilck x1862) fun t1878=>
 fd 117 0 t1878 fun t1879=>
 K c 146 [t1879,(.str 1819242338 4)] h1877 fun t1880 h1881=>
 ob (GV.asB t1880) fun q1882=>jn (bC q1882 (ob (GV.nilck x1862) fun t1886=>
 fd 117 0 t1886 fun t1887=>
 K c 146 [t1887,(.str 1953656688 4)] h1881 fun t1888 h1889=>
 ob (GV.asB t1888) fun q1890=>jn (bC q1890 (fd 103 1 t1870 fun t1894=>
 kOR (vStore y 3 t1894 (i 1) h1889) fun t1895 h1896=>
 K c 151 [x1862,(i 0),(i 4096)] h1896 fun t1897 h1898=>
 fd 103 2 t1870 fun t1899=>
 kOR (vStore y 3 t1899 t1897 h1898) fun t1900 h1901=>
 ob (GV.nilck x1862) fun t1902=>
 fd 117 0 t1902 fun t1903=>
 K c 116 [t1903,(.str 11822 2)] h1901 fun t1904 h1905=>
 K c 152 [x1862,t1870] h1905 fun t1906 h1907=>
 oN [x1862,t1870] h1907) (fd 103 1 t1870 fun t1891=>
 kOR (vStore y 3 t1891 (i 3) h1889) fun t1892 h1893=>
 oN [x1862,t1870] h1893)) fun vs1908 h1909=>U2 vs1908 fun a1910 a1911=>oN [a1910,a1911] h1909) (fd 103 1 t1870 fun t1883=>
 kOR (vStore y 3 t1883 (i 2) h1881) fun t1884 h1885=>
 oN [x1862,t1870] h1885)) fun vs1912 h1913=>U2 vs1912 fun a1914 a1915=>oN [a1914,a1915] h1913)) fun vs1916 h1917=>U2 vs1916 fun a1918 a1919=>ob (GV.nilck a1918) fun t1920=>
 fd 117 0 t1920 fun t1921=>
 K c 116 [t1921,(.str 59 1)] h1917 fun t1922 h1923=>
 ob (GV.nilck a1918) fun t1924=>
 fd 117 0 t1924 fun t1925=>
 fd 115 2 t1925 fun t1926=>
 ld 113 t1926 h1923 fun t1927=>
 ob (Option.casesOn (motive:=fun _=>Option (Option (Nat×Nat))) (ob (GV.asP t1926) fun p=>some p.1) (some none) fun k1929=>ob (GH.ver h1923 k1929) fun k1930=>some (some (k1929,k1930))) fun e1928=>
 fd 103 0 a1919 fun t1931=>
 ld 9 t1931 h1923 fun t1932=>
 ob (Option.casesOn (motive:=fun _=>Option (Option (Nat×Nat))) (ob (GV.asP t1931) fun p=>some p.1) (some none) fun k1934=>ob (GH.ver h1923 k1934) fun k1935=>some (some (k1934,k1935))) fun e1933=>
 kOR (vBuildS y 113 1 [(0,t1932)] h1923) fun t1936 h1937=>
 ob (pck h1937 e1928 (some ())) fun _=>
 kOR (vApp y 113 113 t1927 t1936 h1937) fun t1938 h1939=>
 ob (some ()) fun _=>
 ob (GV.nilck a1918) fun t1940=>
 fd 117 0 t1940 fun t1941=>
 fd 115 2 t1941 fun t1942=>
 kOR (vStore y 113 t1942 t1938 h1939) fun t1943 h1944=>
 ob (some ()) fun _=>
 ob (GV.nilck a1918) fun t1945=>
 fd 117 1 t1945 fun t1946=>
 fd 48 1 t1946 fun t1947=>
 ld 45 t1947 h1944 fun t1948=>
 ob (Option.casesOn (motive:=fun _=>Option (Option (Nat×Nat))) (ob (GV.asP t1947) fun p=>some p.1) (some none) fun k1950=>ob (GH.ver h1944 k1950) fun k1951=>some (some (k1950,k1951))) fun e1949=>
 ld 103 a1919 h1944 fun t1952=>
 ob (Option.casesOn (motive:=fun _=>Option (Option (Nat×Nat))) (ob (GV.asP a1919) fun p=>some p.1) (some none) fun k1954=>ob (GH.ver h1944 k1954) fun k1955=>some (some (k1954,k1955))) fun e1953=>
 kOR (vBuildS y 45 1 [(0,t1952)] h1944) fun t1956 h1957=>
 ob (pck h1957 e1949 (some ())) fun _=>
 kOR (vApp y 45 45 t1948 t1956 h1957) fun t1958 h1959=>
 ob (some ()) fun _=>
 ob (GV.nilck a1918) fun t1960=>
 fd 117 1 t1960 fun t1961=>
 fd 48 1 t1961 fun t1962=>
 kOR (vStore y 45 t1962 t1958 h1959) fun t1963 h1964=>
 ob (some ()) fun _=>
 oR [] h1964
def B120 (c:CH) (ql:QH) (us:List GV) (H:GH):RS:=U1 us fun x1965=>
 ob (GV.nilck x1965) fun t1966=>
 fd 117 2 t1966 fun t1967=>
 ld 113 t1967 H fun t1968=>
 K c 117 [x1965,t1968] H fun t1969 h1970=>
 bd 152 [(0,t1969)] fun t1971=>
 kOR (vAlloc y 152 h1970) fun t1972 h1973=>
 kOR (vStore y 152 t1972 t1971 h1973) fun t1974 h1975=>
 ob (GV.nilck x1965) fun t1976=>
 fd 117 2 t1976 fun t1977=>
 ld 113 t1977 h1975 fun t1978=>
 ob (Option.casesOn (motive:=fun _=>Option (Option (Nat×Nat))) (ob (GV.asP t1977) fun p=>some p.1) (some none) fun k1980=>ob (GH.ver h1975 k1980) fun k1981=>some (some (k1980,k1981))) fun e1979=>
 fd 152 0 t1972 fun t1982=>
 ld 9 t1982 h1975 fun t1983=>
 ob (Option.casesOn (motive:=fun _=>Option (Option (Nat×Nat))) (ob (GV.asP t1982) fun p=>some p.1) (some none) fun k1985=>ob (GH.ver h1975 k1985) fun k1986=>some (some (k1985,k1986))) fun e1984=>
 kOR (vBuildS y 113 1 [(0,t1983)] h1975) fun t1987 h1988=>
 ob (pck h1988 e1979 (some ())) fun _=>
 kOR (vApp y 113 113 t1978 t1987 h1988) fun t1989 h1990=>
 ob (some ()) fun _=>
 ob (GV.nilck x1965) fun t1991=>
 fd 117 2 t1991 fun t1992=>
 kOR (vStore y 113 t1992 t1989 h1990) fun t1993 h1994=>
 ob (some ()) fun _=>
 ob (GV.nilck x1965) fun t1995=>
 fd 117 0 t1995 fun t1996=>
 K c 116 [t1996,(.str 58 1)] h1994 fun t1997 h1998=>
 ob (GV.nilck x1965) fun t1999=>
 fd 117 0 t1999 fun t2000=>
 K c 153 [t2000] h1998 fun t2001 h2002=>
 fd 152 1 t1972 fun t2003=>
 kOR (vStore y 149 t2003 t2001 h2002) fun t2004 h2005=>
 ob (GV.nilck x1965) fun t2006=>
 fd 117 0 t2006 fun t2007=>
 K c 116 [t2007,(.str 15917 2)] h2005 fun t2008 h2009=>
 jn (nB 0 (ql 20 [x1965,t1972] h2009)) fun vs2010 h2011=>U2 vs2010 fun a2012 a2013=>ob (GV.nilck a2012) fun t2014=>
 fd 117 0 t2014 fun t2015=>
 K c 116 [t2015,(.str 59 1)] h2011 fun t2016 h2017=>
 ob (GV.nilck a2012) fun t2018=>
 fd 117 1 t2018 fun t2019=>
 fd 48 2 t2019 fun t2020=>
 ld 46 t2020 h2017 fun t2021=>
 ob (Option.casesOn (motive:=fun _=>Option (Option (Nat×Nat))) (ob (GV.asP t2020) fun p=>some p.1) (some none) fun k2023=>ob (GH.ver h2017 k2023) fun k2024=>some (some (k2023,k2024))) fun e2022=>
 ld 152 a2013 h2017 fun t2025=>
 ob (Option.casesOn (motive:=fun _=>Option (Option (Nat×Nat))) (ob (GV.asP a2013) fun p=>some p.1) (some none) fun k2027=>ob (GH.ver h2017 k2027) fun k2028=>some (some (k2027,k2028))) fun e2026=>
 kOR (vBuildS y 46 1 [(0,t2025)] h2017) fun t2029 h2030=>
 ob (pck h2030 e2022 (some ())) fun _=>
 kOR (vApp y 46 46 t2021 t2029 h2030) fun t2031 h2032=>
 ob (some ()) fun _=>
 ob (GV.nilck a2012) fun t2033=>
 fd 117 1 t2033 fun t2034=>
 fd 48 2 t2034 fun t2035=>
 kOR (vStore y 46 t2035 t2031 h2032) fun t2036 h2037=>
 ob (some ()) fun _=>
 oR [] h2037
def L20 (c:CH) (ql:QH) (us:List GV) (H:GH):RS:=U2 us fun a2038 a2039=>jn (jn (nB 1 (ob (GV.nilck a2038) fun t2040=>
 fd 117 0 t2040 fun t2041=>
 K c 154 [t2041] H fun t2042 h2043=>
 bd 186 [(0,t2042)] fun t2044=>
 kOR (vAlloc y 186 h2043) fun t2045 h2046=>
 kOR (vStore y 186 t2045 t2044 h2046) fun t2047 h2048=>
 ob (GV.nilck a2038) fun t2049=>
 fd 117 0 t2049 fun t2050=>
 K c 116 [t2050,(.str 15674 2)] h2048 fun t2051 h2052=>
 ob (GV.nilck a2038) fun t2053=>
 fd 117 0 t2053 fun t2054=>
 K c 153 [t2054] h2052 fun t2055 h2056=>
 fd 186 1 t2045 fun t2057=>
 kOR (vStore y 149 t2057 t2055 h2056) fun t2058 h2059=>
 fd 152 2 a2039 fun t2060=>
 ld 150 t2060 h2059 fun t2061=>
 ld 186 t2045 h2059 fun t2062=>
 kOR (vBuildS y 150 1 [(0,t2062)] h2059) fun t2063 h2064=>
 kOR (vApp y 150 150 t2061 t2063 h2064) fun t2065 h2066=>
 fd 152 2 a2039 fun t2067=>
 kOR (vStore y 150 t2067 t2065 h2066) fun t2068 h2069=>
 ob (GV.nilck a2038) fun t2070=>
 fd 117 0 t2070 fun t2071=>
 K c 146 [t2071,(.str 44 1)] h2069 fun t2072 h2073=>
 ob (vUn .not t2072) fun t2074=>
 ob (GV.asB t2074) fun q2075=>jn (bC q2075 (oN [a2038,a2039] h2073) (oX 0 [a2038,a2039] h2073)) fun vs2076 h2077=>U2 vs2076 fun a2078 a2079=>oN [a2078,a2079] h2077)) fun vs2080 h2081=>U2 vs2080 fun a2082 a2083=>oN [a2082,a2083] h2081) (ql 20)
def B121 (c:CH) (ql:QH) (us:List GV) (H:GH):RS:=U1 us fun x2084=>
 ob (GV.nilck x2084) fun t2085=>
 fd 115 1 t2085 fun t2086=>
 ld 109 t2086 H fun t2087=>
 ln 109 t2087 fun t2088=>
 bn .eql 3 t2088 (i 0) fun t2089=>
 oR [t2089] H
def B122 (c:CH) (ql:QH) (us:List GV) (H:GH):RS:=U2 us fun x2090 x2091=>
 ob (GV.nilck x2090) fun t2092=>
 fd 115 0 t2092 fun t2093=>
 ld 9 t2093 H fun t2094=>
 ln 9 t2094 fun t2095=>
 ob (GV.nilck x2090) fun t2096=>
 fd 115 1 t2096 fun t2097=>
 ld 109 t2097 H fun t2098=>
 ln 109 t2098 fun t2099=>
 bn .gtr 3 t2099 (i 0) fun t2100=>
 ob (GV.asB t2100) fun q2101=>jn (bC q2101 (oN [x2091,t2095] H) (ob (GV.nilck x2090) fun t2102=>
 fd 115 1 t2102 fun t2103=>
 ld 109 t2103 H fun t2104=>
 ix 109 t2104 (i 0) fun t2105=>
 fd 136 1 t2105 fun t2106=>
 ld 3 t2106 H fun t2107=>
 oN [x2091,t2107] H)) fun vs2108 h2109=>U2 vs2108 fun a2110 a2111=>bd 140 [(0,a2111),(1,a2110)] fun t2112=>
 none
def B123 (c:CH) (ql:QH) (us:List GV) (H:GH):RS:=U1 us fun x2113=>
 kOR (vBox x2113 H) fun t2114 h2115=>
 fd 48 0 t2114 fun t2116=>
 ld 9 t2116 h2115 fun t2117=>
 K c 149 [t2117] h2115 fun t2118 h2119=>
 ob (vUn .not t2118) fun t2120=>
 ob (GV.asB t2120) fun q2121=>jn (bC q2121 (oN [t2114] h2119) (oR [(.bool false)] h2119)) fun vs2122 h2123=>U1 vs2122 fun a2124=>kOR (vMakeMap h2123) fun t2125 h2126=>
 fd 48 1 a2124 fun t2127=>
 ld 45 t2127 h2126 fun t2128=>
 ln 45 t2128 fun t2129=>
 jn (nB 0 (ql 21 [a2124,t2125,t2128,t2129,(i 0)] h2126)) fun vs2130 h2131=>U1 vs2130 fun a2132=>kOR (vMakeMap h2131) fun t2133 h2134=>
 fd 48 2 a2132 fun t2135=>
 ld 46 t2135 h2134 fun t2136=>
 ln 46 t2136 fun t2137=>
 jn (nB 2 (ql 22 [t2133,t2136,t2137,(i 0)] h2134)) fun vs2138 h2139=>U0 vs2138 (oR [(.bool true)] h2139)
def L21 (c:CH) (ql:QH) (us:List GV) (H:GH):RS:=U5 us fun a2140 a2141 a2142 a2143 a2144=>jn (bn .lss 3 a2144 a2143 fun t2145=>
 ob (GV.asB t2145) fun q2146=>jn (bC q2146 (oX 0 [a2140] H) (oN [a2140,a2141,a2142,a2143,a2144] H)) fun vs2147 h2148=>U5 vs2147 fun a2149 a2150 a2151 a2152 a2153=>jn (nB 1 (ix 45 a2151 a2153 fun t2154=>
 ld 103 t2154 h2148 fun t2155=>
 kOR (vAlloc y 103 h2148) fun t2156 h2157=>
 kOR (vStore y 103 t2156 t2155 h2157) fun t2158 h2159=>
 fd 103 0 t2156 fun t2160=>
 ld 9 t2160 h2159 fun t2161=>
 K c 149 [t2161] h2159 fun t2162 h2163=>
 ob (vUn .not t2162) fun t2164=>
 kOR (rG t2164 false h2163 (some (a2150,h2163))) fun t2165 h2166=>
 kOR (rG t2164 false h2166 (ob (vField y 103 0 t2156) fun g2167=>some (g2167,h2166))) fun t2168 h2169=>
 kOR (rG t2164 false h2169 (ob (vLoad y 9 t2168 h2169) fun g2170=>some (g2170,h2169))) fun t2171 h2172=>
 kOR (rG t2164 false h2172 (ob (vLook y 187 false t2165 t2171 h2172) fun g2173=>some (g2173,h2172))) fun t2174 h2175=>
 ob (vPick t2164 (.bool true) t2174) fun t2176=>
 ob (GV.asB t2176) fun q2177=>jn (bC q2177 (oN [a2149,a2150,t2156,a2151,a2152,a2153] h2175) (oR [(.bool false)] h2175)) fun vs2178 h2179=>U6 vs2178 fun a2180 a2181 a2182 a2183 a2184 a2185=>fd 103 0 a2182 fun t2186=>
 ld 9 t2186 h2179 fun t2187=>
 kOR (vMapUp y 187 a2181 t2187 (.bool true) h2179) fun t2188 h2189=>
 oN [a2180,a2181,a2183,a2184,a2185] h2189)) fun vs2190 h2191=>U5 vs2190 fun a2192 a2193 a2194 a2195 a2196=>bn .add 3 a2196 (i 1) fun t2197=>
 oN [a2192,a2193,a2194,a2195,t2197] h2191) (ql 21)
def L22 (c:CH) (ql:QH) (us:List GV) (H:GH):RS:=U4 us fun a2198 a2199 a2200 a2201=>jn (bn .lss 3 a2201 a2200 fun t2202=>
 ob (GV.asB t2202) fun q2203=>jn (bC q2203 (oX 2 [] H) (oN [a2198,a2199,a2200,a2201] H)) fun vs2204 h2205=>U4 vs2204 fun a2206 a2207 a2208 a2209=>jn (nB 3 (ix 46 a2207 a2209 fun t2210=>
 ld 152 t2210 h2205 fun t2211=>
 kOR (vAlloc y 152 h2205) fun t2212 h2213=>
 kOR (vStore y 152 t2212 t2211 h2213) fun t2214 h2215=>
 fd 152 0 t2212 fun t2216=>
 ld 9 t2216 h2215 fun t2217=>
 K c 149 [t2217] h2215 fun t2218 h2219=>
 ob (vUn .not t2218) fun t2220=>
 kOR (rG t2220 false h2219 (some (a2206,h2219))) fun t2221 h2222=>
 kOR (rG t2220 false h2222 (ob (vField y 152 0 t2212) fun g2223=>some (g2223,h2222))) fun t2224 h2225=>
 kOR (rG t2220 false h2225 (ob (vLoad y 9 t2224 h2225) fun g2226=>some (g2226,h2225))) fun t2227 h2228=>
 kOR (rG t2220 false h2228 (ob (vLook y 187 false t2221 t2227 h2228) fun g2229=>some (g2229,h2228))) fun t2230 h2231=>
 ob (vPick t2220 (.bool true) t2230) fun t2232=>
 ob (GV.asB t2232) fun q2233=>jn (bC q2233 (oN [a2206,t2212,a2207,a2208,a2209] h2231) (oR [(.bool false)] h2231)) fun vs2234 h2235=>U5 vs2234 fun a2236 a2237 a2238 a2239 a2240=>fd 152 0 a2237 fun t2241=>
 ld 9 t2241 h2235 fun t2242=>
 kOR (vMapUp y 187 a2236 t2242 (.bool true) h2235) fun t2243 h2244=>
 oN [a2236,a2238,a2239,a2240] h2244)) fun vs2245 h2246=>U4 vs2245 fun a2247 a2248 a2249 a2250=>bn .add 3 a2250 (i 1) fun t2251=>
 oN [a2247,a2248,a2249,t2251] h2246) (ql 22)
def B124 (c:CH) (ql:QH) (us:List GV) (H:GH):RS:=U1 us fun x2252=>
 kOR (vBox x2252 H) fun t2253 h2254=>
 fd 103 1 t2253 fun t2255=>
 ld 3 t2255 h2254 fun t2256=>
 K c 155 [t2256] h2254 fun t2257 h2258=>
 ob (vUn .not t2257) fun t2259=>
 ob (GV.asB t2259) fun q2260=>jn (bC q2260 (oN [t2253] h2258) (oR [(.bool false)] h2258)) fun vs2261 h2262=>U1 vs2261 fun a2263=>fd 103 1 a2263 fun t2264=>
 ld 3 t2264 h2262 fun t2265=>
 bn .neq 3 t2265 (i 1) fun t2266=>
 ob (GV.asB t2266) fun q2267=>jn (bC q2267 (oN [a2263] h2262) (fd 103 2 a2263 fun t2268=>
 ld 3 t2268 h2262 fun t2269=>
 bn .eql 3 t2269 (i 0) fun t2270=>
 kOR (rG t2270 true h2262 (ob (vField y 103 3 a2263) fun g2271=>some (g2271,h2262))) fun t2272 h2273=>
 kOR (rG t2270 true h2273 (ob (vLoad y 3 t2272 h2273) fun g2274=>some (g2274,h2273))) fun t2275 h2276=>
 kOR (rG t2270 true h2276 (ob (vBin y .eql 3 t2275 (i 0)) fun g2277=>some (g2277,h2276))) fun t2278 h2279=>
 ob (vPick t2270 t2278 (.bool false)) fun t2280=>
 kOR (rG t2280 true h2279 (ob (vField y 103 4 a2263) fun g2281=>some (g2281,h2279))) fun t2282 h2283=>
 kOR (rG t2280 true h2283 (ob (vLoad y 3 t2282 h2283) fun g2284=>some (g2284,h2283))) fun t2285 h2286=>
 kOR (rG t2280 true h2286 (ob (vBin y .eql 3 t2285 (i 0)) fun g2287=>some (g2287,h2286))) fun t2288 h2289=>
 ob (vPick t2280 t2288 (.bool false)) fun t2290=>
 kOR (rG t2290 true h2289 (ob (vField y 103 5 a2263) fun g2291=>some (g2291,h2289))) fun t2292 h2293=>
 kOR (rG t2290 true h2293 (ob (vLoad y 3 t2292 h2293) fun g2294=>some (g2294,h2293))) fun t2295 h2296=>
 kOR (rG t2290 true h2296 (ob (vBin y .eql 3 t2295 (i 0)) fun g2297=>some (g2297,h2296))) fun t2298 h2299=>
 ob (vPick t2290 t2298 (.bool false)) fun t2300=>
 oR [t2300] h2299)) fun vs2301 h2302=>U1 vs2301 fun a2303=>fd 103 2 a2303 fun t2304=>
 ld 3 t2304 h2302 fun t2305=>
 K c 156 [t2305,(i 0),(i 4096)] h2302 fun t2306 h2307=>
 ob (vUn .not t2306) fun t2308=>
 kOR (rG t2308 false h2307 (ob (vField y 103 4 a2303) fun g2309=>some (g2309,h2307))) fun t2310 h2311=>
 kOR (rG t2308 false h2311 (ob (vLoad y 3 t2310 h2311) fun g2312=>some (g2312,h2311))) fun t2313 h2314=>
 kOR (rG t2308 false h2314 (kOR (c 156 [t2313,(i 0),(i 255)] h2314) orK)) fun t2315 h2316=>
 kOR (rG t2308 false h2316 (ob (vUn .not t2315) fun g2317=>some (g2317,h2316))) fun t2318 h2319=>
 ob (vPick t2308 (.bool true) t2318) fun t2320=>
 kOR (rG t2320 false h2319 (ob (vField y 103 5 a2303) fun g2321=>some (g2321,h2319))) fun t2322 h2323=>
 kOR (rG t2320 false h2323 (ob (vLoad y 3 t2322 h2323) fun g2324=>some (g2324,h2323))) fun t2325 h2326=>
 kOR (rG t2320 false h2326 (kOR (c 156 [t2325,(i 0),(i 255)] h2326) orK)) fun t2327 h2328=>
 kOR (rG t2320 false h2328 (ob (vUn .not t2327) fun g2329=>some (g2329,h2328))) fun t2330 h2331=>
 ob (vPick t2320 (.bool true) t2330) fun t2332=>
 ob (GV.asB t2332) fun q2333=>jn (bC q2333 (oN [a2303] h2331) (oR [(.bool false)] h2331)) fun vs2334 h2335=>U1 vs2334 fun a2336=>fd 103 4 a2336 fun t2337=>
 ld 3 t2337 h2335 fun t2338=>
 bn .eql 3 t2338 (i 0) fun t2339=>
 kOR (rG t2339 true h2335 (ob (vField y 103 5 a2336) fun g2340=>some (g2340,h2335))) fun t2341 h2342=>
 kOR (rG t2339 true h2342 (ob (vLoad y 3 t2341 h2342) fun g2343=>some (g2343,h2342))) fun t2344 h2345=>
 kOR (rG t2339 true h2345 (ob (vBin y .eql 3 t2344 (i 0)) fun g2346=>some (g2346,h2345))) fun t2347 h2348=>
 ob (vPick t2339 t2347 (.bool false)) fun t2349=>
 ob (GV.asB t2349) fun q2350=>jn (bC q2350 (oN [a2336] h2348) (fd 103 3 a2336 fun t2351=>
 ld 3 t2351 h2348 fun t2352=>
 K c 156 [t2352,(i 0),(i 4096)] h2348 fun t2353 h2354=>
 oR [t2353] h2354)) fun vs2355 h2356=>U1 vs2355 fun a2357=>fd 103 4 a2357 fun t2358=>
 ld 3 t2358 h2356 fun t2359=>
 bn .eql 3 t2359 (i 0) fun t2360=>
 kOR (rG t2360 false h2356 (ob (vField y 103 5 a2357) fun g2361=>some (g2361,h2356))) fun t2362 h2363=>
 kOR (rG t2360 false h2363 (ob (vLoad y 3 t2362 h2363) fun g2364=>some (g2364,h2363))) fun t2365 h2366=>
 kOR (rG t2360 false h2366 (ob (vBin y .eql 3 t2365 (i 0)) fun g2367=>some (g2367,h2366))) fun t2368 h2369=>
 ob (vPick t2360 (.bool true) t2368) fun t2370=>
 kOR (rG t2370 true h2369 (ob (vField y 103 3 a2357) fun g2371=>some (g2371,h2369))) fun t2372 h2373=>
 kOR (rG t2370 true h2373 (ob (vLoad y 3 t2372 h2373) fun g2374=>some (g2374,h2373))) fun t2375 h2376=>
 kOR (rG t2370 true h2376 (kOR (c 156 [t2375,(.int .i64 (.negSucc 4095)),(i 4096)] h2376) orK)) fun t2377 h2378=>
 ob (vPick t2370 t2377 (.bool false)) fun t2379=>
 oR [t2379] h2378
def B125 (c:CH) (ql:QH) (us:List GV) (H:GH):RS:=U2 us fun x2380 x2381=>
 kOR (vBox x2380 H) fun t2382 h2383=>
 fd 152 2 t2382 fun t2384=>
 ld 150 t2384 h2383 fun t2385=>
 ln 150 t2385 fun t2386=>
 bn .eql 3 t2386 (i 0) fun t2387=>
 kOR (rG t2387 false h2383 (ob (vField y 152 2 t2382) fun g2388=>some (g2388,h2383))) fun t2389 h2390=>
 kOR (rG t2387 false h2390 (ob (vLoad y 150 t2389 h2390) fun g2391=>some (g2391,h2390))) fun t2392 h2393=>
 kOR (rG t2387 false h2393 (ob (vLen y 150 t2392) fun g2394=>some (g2394,h2393))) fun t2395 h2396=>
 kOR (rG t2387 false h2396 (ob (vBin y .gtr 3 t2395 (i 6)) fun g2397=>some (g2397,h2396))) fun t2398 h2399=>
 ob (vPick t2387 (.bool true) t2398) fun t2400=>
 kOR (rG t2400 false h2399 (ob (vField y 152 1 t2382) fun g2401=>some (g2401,h2399))) fun t2402 h2403=>
 kOR (rG t2400 false h2403 (ob (vLoad y 149 t2402 h2403) fun g2404=>some (g2404,h2403))) fun t2405 h2406=>
 kOR (rG t2400 false h2406 (some (x2381,h2406))) fun t2407 h2408=>
 kOR (rG t2400 false h2408 (kOR (c 157 [t2405,t2407] h2408) orK)) fun t2409 h2410=>
 kOR (rG t2400 false h2410 (ob (vUn .not t2409) fun g2411=>some (g2411,h2410))) fun t2412 h2413=>
 ob (vPick t2400 (.bool true) t2412) fun t2414=>
 ob (GV.asB t2414) fun q2415=>jn (bC q2415 (oN [x2381,t2382] h2413) (oR [(.bool false)] h2413)) fun vs2416 h2417=>U2 vs2416 fun a2418 a2419=>kOR (vMakeMap h2417) fun t2420 h2421=>
 fd 152 2 a2419 fun t2422=>
 ld 150 t2422 h2421 fun t2423=>
 ln 150 t2423 fun t2424=>
 jn (nB 0 (ql 23 [a2418,t2420,t2423,t2424,(i 0)] h2421)) fun vs2425 h2426=>U0 vs2425 (oR [(.bool true)] h2426)
def L23 (c:CH) (ql:QH) (us:List GV) (H:GH):RS:=U5 us fun a2427 a2428 a2429 a2430 a2431=>jn (bn .lss 3 a2431 a2430 fun t2432=>
 ob (GV.asB t2432) fun q2433=>jn (bC q2433 (oX 0 [] H) (oN [a2427,a2428,a2429,a2430,a2431] H)) fun vs2434 h2435=>U5 vs2434 fun a2436 a2437 a2438 a2439 a2440=>jn (nB 1 (ix 150 a2438 a2440 fun t2441=>
 ld 186 t2441 h2435 fun t2442=>
 kOR (vAlloc y 186 h2435) fun t2443 h2444=>
 kOR (vStore y 186 t2443 t2442 h2444) fun t2445 h2446=>
 fd 186 0 t2443 fun t2447=>
 ld 3 t2447 h2446 fun t2448=>
 bn .sub 3 a2436 (i 1) fun t2449=>
 K c 156 [t2448,(i 0),t2449] h2446 fun t2450 h2451=>
 ob (vUn .not t2450) fun t2452=>
 kOR (rG t2452 false h2451 (some (a2437,h2451))) fun t2453 h2454=>
 kOR (rG t2452 false h2454 (ob (vField y 186 0 t2443) fun g2455=>some (g2455,h2454))) fun t2456 h2457=>
 kOR (rG t2452 false h2457 (ob (vLoad y 3 t2456 h2457) fun g2458=>some (g2458,h2457))) fun t2459 h2460=>
 kOR (rG t2452 false h2460 (ob (vLook y 189 false t2453 t2459 h2460) fun g2461=>some (g2461,h2460))) fun t2462 h2463=>
 ob (vPick t2452 (.bool true) t2462) fun t2464=>
 kOR (rG t2464 false h2463 (ob (vField y 186 1 t2443) fun g2465=>some (g2465,h2463))) fun t2466 h2467=>
 kOR (rG t2464 false h2467 (ob (vLoad y 149 t2466 h2467) fun g2468=>some (g2468,h2467))) fun t2469 h2470=>
 kOR (rG t2464 false h2470 (some (a2436,h2470))) fun t2471 h2472=>
 kOR (rG t2464 false h2472 (kOR (c 157 [t2469,t2471] h2472) orK)) fun t2473 h2474=>
 kOR (rG t2464 false h2474 (ob (vUn .not t2473) fun g2475=>some (g2475,h2474))) fun t2476 h2477=>
 ob (vPick t2464 (.bool true) t2476) fun t2478=>
 ob (GV.asB t2478) fun q2479=>jn (bC q2479 (oN [a2436,a2437,t2443,a2438,a2439,a2440] h2477) (oR [(.bool false)] h2477)) fun vs2480 h2481=>U6 vs2480 fun a2482 a2483 a2484 a2485 a2486 a2487=>fd 186 0 a2484 fun t2488=>
 ld 3 t2488 h2481 fun t2489=>
 kOR (vMapUp y 189 a2483 t2489 (.bool true) h2481) fun t2490 h2491=>
 oN [a2482,a2483,a2485,a2486,a2487] h2491)) fun vs2492 h2493=>U5 vs2492 fun a2494 a2495 a2496 a2497 a2498=>bn .add 3 a2498 (i 1) fun t2499=>
 oN [a2494,a2495,a2496,a2497,t2499] h2493) (ql 23)
def B126 (c:CH) (ql:QH) (us:List GV) (H:GH):RS:=U1 us fun x2500=>
 kOR (vBox x2500 H) fun t2501 h2502=>
 fd 48 1 t2501 fun t2503=>
 ld 45 t2503 h2502 fun t2504=>
 ln 45 t2504 fun t2505=>
 kOR (vMake y 22 t2505 t2505 h2502) fun t2506 h2507=>
 fd 48 1 t2501 fun t2508=>
 ld 45 t2508 h2507 fun t2509=>
 ln 45 t2509 fun t2510=>
 jn (nB 0 (ql 24 [t2506,t2509,t2510,(i 0)] h2507)) fun vs2511 h2512=>U1 vs2511 fun a2513=>oR [a2513] h2512
def L24 (c:CH) (ql:QH) (us:List GV) (H:GH):RS:=U4 us fun a2514 a2515 a2516 a2517=>jn (bn .lss 3 a2517 a2516 fun t2518=>
 ob (GV.asB t2518) fun q2519=>jn (bC q2519 (oX 0 [a2514] H) (oN [a2514,a2515,a2516,a2517] H)) fun vs2520 h2521=>U4 vs2520 fun a2522 a2523 a2524 a2525=>jn (nB 1 (ix 45 a2523 a2525 fun t2526=>
 ld 103 t2526 h2521 fun t2527=>
 kOR (vAlloc y 103 h2521) fun t2528 h2529=>
 kOR (vStore y 103 t2528 t2527 h2529) fun t2530 h2531=>
 fd 103 1 t2528 fun t2532=>
 ld 3 t2532 h2531 fun t2533=>
 ix 22 a2522 a2525 fun t2534=>
 kOR (vStore y 3 t2534 t2533 h2531) fun t2535 h2536=>
 oN [a2522,a2523,a2524,a2525] h2536)) fun vs2537 h2538=>U4 vs2537 fun a2539 a2540 a2541 a2542=>bn .add 3 a2542 (i 1) fun t2543=>
 oN [a2539,a2540,a2541,t2543] h2538) (ql 24)
def B127 (c:CH) (ql:QH) (us:List GV) (H:GH):RS:=U2 us fun x2544 x2545=>
 kOR (vBox x2544 H) fun t2546 h2547=>
 fd 152 1 t2546 fun t2548=>
 ld 149 t2548 h2547 fun t2549=>
 K c 158 [t2549,x2545,(.bool false)] h2547 fun t2550 h2551=>
 ex 0 t2550 fun t2552=>
 ex 1 t2550 fun t2553=>
 bn .neq 3 t2552 (i 2) fun t2554=>
 ob (GV.asB t2554) fun q2555=>jn (bC q2555 (oN [x2545,t2546] h2551) (oR [(.bool false)] h2551)) fun vs2556 h2557=>U2 vs2556 fun a2558 a2559=>fd 152 2 a2559 fun t2560=>
 ld 150 t2560 h2557 fun t2561=>
 ln 150 t2561 fun t2562=>
 jn (nB 0 (ql 25 [a2558,t2561,t2562,(i 0)] h2557)) fun vs2563 h2564=>U0 vs2563 (oR [(.bool true)] h2564)
def L25 (c:CH) (ql:QH) (us:List GV) (H:GH):RS:=U4 us fun a2565 a2566 a2567 a2568=>jn (bn .lss 3 a2568 a2567 fun t2569=>
 ob (GV.asB t2569) fun q2570=>jn (bC q2570 (oX 0 [] H) (oN [a2565,a2566,a2567,a2568] H)) fun vs2571 h2572=>U4 vs2571 fun a2573 a2574 a2575 a2576=>jn (nB 1 (ix 150 a2574 a2576 fun t2577=>
 ld 186 t2577 h2572 fun t2578=>
 kOR (vAlloc y 186 h2572) fun t2579 h2580=>
 kOR (vStore y 186 t2579 t2578 h2580) fun t2581 h2582=>
 fd 186 1 t2579 fun t2583=>
 ld 149 t2583 h2582 fun t2584=>
 K c 158 [t2584,a2573,(.bool false)] h2582 fun t2585 h2586=>
 ex 0 t2585 fun t2587=>
 ex 1 t2585 fun t2588=>
 fd 186 0 t2579 fun t2589=>
 ld 3 t2589 h2586 fun t2590=>
 ix 22 a2573 t2590 fun t2591=>
 ld 3 t2591 h2586 fun t2592=>
 bn .neq 3 t2587 t2592 fun t2593=>
 ob (GV.asB t2593) fun q2594=>jn (bC q2594 (oN [a2573,a2574,a2575,a2576] h2586) (oR [(.bool false)] h2586)) fun vs2595 h2596=>U4 vs2595 fun a2597 a2598 a2599 a2600=>oN [a2597,a2598,a2599,a2600] h2596)) fun vs2601 h2602=>U4 vs2601 fun a2603 a2604 a2605 a2606=>bn .add 3 a2606 (i 1) fun t2607=>
 oN [a2603,a2604,a2605,t2607] h2602) (ql 25)
def B128 (c:CH) (ql:QH) (us:List GV) (H:GH):RS:=U2 us fun x2608 x2609=>
 kOR (vBox x2608 H) fun t2610 h2611=>
 kOR (vBox x2609 h2611) fun t2612 h2613=>
 ld 48 t2610 h2613 fun t2614=>
 K c 159 [t2614] h2613 fun t2615 h2616=>
 ob (vUn .not t2615) fun t2617=>
 ob (GV.asB t2617) fun q2618=>jn (bC q2618 (oN [t2610,t2612] h2616) (oR [(i 8)] h2616)) fun vs2619 h2620=>U2 vs2619 fun a2621 a2622=>ld 25 a2622 h2620 fun t2623=>
 K c 32 [t2623] h2620 fun t2624 h2625=>
 ob (vUn .not t2624) fun t2626=>
 ob (GV.asB t2626) fun q2627=>jn (bC q2627 (oN [a2621,a2622] h2625) (oR [(i 1)] h2625)) fun vs2628 h2629=>U2 vs2628 fun a2630 a2631=>fd 48 1 a2630 fun t2632=>
 ld 45 t2632 h2629 fun t2633=>
 ln 45 t2633 fun t2634=>
 jn (nB 0 (ql 26 [a2631,t2633,t2634,(i 0)] h2629)) fun vs2635 h2636=>U0 vs2635 (oR [(i 0)] h2636)
def L26 (c:CH) (ql:QH) (us:List GV) (H:GH):RS:=U4 us fun a2637 a2638 a2639 a2640=>jn (bn .lss 3 a2640 a2639 fun t2641=>
 ob (GV.asB t2641) fun q2642=>jn (bC q2642 (oX 0 [] H) (oN [a2637,a2638,a2639,a2640] H)) fun vs2643 h2644=>U4 vs2643 fun a2645 a2646 a2647 a2648=>jn (nB 1 (ix 45 a2646 a2648 fun t2649=>
 ld 103 t2649 h2644 fun t2650=>
 kOR (vAlloc y 103 h2644) fun t2651 h2652=>
 kOR (vStore y 103 t2651 t2650 h2652) fun t2653 h2654=>
 fd 103 1 t2651 fun t2655=>
 ld 3 t2655 h2654 fun t2656=>
 bn .neq 3 t2656 (i 1) fun t2657=>
 ob (GV.asB t2657) fun q2658=>jn (bC q2658 (oN [a2645,t2651,a2646,a2647,a2648] h2654) (oX 1 [a2645,a2646,a2647,a2648] h2654)) fun vs2659 h2660=>U5 vs2659 fun a2661 a2662 a2663 a2664 a2665=>ld 103 a2662 h2660 fun t2666=>
 ld 25 a2661 h2660 fun t2667=>
 K c 160 [t2666,t2667,(i 0)] h2660 fun t2668 h2669=>
 ex 0 t2668 fun t2670=>
 ex 1 t2668 fun t2671=>
 bn .lss 3 t2671 t2670 fun t2672=>
 kOR (rG t2672 false h2669 (some (t2671,h2669))) fun t2673 h2674=>
 kOR (rG t2672 false h2674 (some (t2670,h2674))) fun t2675 h2676=>
 kOR (rG t2672 false h2676 (ob (vBin y .sub 3 t2673 t2675) fun g2677=>some (g2677,h2676))) fun t2678 h2679=>
 kOR (rG t2672 false h2679 (ob (vBin y .add 3 t2678 (i 1)) fun g2680=>some (g2680,h2679))) fun t2681 h2682=>
 kOR (rG t2672 false h2682 (ob (vBin y .gtr 3 t2681 (i 4096)) fun g2683=>some (g2683,h2682))) fun t2684 h2685=>
 ob (vPick t2672 (.bool true) t2684) fun t2686=>
 ob (GV.asB t2686) fun q2687=>jn (bC q2687 (oN [a2661,a2663,a2664,a2665] h2685) (oR [(i 9)] h2685)) fun vs2688 h2689=>U4 vs2688 fun a2690 a2691 a2692 a2693=>oN [a2690,a2691,a2692,a2693] h2689)) fun vs2694 h2695=>U4 vs2694 fun a2696 a2697 a2698 a2699=>bn .add 3 a2699 (i 1) fun t2700=>
 oN [a2696,a2697,a2698,t2700] h2695) (ql 26)
def B129 (c:CH) (ql:QH) (us:List GV) (H:GH):RS:=U2 us fun x2701 x2702=>
 ln 30 x2702 fun t2703=>
 ln 158 x2701 fun t2704=>
 bn .neq 3 t2703 t2704 fun t2705=>
 ob (GV.asB t2705) fun q2706=>jn (bC q2706 (oN [x2701,x2702] H) (oR [(.bool false)] H)) fun vs2707 h2708=>U2 vs2707 fun a2709 a2710=>ln 158 a2709 fun t2711=>
 jn (nB 0 (ql 27 [a2710,a2709,t2711,(i 0)] h2708)) fun vs2712 h2713=>U0 vs2712 (oR [(.bool true)] h2713)
def L27 (c:CH) (ql:QH) (us:List GV) (H:GH):RS:=U4 us fun a2714 a2715 a2716 a2717=>jn (bn .lss 3 a2717 a2716 fun t2718=>
 ob (GV.asB t2718) fun q2719=>jn (bC q2719 (oX 0 [] H) (oN [a2714,a2715,a2716,a2717] H)) fun vs2720 h2721=>U4 vs2720 fun a2722 a2723 a2724 a2725=>jn (nB 1 (ix 158 a2723 a2725 fun t2726=>
 ld 193 t2726 h2721 fun t2727=>
 ix 30 a2722 a2725 fun t2728=>
 ld 22 t2728 h2721 fun t2729=>
 K c 161 [t2727,t2729] h2721 fun t2730 h2731=>
 ob (vUn .not t2730) fun t2732=>
 ob (GV.asB t2732) fun q2733=>jn (bC q2733 (oN [a2722,a2723,a2724,a2725] h2731) (oR [(.bool false)] h2731)) fun vs2734 h2735=>U4 vs2734 fun a2736 a2737 a2738 a2739=>oN [a2736,a2737,a2738,a2739] h2735)) fun vs2740 h2741=>U4 vs2740 fun a2742 a2743 a2744 a2745=>bn .add 3 a2745 (i 1) fun t2746=>
 oN [a2742,a2743,a2744,t2746] h2741) (ql 27)
def B130 (c:CH) (ql:QH) (us:List GV) (H:GH):RS:=U2 us fun x2747 x2748=>
 kOR (vBox x2747 H) fun t2749 h2750=>
 kOR (vBox x2748 h2750) fun t2751 h2752=>
 fd 25 0 t2751 fun t2753=>
 ld 22 t2753 h2752 fun t2754=>
 ln 22 t2754 fun t2755=>
 kOR (vMake y 158 t2755 t2755 h2752) fun t2756 h2757=>
 ln 158 t2756 fun t2758=>
 jn (nB 0 (ql 28 [t2749,t2751,t2756,t2758,(i 0)] h2757)) fun vs2759 h2760=>U1 vs2759 fun a2761=>oR [a2761] h2760
def L28 (c:CH) (ql:QH) (us:List GV) (H:GH):RS:=U5 us fun a2762 a2763 a2764 a2765 a2766=>jn (bn .lss 3 a2766 a2765 fun t2767=>
 ob (GV.asB t2767) fun q2768=>jn (bC q2768 (oX 0 [a2764] H) (oN [a2762,a2763,a2764,a2765,a2766] H)) fun vs2769 h2770=>U5 vs2769 fun a2771 a2772 a2773 a2774 a2775=>jn (nB 1 (fd 48 1 a2771 fun t2776=>
 ld 45 t2776 h2770 fun t2777=>
 ln 45 t2777 fun t2778=>
 kOR (vMake y 193 t2778 t2778 h2770) fun t2779 h2780=>
 ix 158 a2773 a2775 fun t2781=>
 kOR (vStore y 193 t2781 t2779 h2780) fun t2782 h2783=>
 fd 48 1 a2771 fun t2784=>
 ld 45 t2784 h2783 fun t2785=>
 ln 45 t2785 fun t2786=>
 jn (nB 2 (ql 29 [a2771,a2772,a2773,a2775,a2774,a2775,t2785,t2786,(i 0)] h2783)) fun vs2787 h2788=>U5 vs2787 fun a2789 a2790 a2791 a2792 a2793=>oN [a2789,a2790,a2791,a2792,a2793] h2788)) fun vs2794 h2795=>U5 vs2794 fun a2796 a2797 a2798 a2799 a2800=>bn .add 3 a2800 (i 1) fun t2801=>
 oN [a2796,a2797,a2798,a2799,t2801] h2795) (ql 28)
def L29 (c:CH) (ql:QH) (us:List GV) (H:GH):RS:=U9 us fun a2802 a2803 a2804 a2805 a2806 a2807 a2808 a2809 a2810=>jn (bn .lss 3 a2810 a2809 fun t2811=>
 ob (GV.asB t2811) fun q2812=>jn (bC q2812 (oX 2 [a2802,a2803,a2804,a2806,a2807] H) (oN [a2802,a2803,a2804,a2805,a2806,a2807,a2808,a2809,a2810] H)) fun vs2813 h2814=>U9 vs2813 fun a2815 a2816 a2817 a2818 a2819 a2820 a2821 a2822 a2823=>jn (nB 3 (ix 45 a2821 a2823 fun t2824=>
 ld 103 t2824 h2814 fun t2825=>
 kOR (vAlloc y 103 h2814) fun t2826 h2827=>
 kOR (vStore y 103 t2826 t2825 h2827) fun t2828 h2829=>
 ix 158 a2817 a2818 fun t2830=>
 ld 193 t2830 h2829 fun t2831=>
 ob (Option.casesOn (motive:=fun _=>Option (Option (Nat×Nat))) (ob (GV.asP t2830) fun p=>some p.1) (some none) fun k2833=>ob (GH.ver h2829 k2833) fun k2834=>some (some (k2833,k2834))) fun e2832=>
 ix 158 a2817 a2818 fun t2835=>
 ld 193 t2835 h2829 fun t2836=>
 ob (Option.casesOn (motive:=fun _=>Option (Option (Nat×Nat))) (ob (GV.asP t2835) fun p=>some p.1) (some none) fun k2838=>ob (GH.ver h2829 k2838) fun k2839=>some (some (k2838,k2839))) fun e2837=>
 ld 103 t2826 h2829 fun t2840=>
 ob (Option.casesOn (motive:=fun _=>Option (Option (Nat×Nat))) (ob (GV.asP t2826) fun p=>some p.1) (some none) fun k2842=>ob (GH.ver h2829 k2842) fun k2843=>some (some (k2842,k2843))) fun e2841=>
 ld 25 a2816 h2829 fun t2844=>
 ob (Option.casesOn (motive:=fun _=>Option (Option (Nat×Nat))) (ob (GV.asP a2816) fun p=>some p.1) (some none) fun k2846=>ob (GH.ver h2829 k2846) fun k2847=>some (some (k2846,k2847))) fun e2845=>
 K c 160 [t2840,t2844,a2818] h2829 fun t2848 h2849=>
 ob (pck h2849 e2837 (pck h2849 e2832 (some ()))) fun _=>
 ex 0 t2848 fun t2850=>
 ex 1 t2848 fun t2851=>
 ix 193 t2831 a2823 fun t2852=>
 ix 123 t2852 (i 0) fun t2853=>
 kOR (vStore y 3 t2853 t2850 h2849) fun t2854 h2855=>
 ob (some ()) fun _=>
 ix 193 t2836 a2823 fun t2856=>
 ix 123 t2856 (i 1) fun t2857=>
 kOR (vStore y 3 t2857 t2851 h2855) fun t2858 h2859=>
 ob (some ()) fun _=>
 oN [a2815,a2816,a2817,a2818,a2819,a2820,a2821,a2822,a2823] h2859)) fun vs2860 h2861=>U9 vs2860 fun a2862 a2863 a2864 a2865 a2866 a2867 a2868 a2869 a2870=>bn .add 3 a2870 (i 1) fun t2871=>
 oN [a2862,a2863,a2864,a2865,a2866,a2867,a2868,a2869,t2871] h2861) (ql 29)
def B131 (c:CH) (ql:QH) (us:List GV) (H:GH):RS:=U2 us fun x2872 x2873=>
 kOR (vBox x2872 H) fun t2874 h2875=>
 kOR (vBox x2873 h2875) fun t2876 h2877=>
 ld 48 t2874 h2877 fun t2878=>
 ob (Option.casesOn (motive:=fun _=>Option (Option (Nat×Nat))) (ob (GV.asP t2874) fun p=>some p.1) (some none) fun k2880=>ob (GH.ver h2877 k2880) fun k2881=>some (some (k2880,k2881))) fun e2879=>
 ld 25 t2876 h2877 fun t2882=>
 ob (Option.casesOn (motive:=fun _=>Option (Option (Nat×Nat))) (ob (GV.asP t2876) fun p=>some p.1) (some none) fun k2884=>ob (GH.ver h2877 k2884) fun k2885=>some (some (k2884,k2885))) fun e2883=>
 fd 25 1 t2876 fun t2886=>
 ld 23 t2886 h2877 fun t2887=>
 ob (Option.casesOn (motive:=fun _=>Option (Option (Nat×Nat))) (ob (GV.asP t2886) fun p=>some p.1) (some none) fun k2889=>ob (GH.ver h2877 k2889) fun k2890=>some (some (k2889,k2890))) fun e2888=>
 ln 23 t2887 fun t2891=>
 kOR (vMake y 30 t2891 t2891 h2877) fun t2892 h2893=>
 ob (pck h2893 e2883 (pck h2893 e2879 (some ()))) fun _=>
 bd 196 [(0,t2878),(1,t2882),(3,t2892)] fun t2894=>
 kOR (vBox t2894 h2893) fun t2895 h2896=>
 ob (some ()) fun _=>
 fd 25 1 t2876 fun t2897=>
 ld 23 t2897 h2896 fun t2898=>
 ln 23 t2898 fun t2899=>
 jn (nB 0 (ql 30 [t2876,t2895,t2898,t2899,(i 0)] h2896)) fun vs2900 h2901=>U1 vs2900 fun a2902=>oR [a2902] h2901
def L30 (c:CH) (ql:QH) (us:List GV) (H:GH):RS:=U5 us fun a2903 a2904 a2905 a2906 a2907=>jn (bn .lss 3 a2907 a2906 fun t2908=>
 ob (GV.asB t2908) fun q2909=>jn (bC q2909 (oX 0 [a2904] H) (oN [a2903,a2904,a2905,a2906,a2907] H)) fun vs2910 h2911=>U5 vs2910 fun a2912 a2913 a2914 a2915 a2916=>jn (nB 1 (ix 23 a2914 a2916 fun t2917=>
 ld 84 t2917 h2911 fun t2918=>
 ob (GV.nilck a2913) fun t2919=>
 fd 196 2 t2919 fun t2920=>
 ld 3 t2920 h2911 fun t2921=>
 fd 25 0 a2912 fun t2922=>
 ld 22 t2922 h2911 fun t2923=>
 ix 22 t2923 a2916 fun t2924=>
 ld 3 t2924 h2911 fun t2925=>
 ob (vMax t2921 t2925) fun t2926=>
 ob (GV.nilck a2913) fun t2927=>
 fd 196 2 t2927 fun t2928=>
 kOR (vStore y 3 t2928 t2926 h2911) fun t2929 h2930=>
 ln 84 t2918 fun t2931=>
 jn (nB 2 (ql 31 [a2912,a2913,a2916,a2914,a2915,a2916,t2918,t2931,(i 0)] h2930)) fun vs2932 h2933=>U5 vs2932 fun a2934 a2935 a2936 a2937 a2938=>oN [a2934,a2935,a2936,a2937,a2938] h2933)) fun vs2939 h2940=>U5 vs2939 fun a2941 a2942 a2943 a2944 a2945=>bn .add 3 a2945 (i 1) fun t2946=>
 oN [a2941,a2942,a2943,a2944,t2946] h2940) (ql 30)
def L31 (c:CH) (ql:QH) (us:List GV) (H:GH):RS:=U9 us fun a2947 a2948 a2949 a2950 a2951 a2952 a2953 a2954 a2955=>jn (bn .lss 3 a2955 a2954 fun t2956=>
 ob (GV.asB t2956) fun q2957=>jn (bC q2957 (oX 2 [a2947,a2948,a2950,a2951,a2952] H) (oN [a2947,a2948,a2949,a2950,a2951,a2952,a2953,a2954,a2955] H)) fun vs2958 h2959=>U9 vs2958 fun a2960 a2961 a2962 a2963 a2964 a2965 a2966 a2967 a2968=>jn (nB 3 (ix 84 a2966 a2968 fun t2969=>
 ld 87 t2969 h2959 fun t2970=>
 kOR (vAlloc y 87 h2959) fun t2971 h2972=>
 kOR (vStore y 87 t2971 t2970 h2972) fun t2973 h2974=>
 ob (GV.nilck a2961) fun t2975=>
 fd 196 3 t2975 fun t2976=>
 ld 30 t2976 h2974 fun t2977=>
 ob (Option.casesOn (motive:=fun _=>Option (Option (Nat×Nat))) (ob (GV.asP t2976) fun p=>some p.1) (some none) fun k2979=>ob (GH.ver h2974 k2979) fun k2980=>some (some (k2979,k2980))) fun e2978=>
 ob (GV.nilck a2961) fun t2981=>
 fd 196 3 t2981 fun t2982=>
 ld 30 t2982 h2974 fun t2983=>
 ob (Option.casesOn (motive:=fun _=>Option (Option (Nat×Nat))) (ob (GV.asP t2982) fun p=>some p.1) (some none) fun k2985=>ob (GH.ver h2974 k2985) fun k2986=>some (some (k2985,k2986))) fun e2984=>
 ix 30 t2983 a2962 fun t2987=>
 ld 22 t2987 h2974 fun t2988=>
 ob (Option.casesOn (motive:=fun _=>Option (Option (Nat×Nat))) (ob (GV.asP t2987) fun p=>some p.1) (some none) fun k2990=>ob (GH.ver h2974 k2990) fun k2991=>some (some (k2990,k2991))) fun e2989=>
 ld 25 a2960 h2974 fun t2992=>
 ob (Option.casesOn (motive:=fun _=>Option (Option (Nat×Nat))) (ob (GV.asP a2960) fun p=>some p.1) (some none) fun k2994=>ob (GH.ver h2974 k2994) fun k2995=>some (some (k2994,k2995))) fun e2993=>
 fd 87 0 t2971 fun t2996=>
 ld 3 t2996 h2974 fun t2997=>
 ob (Option.casesOn (motive:=fun _=>Option (Option (Nat×Nat))) (ob (GV.asP t2996) fun p=>some p.1) (some none) fun k2999=>ob (GH.ver h2974 k2999) fun k3000=>some (some (k2999,k3000))) fun e2998=>
 K c 162 [t2992,t2997,a2962] h2974 fun t3001 h3002=>
 ob (pck h3002 e2989 (pck h3002 e2984 (pck h3002 e2978 (some ())))) fun _=>
 kOR (vBuildS y 22 1 [(0,t3001)] h3002) fun t3003 h3004=>
 ob (pck h3004 e2989 (pck h3004 e2984 (pck h3004 e2978 (some ())))) fun _=>
 kOR (vApp y 22 22 t2988 t3003 h3004) fun t3005 h3006=>
 ob (pck h3006 e2978 (some ())) fun _=>
 ix 30 t2977 a2962 fun t3007=>
 kOR (vStore y 22 t3007 t3005 h3006) fun t3008 h3009=>
 ob (some ()) fun _=>
 oN [a2960,a2961,a2962,a2963,a2964,a2965,a2966,a2967,a2968] h3009)) fun vs3010 h3011=>U9 vs3010 fun a3012 a3013 a3014 a3015 a3016 a3017 a3018 a3019 a3020=>bn .add 3 a3020 (i 1) fun t3021=>
 oN [a3012,a3013,a3014,a3015,a3016,a3017,a3018,a3019,t3021] h3011) (ql 31)
def B132 (c:CH) (ql:QH) (us:List GV) (H:GH):RS:=U1 us fun x3022=>
 ln 30 x3022 fun t3023=>
 kOR (vMake y 30 t3023 t3023 H) fun t3024 h3025=>
 ln 30 x3022 fun t3026=>
 jn (nB 0 (ql 32 [t3024,x3022,t3026,(i 0)] h3025)) fun vs3027 h3028=>U1 vs3027 fun a3029=>oR [a3029] h3028
def L32 (c:CH) (ql:QH) (us:List GV) (H:GH):RS:=U4 us fun a3030 a3031 a3032 a3033=>jn (bn .lss 3 a3033 a3032 fun t3034=>
 ob (GV.asB t3034) fun q3035=>jn (bC q3035 (oX 0 [a3030] H) (oN [a3030,a3031,a3032,a3033] H)) fun vs3036 h3037=>U4 vs3036 fun a3038 a3039 a3040 a3041=>jn (nB 1 (ix 30 a3039 a3041 fun t3042=>
 ld 22 t3042 h3037 fun t3043=>
 kOR (vApp y 22 22 .snil t3043 h3037) fun t3044 h3045=>
 ix 30 a3038 a3041 fun t3046=>
 kOR (vStore y 22 t3046 t3044 h3045) fun t3047 h3048=>
 oN [a3038,a3039,a3040,a3041] h3048)) fun vs3049 h3050=>U4 vs3049 fun a3051 a3052 a3053 a3054=>bn .add 3 a3054 (i 1) fun t3055=>
 oN [a3051,a3052,a3053,t3055] h3050) (ql 32)
def B133 (c:CH) (ql:QH) (us:List GV) (H:GH):RS:=U2 us fun x3056 x3057=>
 kOR (vBox x3056 H) fun t3058 h3059=>
 kOR (vBox x3057 h3059) fun t3060 h3061=>
 ld 92 t3058 h3061 fun t3062=>
 ob (GV.nilck t3062) fun t3063=>
 fd 163 2 t3063 fun t3064=>
 ld 158 t3064 h3061 fun t3065=>
 ln 158 t3065 fun t3066=>
 K c 163 [t3066,(.fn 164 [] [t3058,t3060])] h3061 fun t3067 h3068=>
 oR [t3067] h3068
def B134 (c:CH) (ql:QH) (us:List GV) (H:GH):RS:=U1 us fun x3069=>
 kOR (vAlloc y 56 H) fun t3070 h3071=>
 bn .and 26 x3069 (.int .u32 (.ofNat 16777215)) fun t3072=>
 bd 56 [(4,t3072)] fun t3073=>
 kOR (vStore y 56 t3070 t3073 h3071) fun t3074 h3075=>
 ob (ob (vLoad y 56 t3070 h3075) fun r3076=>some [r3076]) fun vs3077=>oR vs3077 h3075
def B136 (c:CH) (ql:QH) (us:List GV) (H:GH):RS:=U3 us fun x3078 x3079 x3080=>
 K c 132 [x3079] H fun t3081 h3082=>
 ln 30 x3079 fun t3083=>
 jn (nB 0 (ql 33 [x3078,x3079,x3080,t3081,t3083,(i 0)] h3082)) fun vs3084 h3085=>U1 vs3084 fun a3086=>oR [a3086] h3085
def L33 (c:CH) (ql:QH) (us:List GV) (H:GH):RS:=U6 us fun a3087 a3088 a3089 a3090 a3091 a3092=>jn (bn .lss 3 a3092 a3091 fun t3093=>
 ob (GV.asB t3093) fun q3094=>jn (bC q3094 (oX 0 [a3090] H) (oN [a3087,a3088,a3089,a3090,a3091,a3092] H)) fun vs3095 h3096=>U6 vs3095 fun a3097 a3098 a3099 a3100 a3101 a3102=>jn (nB 1 (bn .shr 26 a3099 a3102 fun t3103=>
 bn .and 26 t3103 (.int .u32 (.ofNat 1)) fun t3104=>
 bn .eql 26 t3104 (.int .u32 (.ofNat 1)) fun t3105=>
 ob (GV.asB t3105) fun q3106=>jn (bC q3106 (oN [a3097,a3098,a3099,a3100,a3101,a3102] h3096) (K c 165 [a3097,a3098,a3102] h3096 fun t3107 h3108=>
 K c 167 [a3097,a3098,a3102,t3107] h3108 fun t3109 h3110=>
 ix 30 a3100 a3102 fun t3111=>
 kOR (vStore y 22 t3111 t3109 h3110) fun t3112 h3113=>
 oN [a3097,a3098,a3099,a3100,a3101,a3102] h3113)) fun vs3114 h3115=>U6 vs3114 fun a3116 a3117 a3118 a3119 a3120 a3121=>oN [a3116,a3117,a3118,a3119,a3120,a3121] h3115)) fun vs3122 h3123=>U6 vs3122 fun a3124 a3125 a3126 a3127 a3128 a3129=>bn .add 3 a3129 (i 1) fun t3130=>
 oN [a3124,a3125,a3126,a3127,a3128,t3130] h3123) (ql 33)
def B137 (c:CH) (ql:QH) (us:List GV) (H:GH):RS:=U3 us fun x3131 x3132 x3133=>
 kOR (vBox x3131 H) fun t3134 h3135=>
 kOR (vAlloc y 56 h3135) fun t3136 h3137=>
 ld 56 t3134 h3137 fun t3138=>
 K c 168 [t3138] h3137 fun t3139 h3140=>
 ob (vUn .not t3139) fun t3141=>
 ob (GV.asB t3141) fun q3142=>jn (bC q3142 (oN [x3132,x3133,t3134,t3136] h3140) (bd 56 [] fun t3143=>
 kOR (vStore y 56 t3136 t3143 h3140) fun t3144 h3145=>
 ob (ob (vLoad y 56 t3136 h3145) fun r3146=>some [r3146,(i 7)]) fun vs3147=>oR vs3147 h3145)) fun vs3148 h3149=>U4 vs3148 fun a3150 a3151 a3152 a3153=>bn .eql 26 a3150 (.int .u32 (.ofNat 0)) fun t3154=>
 kOR (rG t3154 false h3149 (some (a3150,h3149))) fun t3155 h3156=>
 kOR (rG t3154 false h3156 (some (a3151,h3156))) fun t3157 h3158=>
 kOR (rG t3154 false h3158 (kOR (vBuildS y 51 2 [(0,t3155),(1,t3157)] h3158) orK)) fun t3159 h3160=>
 kOR (rG t3154 false h3160 (kOR (c 169 [t3159] h3160) orK)) fun t3161 h3162=>
 kOR (rG t3154 false h3162 (ob (vUn .not t3161) fun g3163=>some (g3163,h3162))) fun t3164 h3165=>
 ob (vPick t3154 (.bool true) t3164) fun t3166=>
 ob (GV.asB t3166) fun q3167=>jn (bC q3167 (oN [a3150,a3151,a3152,a3153] h3165) (bd 56 [] fun t3168=>
 kOR (vStore y 56 a3153 t3168 h3165) fun t3169 h3170=>
 ob (ob (vLoad y 56 a3153 h3170) fun r3171=>some [r3171,(i 11)]) fun vs3172=>oR vs3172 h3170)) fun vs3173 h3174=>U4 vs3173 fun a3175 a3176 a3177 a3178=>fd 56 0 a3177 fun t3179=>
 ld 3 t3179 h3174 fun t3180=>
 bn .eql 3 t3180 (i 4096) fun t3181=>
 ob (GV.asB t3181) fun q3182=>jn (bC q3182 (oN [a3175,a3176,a3177,a3178] h3174) (bd 56 [] fun t3183=>
 kOR (vStore y 56 a3178 t3183 h3174) fun t3184 h3185=>
 ob (ob (vLoad y 56 a3178 h3185) fun r3186=>some [r3186,(i 3)]) fun vs3187=>oR vs3187 h3185)) fun vs3188 h3189=>U4 vs3188 fun a3190 a3191 a3192 a3193=>fd 56 0 a3192 fun t3194=>
 ld 3 t3194 h3189 fun t3195=>
 bn .add 3 t3195 (i 1) fun t3196=>
 fd 56 0 a3192 fun t3197=>
 kOR (vStore y 3 t3197 t3196 h3189) fun t3198 h3199=>
 fd 56 1 a3192 fun t3200=>
 ld 3 t3200 h3199 fun t3201=>
 ob (Option.casesOn (motive:=fun _=>Option (Option (Nat×Nat))) (ob (GV.asP t3200) fun p=>some p.1) (some none) fun k3203=>ob (GH.ver h3199 k3203) fun k3204=>some (some (k3203,k3204))) fun e3202=>
 K c 170 [a3190] h3199 fun t3205 h3206=>
 ob (pck h3206 e3202 (some ())) fun _=>
 bn .add 3 t3201 t3205 fun t3207=>
 fd 56 1 a3192 fun t3208=>
 kOR (vStore y 3 t3208 t3207 h3206) fun t3209 h3210=>
 ob (some ()) fun _=>
 fd 56 2 a3192 fun t3211=>
 ld 3 t3211 h3210 fun t3212=>
 bn .add 3 t3212 (i 1) fun t3213=>
 fd 56 3 a3192 fun t3214=>
 kOR (vStore y 3 t3214 t3213 h3210) fun t3215 h3216=>
 fd 56 4 a3192 fun t3217=>
 ld 26 t3217 h3216 fun t3218=>
 bn .andNot 26 t3218 a3190 fun t3219=>
 bn .and 26 t3219 a3191 fun t3220=>
 fd 56 4 a3192 fun t3221=>
 kOR (vStore y 26 t3221 t3220 h3216) fun t3222 h3223=>
 fd 56 4 a3192 fun t3224=>
 ld 26 t3224 h3223 fun t3225=>
 bn .eql 26 t3225 (.int .u32 (.ofNat 0)) fun t3226=>
 ob (GV.asB t3226) fun q3227=>jn (bC q3227 (oN [a3192,a3193] h3223) (fd 56 3 a3192 fun t3228=>
 ld 3 t3228 h3223 fun t3229=>
 fd 56 2 a3192 fun t3230=>
 kOR (vStore y 3 t3230 t3229 h3223) fun t3231 h3232=>
 fd 56 4 a3192 fun t3233=>
 kOR (vStore y 26 t3233 a3191 h3232) fun t3234 h3235=>
 oN [a3192,a3193] h3235)) fun vs3236 h3237=>U2 vs3236 fun a3238 a3239=>ld 56 a3238 h3237 fun t3240=>
 kOR (vStore y 56 a3239 t3240 h3237) fun t3241 h3242=>
 ob (ob (vLoad y 56 a3239 h3242) fun r3243=>some [r3243,(i 0)]) fun vs3244=>oR vs3244 h3242
def B140 (c:CH) (ql:QH) (us:List GV) (H:GH):RS:=U3 us fun x3245 x3246 x3247=>
 ld 3 x3246 H fun t3248=>
 jn (nB 0 (ql 34 [x3245,x3247,t3248] H)) fun vs3249 h3250=>U1 vs3249 fun a3251=>oR [a3251] h3250
def L34 (c:CH) (ql:QH) (us:List GV) (H:GH):RS:=U3 us fun a3252 a3253 a3254=>jn (ld 9 a3253 H fun t3255=>
 ln 9 t3255 fun t3256=>
 bn .lss 3 a3254 t3256 fun t3257=>
 kOR (rG t3257 true H (some (a3252,H))) fun t3258 h3259=>
 kOR (rG t3257 true h3259 (ob (vLoad y 9 a3253 h3259) fun g3260=>some (g3260,h3259))) fun t3261 h3262=>
 kOR (rG t3257 true h3262 (some (a3254,h3262))) fun t3263 h3264=>
 kOR (rG t3257 true h3264 (ob (vAt y 9 t3261 t3263) fun g3265=>some (g3265,h3264))) fun t3266 h3267=>
 kOR (rG t3257 true h3267 (ob (GV.asF t3258) fun p3268=>kOR (c p3268.1 (p3268.2.1++[t3266]++p3268.2.2) h3267) orK)) fun t3269 h3270=>
 ob (vPick t3257 t3269 (.bool false)) fun t3271=>
 ob (GV.asB t3271) fun q3272=>jn (bC q3272 (oX 0 [a3254] h3270) (oN [a3252,a3253,a3254] h3270)) fun vs3273 h3274=>U3 vs3273 fun a3275 a3276 a3277=>jn (nB 1 (bn .add 3 a3277 (i 1) fun t3278=>
 oN [a3275,a3276,t3278] h3274)) fun vs3279 h3280=>U3 vs3279 fun a3281 a3282 a3283=>oN [a3281,a3282,a3283] h3280) (ql 34)
def B141 (c:CH) (ql:QH) (us:List GV) (H:GH):RS:=U1 us fun x3284=>
 bn .geq 5 x3284 (.int .u8 (.ofNat 97)) fun t3285=>
 kOR (rG t3285 true H (some (x3284,H))) fun t3286 h3287=>
 kOR (rG t3285 true h3287 (ob (vBin y .leq 5 t3286 (.int .u8 (.ofNat 122))) fun g3288=>some (g3288,h3287))) fun t3289 h3290=>
 ob (vPick t3285 t3289 (.bool false)) fun t3291=>
 kOR (rG t3291 false h3290 (some (x3284,h3290))) fun t3292 h3293=>
 kOR (rG t3291 false h3293 (ob (vBin y .geq 5 t3292 (.int .u8 (.ofNat 65))) fun g3294=>some (g3294,h3293))) fun t3295 h3296=>
 kOR (rG t3291 false h3296 (some (t3295,h3296))) fun t3297 h3298=>
 kOR (rG t3297 true h3298 (some (x3284,h3298))) fun t3299 h3300=>
 kOR (rG t3297 true h3300 (ob (vBin y .leq 5 t3299 (.int .u8 (.ofNat 90))) fun g3301=>some (g3301,h3300))) fun t3302 h3303=>
 kOR (rG t3291 false h3303 (ob (vPick t3297 t3302 (.bool false)) fun g3304=>some (g3304,h3303))) fun t3305 h3306=>
 ob (vPick t3291 (.bool true) t3305) fun t3307=>
 oR [t3307] h3306
def B142 (c:CH) (ql:QH) (us:List GV) (H:GH):RS:=U1 us fun x3308=>
 K c 141 [x3308] H fun t3309 h3310=>
 kOR (rG t3309 false h3310 (some (x3308,h3310))) fun t3311 h3312=>
 kOR (rG t3309 false h3312 (kOR (c 143 [t3311] h3312) orK)) fun t3313 h3314=>
 ob (vPick t3309 (.bool true) t3313) fun t3315=>
 kOR (rG t3315 false h3314 (some (x3308,h3314))) fun t3316 h3317=>
 kOR (rG t3315 false h3317 (ob (vBin y .eql 5 t3316 (.int .u8 (.ofNat 95))) fun g3318=>some (g3318,h3317))) fun t3319 h3320=>
 ob (vPick t3315 (.bool true) t3319) fun t3321=>
 oR [t3321] h3320
def B143 (c:CH) (ql:QH) (us:List GV) (H:GH):RS:=U1 us fun x3322=>
 bn .geq 5 x3322 (.int .u8 (.ofNat 48)) fun t3323=>
 kOR (rG t3323 true H (some (x3322,H))) fun t3324 h3325=>
 kOR (rG t3323 true h3325 (ob (vBin y .leq 5 t3324 (.int .u8 (.ofNat 57))) fun g3326=>some (g3326,h3325))) fun t3327 h3328=>
 ob (vPick t3323 t3327 (.bool false)) fun t3329=>
 oR [t3329] h3328
def B144 (c:CH) (ql:QH) (us:List GV) (H:GH):RS:=U1 us fun x3330=>
 ob (vAt y 9 x3330 (i 0)) fun t3331=>
 bn .eql 5 t3331 (.int .u8 (.ofNat 48)) fun t3332=>
 kOR (rG t3332 true H (some (x3330,H))) fun t3333 h3334=>
 kOR (rG t3332 true h3334 (ob (vLen y 9 t3333) fun g3335=>some (g3335,h3334))) fun t3336 h3337=>
 kOR (rG t3332 true h3337 (ob (vBin y .gtr 3 t3336 (i 1)) fun g3338=>some (g3338,h3337))) fun t3339 h3340=>
 ob (vPick t3332 t3339 (.bool false)) fun t3341=>
 ob (GV.asB t3341) fun q3342=>jn (bC q3342 (oN [x3330] h3340) (oR [(i 0),(.bool false)] h3340)) fun vs3343 h3344=>U1 vs3343 fun a3345=>ln 9 a3345 fun t3346=>
 jn (nB 0 (ql 35 [a3345,(i 0),t3346,(i 0)] h3344)) fun vs3347 h3348=>U1 vs3347 fun a3349=>oR [a3349,(.bool true)] h3348
def L35 (c:CH) (ql:QH) (us:List GV) (H:GH):RS:=U4 us fun a3350 a3351 a3352 a3353=>jn (bn .lss 3 a3353 a3352 fun t3354=>
 ob (GV.asB t3354) fun q3355=>jn (bC q3355 (oX 0 [a3351] H) (oN [a3350,a3351,a3352,a3353] H)) fun vs3356 h3357=>U4 vs3356 fun a3358 a3359 a3360 a3361=>jn (nB 1 (bn .mul 3 (i 10) a3359 fun t3362=>
 ob (vAt y 9 a3358 a3361) fun t3363=>
 bn .sub 5 t3363 (.int .u8 (.ofNat 48)) fun t3364=>
 ob (vConv y 5 3 t3364) fun t3365=>
 bn .add 3 t3362 t3365 fun t3366=>
 bn .gtr 3 t3366 (i 1073741824) fun t3367=>
 ob (GV.asB t3367) fun q3368=>jn (bC q3368 (oN [a3358,t3366,a3360,a3361] h3357) (oR [(i 0),(.bool false)] h3357)) fun vs3369 h3370=>U4 vs3369 fun a3371 a3372 a3373 a3374=>oN [a3371,a3372,a3373,a3374] h3370)) fun vs3375 h3376=>U4 vs3375 fun a3377 a3378 a3379 a3380=>bn .add 3 a3380 (i 1) fun t3381=>
 oN [a3377,a3378,a3379,t3381] h3376) (ql 35)
def B145 (c:CH) (ql:QH) (us:List GV) (H:GH):RS:=U1 us fun x3382=>
 kOR (vBuildS y 113 9 [(0,(.str 11822 2)),(1,(.str 15917 2)),(2,(.str 15674 2)),(3,(.str 9766 2)),(4,(.str 31868 2)),(5,(.str 15677 2)),(6,(.str 15649 2)),(7,(.str 15676 2)),(8,(.str 15678 2))] H) fun t3383 h3384=>
 ln 113 t3383 fun t3385=>
 jn (nB 0 (ql 36 [x3382,t3383,t3385,(i 0)] h3384)) fun vs3386 h3387=>U1 vs3386 fun a3388=>ob (vAt y 9 a3388 (i 0)) fun t3389=>
 K c 174 [(.str 172099982263598878148345807877454395 15),t3389] h3387 fun t3390 h3391=>
 bn .geq 3 t3390 (i 0) fun t3392=>
 ob (GV.asB t3392) fun q3393=>jn (bC q3393 (oN [] h3391) (oR [(i 1)] h3391)) fun vs3394 h3395=>U0 vs3394 (oR [(i 0)] h3395)
def L36 (c:CH) (ql:QH) (us:List GV) (H:GH):RS:=U4 us fun a3396 a3397 a3398 a3399=>jn (bn .lss 3 a3399 a3398 fun t3400=>
 ob (GV.asB t3400) fun q3401=>jn (bC q3401 (oX 0 [a3396] H) (oN [a3396,a3397,a3398,a3399] H)) fun vs3402 h3403=>U4 vs3402 fun a3404 a3405 a3406 a3407=>jn (nB 1 (ix 113 a3405 a3407 fun t3408=>
 ld 9 t3408 h3403 fun t3409=>
 K c 173 [a3404,t3409] h3403 fun t3410 h3411=>
 ob (GV.asB t3410) fun q3412=>jn (bC q3412 (oN [a3404,a3405,a3406,a3407] h3411) (oR [(i 2)] h3411)) fun vs3413 h3414=>U4 vs3413 fun a3415 a3416 a3417 a3418=>oN [a3415,a3416,a3417,a3418] h3414)) fun vs3419 h3420=>U4 vs3419 fun a3421 a3422 a3423 a3424=>bn .add 3 a3424 (i 1) fun t3425=>
 oN [a3421,a3422,a3423,t3425] h3420) (ql 36)
def B146 (c:CH) (ql:QH) (us:List GV) (H:GH):RS:=U2 us fun x3426 x3427=>
 K c 147 [x3426] H fun t3428 h3429=>
 bn .neq 9 t3428 x3427 fun t3430=>
 ob (GV.asB t3430) fun q3431=>jn (bC q3431 (oN [x3426] h3429) (oR [(.bool false)] h3429)) fun vs3432 h3433=>U1 vs3432 fun a3434=>K c 150 [a3434] h3433 fun t3435 h3436=>
 oR [(.bool true)] h3436
def B147 (c:CH) (ql:QH) (us:List GV) (H:GH):RS:=U1 us fun x3437=>
 ob (GV.nilck x3437) fun t3438=>
 fd 115 1 t3438 fun t3439=>
 ld 109 t3439 H fun t3440=>
 ln 109 t3440 fun t3441=>
 bn .eql 3 t3441 (i 0) fun t3442=>
 ob (GV.asB t3442) fun q3443=>jn (bC q3443 (oN [x3437] H) (oR [(.str 0 0)] H)) fun vs3444 h3445=>U1 vs3444 fun a3446=>ob (GV.nilck a3446) fun t3447=>
 fd 115 0 t3447 fun t3448=>
 ld 9 t3448 h3445 fun t3449=>
 ob (GV.nilck a3446) fun t3450=>
 fd 115 1 t3450 fun t3451=>
 ld 109 t3451 h3445 fun t3452=>
 ix 109 t3452 (i 0) fun t3453=>
 fd 136 1 t3453 fun t3454=>
 ld 3 t3454 h3445 fun t3455=>
 ob (GV.nilck a3446) fun t3456=>
 fd 115 1 t3456 fun t3457=>
 ld 109 t3457 h3445 fun t3458=>
 ix 109 t3458 (i 0) fun t3459=>
 fd 136 2 t3459 fun t3460=>
 ld 3 t3460 h3445 fun t3461=>
 ob (vSlice y 9 t3449 (some t3455) (some t3461) h3445) fun t3462=>
 oR [t3462] h3445
def B148 (c:CH) (ql:QH) (us:List GV) (H:GH):RS:=U1 us fun x3463=>
 ob (GV.nilck x3463) fun t3464=>
 fd 115 1 t3464 fun t3465=>
 ld 109 t3465 H fun t3466=>
 ln 109 t3466 fun t3467=>
 bn .eql 3 t3467 (i 0) fun t3468=>
 ob (GV.asB t3468) fun q3469=>jn (bC q3469 (oN [x3463] H) (oR [(i 0)] H)) fun vs3470 h3471=>U1 vs3470 fun a3472=>ob (GV.nilck a3472) fun t3473=>
 fd 115 1 t3473 fun t3474=>
 ld 109 t3474 h3471 fun t3475=>
 ix 109 t3475 (i 0) fun t3476=>
 fd 136 0 t3476 fun t3477=>
 ld 3 t3477 h3471 fun t3478=>
 oR [t3478] h3471
def B149 (c:CH) (ql:QH) (us:List GV) (H:GH):RS:=U1 us fun x3479=>
 ln 9 x3479 fun t3480=>
 bn .lss 3 t3480 (i 1) fun t3481=>
 kOR (rG t3481 false H (some (x3479,H))) fun t3482 h3483=>
 kOR (rG t3481 false h3483 (ob (vLen y 9 t3482) fun g3484=>some (g3484,h3483))) fun t3485 h3486=>
 kOR (rG t3481 false h3486 (ob (vBin y .gtr 3 t3485 (i 24)) fun g3487=>some (g3487,h3486))) fun t3488 h3489=>
 ob (vPick t3481 (.bool true) t3488) fun t3490=>
 kOR (rG t3490 false h3489 (some (x3479,h3489))) fun t3491 h3492=>
 kOR (rG t3490 false h3492 (ob (vAt y 9 t3491 (i 0)) fun g3493=>some (g3493,h3492))) fun t3494 h3495=>
 kOR (rG t3490 false h3495 (kOR (c 141 [t3494] h3495) orK)) fun t3496 h3497=>
 kOR (rG t3490 false h3497 (ob (vUn .not t3496) fun g3498=>some (g3498,h3497))) fun t3499 h3500=>
 ob (vPick t3490 (.bool true) t3499) fun t3501=>
 ob (GV.asB t3501) fun q3502=>jn (bC q3502 (oN [x3479] h3500) (oR [(.bool false)] h3500)) fun vs3503 h3504=>U1 vs3503 fun a3505=>ln 9 a3505 fun t3506=>
 jn (nB 0 (ql 37 [a3505,t3506,(i 0)] h3504)) fun vs3507 h3508=>U1 vs3507 fun a3509=>K c 175 [a3509] h3508 fun t3510 h3511=>
 ob (vUn .not t3510) fun t3512=>
 oR [t3512] h3511
def L37 (c:CH) (ql:QH) (us:List GV) (H:GH):RS:=U3 us fun a3513 a3514 a3515=>jn (bn .lss 3 a3515 a3514 fun t3516=>
 ob (GV.asB t3516) fun q3517=>jn (bC q3517 (oX 0 [a3513] H) (oN [a3513,a3514,a3515] H)) fun vs3518 h3519=>U3 vs3518 fun a3520 a3521 a3522=>jn (nB 1 (ob (vAt y 9 a3520 a3522) fun t3523=>
 K c 142 [t3523] h3519 fun t3524 h3525=>
 ob (vUn .not t3524) fun t3526=>
 ob (GV.asB t3526) fun q3527=>jn (bC q3527 (oN [a3520,a3521,a3522] h3525) (oR [(.bool false)] h3525)) fun vs3528 h3529=>U3 vs3528 fun a3530 a3531 a3532=>oN [a3530,a3531,a3532] h3529)) fun vs3533 h3534=>U3 vs3533 fun a3535 a3536 a3537=>bn .add 3 a3537 (i 1) fun t3538=>
 oN [a3535,a3536,t3538] h3534) (ql 37)
def B150 (c:CH) (ql:QH) (us:List GV) (H:GH):RS:=U1 us fun x3539=>
 kOR (vAlloc y 136 H) fun t3540 h3541=>
 ob (GV.nilck x3539) fun t3542=>
 fd 115 1 t3542 fun t3543=>
 ld 109 t3543 h3541 fun t3544=>
 ln 109 t3544 fun t3545=>
 bn .eql 3 t3545 (i 0) fun t3546=>
 ob (GV.asB t3546) fun q3547=>jn (bC q3547 (oN [x3539,t3540] h3541) (K c 122 [x3539,(i 4)] h3541 fun t3548 h3549=>
 oN [x3539,t3540] h3549)) fun vs3550 h3551=>U2 vs3550 fun a3552 a3553=>ob (GV.nilck a3552) fun t3554=>
 fd 115 1 t3554 fun t3555=>
 ld 109 t3555 h3551 fun t3556=>
 ix 109 t3556 (i 0) fun t3557=>
 ld 136 t3557 h3551 fun t3558=>
 kOR (vAlloc y 136 h3551) fun t3559 h3560=>
 kOR (vStore y 136 t3559 t3558 h3560) fun t3561 h3562=>
 ob (GV.nilck a3552) fun t3563=>
 fd 115 1 t3563 fun t3564=>
 ld 109 t3564 h3562 fun t3565=>
 ob (vSlice y 109 t3565 (some (i 1)) none h3562) fun t3566=>
 ob (GV.nilck a3552) fun t3567=>
 fd 115 1 t3567 fun t3568=>
 kOR (vStore y 109 t3568 t3566 h3562) fun t3569 h3570=>
 ld 136 t3559 h3570 fun t3571=>
 kOR (vStore y 136 a3553 t3571 h3570) fun t3572 h3573=>
 ob (ob (vLoad y 136 a3553 h3573) fun r3574=>some [r3574]) fun vs3575=>oR vs3575 h3573
def B151 (c:CH) (ql:QH) (us:List GV) (H:GH):RS:=U3 us fun x3576 x3577 x3578=>
 ob (GV.nilck x3576) fun t3579=>
 fd 117 0 t3579 fun t3580=>
 K c 148 [t3580] H fun t3581 h3582=>
 bn .neq 3 t3581 (i 2) fun t3583=>
 ob (GV.asB t3583) fun q3584=>jn (bC q3584 (oN [x3576,x3577,x3578] h3582) (ob (GV.nilck x3576) fun t3585=>
 fd 117 0 t3585 fun t3586=>
 K c 122 [t3586,(i 4)] h3582 fun t3587 h3588=>
 oN [x3576,x3577,x3578] h3588)) fun vs3589 h3590=>U3 vs3589 fun a3591 a3592 a3593=>ob (GV.nilck a3591) fun t3594=>
 fd 117 0 t3594 fun t3595=>
 fd 115 1 t3595 fun t3596=>
 ld 109 t3596 h3590 fun t3597=>
 ix 109 t3597 (i 0) fun t3598=>
 fd 136 3 t3598 fun t3599=>
 ld 3 t3599 h3590 fun t3600=>
 bn .lss 3 t3600 a3592 fun t3601=>
 kOR (rG t3601 false h3590 (some (t3600,h3590))) fun t3602 h3603=>
 kOR (rG t3601 false h3603 (some (a3593,h3603))) fun t3604 h3605=>
 kOR (rG t3601 false h3605 (ob (vBin y .gtr 3 t3602 t3604) fun g3606=>some (g3606,h3605))) fun t3607 h3608=>
 ob (vPick t3601 (.bool true) t3607) fun t3609=>
 ob (GV.asB t3609) fun q3610=>jn (bC q3610 (oN [a3591] h3608) (ob (GV.nilck a3591) fun t3611=>
 fd 117 0 t3611 fun t3612=>
 K c 122 [t3612,(i 2)] h3608 fun t3613 h3614=>
 oN [a3591] h3614)) fun vs3615 h3616=>U1 vs3615 fun a3617=>ob (GV.nilck a3617) fun t3618=>
 fd 117 0 t3618 fun t3619=>
 K c 150 [t3619] h3616 fun t3620 h3621=>
 pt 136 3 t3620 fun t3622=>
 oR [t3622] h3621
def B152 (c:CH) (ql:QH) (us:List GV) (H:GH):RS:=U2 us fun x3623 x3624=>
 ob (GV.nilck x3623) fun t3625=>
 fd 117 0 t3625 fun t3626=>
 K c 148 [t3626] H fun t3627 h3628=>
 bn .eql 3 t3627 (i 2) fun t3629=>
 ob (GV.asB t3629) fun q3630=>jn (bC q3630 (oN [x3623,x3624,(i 1)] h3628) (K c 176 [x3623] h3628 fun t3631 h3632=>
 ob (GV.nilck x3623) fun t3633=>
 fd 117 0 t3633 fun t3634=>
 K c 146 [t3634,(.str 42 1)] h3632 fun t3635 h3636=>
 ob (vUn .not t3635) fun t3637=>
 ob (GV.asB t3637) fun q3638=>jn (bC q3638 (oN [x3623,x3624,t3631] h3636) (ob (GV.nilck x3624) fun t3639=>
 fd 103 3 t3639 fun t3640=>
 kOR (vStore y 3 t3640 t3631 h3636) fun t3641 h3642=>
 oR [] h3642)) fun vs3643 h3644=>U3 vs3643 fun a3645 a3646 a3647=>oN [a3645,a3646,a3647] h3644)) fun vs3648 h3649=>U3 vs3648 fun a3650 a3651 a3652=>jn (nB 0 (ob (GV.nilck a3650) fun t3653=>
 fd 117 0 t3653 fun t3654=>
 K c 146 [t3654,(.str 110 1)] h3649 fun t3655 h3656=>
 ob (GV.asB t3655) fun q3657=>jn (bC q3657 (ob (GV.nilck a3650) fun t3662=>
 fd 117 0 t3662 fun t3663=>
 K c 146 [t3663,(.str 7562345 3)] h3656 fun t3664 h3665=>
 ob (GV.asB t3664) fun q3666=>jn (bC q3666 (ob (GV.nilck a3650) fun t3671=>
 fd 117 0 t3671 fun t3672=>
 K c 122 [t3672,(i 4)] h3665 fun t3673 h3674=>
 oN [a3650,a3651] h3674) (ob (GV.nilck a3651) fun t3667=>
 fd 103 5 t3667 fun t3668=>
 kOR (vStore y 3 t3668 a3652 h3665) fun t3669 h3670=>
 oN [a3650,a3651] h3670)) fun vs3675 h3676=>U2 vs3675 fun a3677 a3678=>oN [a3677,a3678] h3676) (ob (GV.nilck a3651) fun t3658=>
 fd 103 4 t3658 fun t3659=>
 kOR (vStore y 3 t3659 a3652 h3656) fun t3660 h3661=>
 oN [a3650,a3651] h3661)) fun vs3679 h3680=>U2 vs3679 fun a3681 a3682=>oN [a3681,a3682] h3680)) fun vs3683 h3684=>U2 vs3683 fun a3685 a3686=>jn (nB 1 (ob (GV.nilck a3685) fun t3687=>
 fd 117 0 t3687 fun t3688=>
 K c 146 [t3688,(.str 43 1)] h3684 fun t3689 h3690=>
 ob (GV.asB t3689) fun q3691=>jn (bC q3691 (ob (GV.nilck a3685) fun t3698=>
 fd 117 0 t3698 fun t3699=>
 K c 146 [t3699,(.str 45 1)] h3690 fun t3700 h3701=>
 ob (GV.asB t3700) fun q3702=>jn (bC q3702 (oN [] h3701) (K c 151 [a3685,(i 0),(i 4096)] h3701 fun t3703 h3704=>
 ob (vUn .neg t3703) fun t3705=>
 ob (GV.nilck a3686) fun t3706=>
 fd 103 3 t3706 fun t3707=>
 kOR (vStore y 3 t3707 t3705 h3704) fun t3708 h3709=>
 oN [] h3709)) fun vs3710 h3711=>U0 vs3710 (oN [] h3711)) (K c 151 [a3685,(i 0),(i 4096)] h3690 fun t3692 h3693=>
 ob (GV.nilck a3686) fun t3694=>
 fd 103 3 t3694 fun t3695=>
 kOR (vStore y 3 t3695 t3692 h3693) fun t3696 h3697=>
 oN [] h3697)) fun vs3712 h3713=>U0 vs3712 (oN [] h3713))) fun vs3714 h3715=>U0 vs3714 (oR [] h3715)
def B153 (c:CH) (ql:QH) (us:List GV) (H:GH):RS:=U1 us fun x3716=>
 K c 177 [x3716,(i 1)] H fun t3717 h3718=>
 K c 146 [x3716,(.str 63 1)] h3718 fun t3719 h3720=>
 ob (vUn .not t3719) fun t3721=>
 ob (GV.asB t3721) fun q3722=>jn (bC q3722 (oN [x3716,t3717] h3720) (oR [t3717] h3720)) fun vs3723 h3724=>U2 vs3723 fun a3725 a3726=>K c 153 [a3725] h3724 fun t3727 h3728=>
 K c 116 [a3725,(.str 58 1)] h3728 fun t3729 h3730=>
 K c 153 [a3725] h3730 fun t3731 h3732=>
 kOR (vBuildS y 225 3 [(0,a3726),(1,t3727),(2,t3731)] h3732) fun t3733 h3734=>
 K c 178 [(i 43),t3733] h3734 fun t3735 h3736=>
 oR [t3735] h3736
def B154 (c:CH) (ql:QH) (us:List GV) (H:GH):RS:=U1 us fun x3737=>
 K c 147 [x3737] H fun t3738 h3739=>
 K c 148 [x3737] h3739 fun t3740 h3741=>
 bn .neq 3 t3740 (i 1) fun t3742=>
 kOR (rG t3742 false h3741 (some (t3738,h3741))) fun t3743 h3744=>
 kOR (rG t3742 false h3744 (kOR (c 149 [t3743] h3744) orK)) fun t3745 h3746=>
 kOR (rG t3742 false h3746 (ob (vUn .not t3745) fun g3747=>some (g3747,h3746))) fun t3748 h3749=>
 ob (vPick t3742 (.bool true) t3748) fun t3750=>
 ob (GV.asB t3750) fun q3751=>jn (bC q3751 (oN [x3737,t3738] h3749) (K c 122 [x3737,(i 4)] h3749 fun t3752 h3753=>
 oN [x3737,t3738] h3753)) fun vs3754 h3755=>U2 vs3754 fun a3756 a3757=>ob (GV.nilck a3756) fun t3758=>
 fd 115 2 t3758 fun t3759=>
 ld 113 t3759 h3755 fun t3760=>
 K c 179 [t3760,a3757] h3755 fun t3761 h3762=>
 bn .lss 3 t3761 (i 0) fun t3763=>
 ob (GV.asB t3763) fun q3764=>jn (bC q3764 (oN [a3756,t3761] h3762) (K c 122 [a3756,(i 5)] h3762 fun t3765 h3766=>
 oN [a3756,t3761] h3766)) fun vs3767 h3768=>U2 vs3767 fun a3769 a3770=>K c 150 [a3769] h3768 fun t3771 h3772=>
 oR [a3770] h3772
def B155 (c:CH) (ql:QH) (us:List GV) (H:GH):RS:=U1 us fun x3773=>
 bn .eql 3 x3773 (i 1) fun t3774=>
 kOR (rG t3774 false H (some (x3773,H))) fun t3775 h3776=>
 kOR (rG t3774 false h3776 (ob (vBin y .eql 3 t3775 (i 2)) fun g3777=>some (g3777,h3776))) fun t3778 h3779=>
 ob (vPick t3774 (.bool true) t3778) fun t3780=>
 kOR (rG t3780 false h3779 (some (x3773,h3779))) fun t3781 h3782=>
 kOR (rG t3780 false h3782 (ob (vBin y .eql 3 t3781 (i 3)) fun g3783=>some (g3783,h3782))) fun t3784 h3785=>
 ob (vPick t3780 (.bool true) t3784) fun t3786=>
 oR [t3786] h3785
def B156 (c:CH) (ql:QH) (us:List GV) (H:GH):RS:=U3 us fun x3787 x3788 x3789=>
 bn .geq 3 x3787 x3788 fun t3790=>
 kOR (rG t3790 true H (some (x3787,H))) fun t3791 h3792=>
 kOR (rG t3790 true h3792 (some (x3789,h3792))) fun t3793 h3794=>
 kOR (rG t3790 true h3794 (ob (vBin y .leq 3 t3791 t3793) fun g3795=>some (g3795,h3794))) fun t3796 h3797=>
 ob (vPick t3790 t3796 (.bool false)) fun t3798=>
 oR [t3798] h3797
def B157 (c:CH) (ql:QH) (us:List GV) (H:GH):RS:=U2 us fun x3799 x3800=>
 ln 149 x3799 fun t3801=>
 bn .gtr 3 t3801 (i 200) fun t3802=>
 kOR (rG t3802 false H (some (x3799,H))) fun t3803 h3804=>
 kOR (rG t3802 false h3804 (kOR (c 180 [t3803,(i 0)] h3804) orK)) fun t3805 h3806=>
 kOR (rG t3802 false h3806 (some (x3799,h3806))) fun t3807 h3808=>
 kOR (rG t3802 false h3808 (ob (vLen y 149 t3807) fun g3809=>some (g3809,h3808))) fun t3810 h3811=>
 kOR (rG t3802 false h3811 (ob (vBin y .neq 3 t3805 t3810) fun g3812=>some (g3812,h3811))) fun t3813 h3814=>
 ob (vPick t3802 (.bool true) t3813) fun t3815=>
 ob (GV.asB t3815) fun q3816=>jn (bC q3816 (oN [x3799,x3800] h3814) (oR [(.bool false)] h3814)) fun vs3817 h3818=>U2 vs3817 fun a3819 a3820=>ln 149 a3819 fun t3821=>
 jn (nB 0 (ql 38 [a3819,a3820,a3819,t3821,(i 0)] h3818)) fun vs3822 h3823=>U1 vs3822 fun a3824=>K c 182 [a3824] h3823 fun t3825 h3826=>
 bn .leq 3 t3825 (i 24) fun t3827=>
 kOR (rG t3827 true h3826 (some (a3824,h3826))) fun t3828 h3829=>
 kOR (rG t3827 true h3829 (kOR (c 183 [t3828] h3829) orK)) fun t3830 h3831=>
 kOR (rG t3827 true h3831 (ob (vBin y .leq 3 t3830 (i 2)) fun g3832=>some (g3832,h3831))) fun t3833 h3834=>
 ob (vPick t3827 t3833 (.bool false)) fun t3835=>
 oR [t3835] h3834
def L38 (c:CH) (ql:QH) (us:List GV) (H:GH):RS:=U5 us fun a3836 a3837 a3838 a3839 a3840=>jn (bn .lss 3 a3840 a3839 fun t3841=>
 ob (GV.asB t3841) fun q3842=>jn (bC q3842 (oX 0 [a3836] H) (oN [a3836,a3837,a3838,a3839,a3840] H)) fun vs3843 h3844=>U5 vs3843 fun a3845 a3846 a3847 a3848 a3849=>jn (nB 1 (ix 149 a3847 a3849 fun t3850=>
 ld 211 t3850 h3844 fun t3851=>
 kOR (vAlloc y 211 h3844) fun t3852 h3853=>
 kOR (vStore y 211 t3852 t3851 h3853) fun t3854 h3855=>
 ld 211 t3852 h3855 fun t3856=>
 K c 181 [t3856,a3846] h3855 fun t3857 h3858=>
 ob (vUn .not t3857) fun t3859=>
 ob (GV.asB t3859) fun q3860=>jn (bC q3860 (oN [a3845,a3846,a3847,a3848,a3849] h3858) (oR [(.bool false)] h3858)) fun vs3861 h3862=>U5 vs3861 fun a3863 a3864 a3865 a3866 a3867=>oN [a3863,a3864,a3865,a3866,a3867] h3862)) fun vs3868 h3869=>U5 vs3868 fun a3870 a3871 a3872 a3873 a3874=>bn .add 3 a3874 (i 1) fun t3875=>
 oN [a3870,a3871,a3872,a3873,t3875] h3869) (ql 38)
def B158 (c:CH) (ql:QH) (us:List GV) (H:GH):RS:=U3 us fun x3876 x3877 x3878=>
 ln 22 x3877 fun t3879=>
 bn .gtr 3 t3879 (i 6) fun t3880=>
 ob (GV.asB t3880) fun q3881=>jn (bC q3881 (oN [x3876,x3877,x3878] H) (oR [(i 0),(i 7)] H)) fun vs3882 h3883=>U3 vs3882 fun a3884 a3885 a3886=>ln 22 a3885 fun t3887=>
 jn (nB 0 (ql 39 [a3884,a3885,a3886,a3885,t3887,(i 0)] h3883)) fun vs3888 h3889=>U3 vs3888 fun a3890 a3891 a3892=>ln 22 a3891 fun t3893=>
 K c 157 [a3890,t3893] h3889 fun t3894 h3895=>
 ob (vUn .not t3894) fun t3896=>
 ob (GV.asB t3896) fun q3897=>jn (bC q3897 (oN [a3890,a3891,a3892] h3895) (oR [(i 0),(i 7)] h3895)) fun vs3898 h3899=>U3 vs3898 fun a3900 a3901 a3902=>bd 215 [(0,a3900),(1,a3901)] fun t3903=>
 kOR (vAlloc y 215 h3899) fun t3904 h3905=>
 kOR (vStore y 215 t3904 t3903 h3905) fun t3906 h3907=>
 ld 215 t3904 h3907 fun t3908=>
 K c 184 [t3908,(i 0),a3902] h3907 fun t3909 h3910=>
 ex 0 t3909 fun t3911=>
 ex 1 t3909 fun t3912=>
 bn .eql 3 t3911 (i 0) fun t3913=>
 ob (GV.asB t3913) fun q3914=>jn (bC q3914 (oN [t3911] h3910) (oR [(i 0),(i 6)] h3910)) fun vs3915 h3916=>U1 vs3915 fun a3917=>oR [a3917,(i 0)] h3916
def L39 (c:CH) (ql:QH) (us:List GV) (H:GH):RS:=U6 us fun a3918 a3919 a3920 a3921 a3922 a3923=>jn (bn .lss 3 a3923 a3922 fun t3924=>
 ob (GV.asB t3924) fun q3925=>jn (bC q3925 (oX 0 [a3918,a3919,a3920] H) (oN [a3918,a3919,a3920,a3921,a3922,a3923] H)) fun vs3926 h3927=>U6 vs3926 fun a3928 a3929 a3930 a3931 a3932 a3933=>jn (nB 1 (ix 22 a3931 a3933 fun t3934=>
 ld 3 t3934 h3927 fun t3935=>
 K c 155 [t3935] h3927 fun t3936 h3937=>
 ob (vUn .not t3936) fun t3938=>
 ob (GV.asB t3938) fun q3939=>jn (bC q3939 (oN [a3928,a3929,a3930,a3931,a3932,a3933] h3937) (oR [(i 0),(i 7)] h3937)) fun vs3940 h3941=>U6 vs3940 fun a3942 a3943 a3944 a3945 a3946 a3947=>oN [a3942,a3943,a3944,a3945,a3946,a3947] h3941)) fun vs3948 h3949=>U6 vs3948 fun a3950 a3951 a3952 a3953 a3954 a3955=>bn .add 3 a3955 (i 1) fun t3956=>
 oN [a3950,a3951,a3952,a3953,a3954,t3956] h3949) (ql 39)
def B159 (c:CH) (ql:QH) (us:List GV) (H:GH):RS:=U1 us fun x3957=>
 kOR (vBox x3957 H) fun t3958 h3959=>
 ld 48 t3958 h3959 fun t3960=>
 K c 97 [t3960] h3959 fun t3961 h3962=>
 bn .eql 42 t3961 (i 0) fun t3963=>
 oR [t3963] h3962
def B160 (c:CH) (ql:QH) (us:List GV) (H:GH):RS:=U3 us fun x3964 x3965 x3966=>
 kOR (vBox x3964 H) fun t3967 h3968=>
 kOR (vBox x3965 h3968) fun t3969 h3970=>
 bd 218 [(0,(i 1)),(1,(.fn 185 [] []))] fun t3971=>
 bd 218 [(0,(i 2)),(1,(.fn 187 [] []))] fun t3972=>
 bd 218 [(0,(i 3)),(1,(.fn 188 [] []))] fun t3973=>
 kOR (vBuildS y 219 3 [(0,t3971),(1,t3972),(2,t3973)] h3970) fun t3974 h3975=>
 ln 219 t3974 fun t3976=>
 jn (nB 0 (ql 40 [x3966,t3967,t3969,t3974,t3976,(i 0)] h3975)) fun vs3977 h3978=>U0 vs3977 (oR [(i 0),(.int .i64 (.negSucc 0))] h3978)
def L40 (c:CH) (ql:QH) (us:List GV) (H:GH):RS:=U6 us fun a3979 a3980 a3981 a3982 a3983 a3984=>jn (bn .lss 3 a3984 a3983 fun t3985=>
 ob (GV.asB t3985) fun q3986=>jn (bC q3986 (oX 0 [] H) (oN [a3979,a3980,a3981,a3982,a3983,a3984] H)) fun vs3987 h3988=>U6 vs3987 fun a3989 a3990 a3991 a3992 a3993 a3994=>jn (nB 1 (ix 219 a3992 a3994 fun t3995=>
 ld 218 t3995 h3988 fun t3996=>
 kOR (vAlloc y 218 h3988) fun t3997 h3998=>
 kOR (vStore y 218 t3997 t3996 h3998) fun t3999 h4000=>
 fd 218 0 t3997 fun t4001=>
 ld 3 t4001 h4000 fun t4002=>
 fd 103 1 a3990 fun t4003=>
 ld 3 t4003 h4000 fun t4004=>
 bn .eql 3 t4002 t4004 fun t4005=>
 ob (GV.asB t4005) fun q4006=>jn (bC q4006 (oN [a3989,a3990,a3991,a3992,a3993,a3994] h4000) (fd 218 1 t3997 fun t4007=>
 ld 192 t4007 h4000 fun t4008=>
 ld 103 a3990 h4000 fun t4009=>
 ld 25 a3991 h4000 fun t4010=>
 ob (GV.asF t4008) fun p4013=>kOR (c p4013.1 (p4013.2.1++[t4009,t4010,a3989]++p4013.2.2) h4000) fun t4011 h4012=>
 ex 0 t4011 fun t4014=>
 ex 1 t4011 fun t4015=>
 oR [t4014,t4015] h4012)) fun vs4016 h4017=>U6 vs4016 fun a4018 a4019 a4020 a4021 a4022 a4023=>oN [a4018,a4019,a4020,a4021,a4022,a4023] h4017)) fun vs4024 h4025=>U6 vs4024 fun a4026 a4027 a4028 a4029 a4030 a4031=>bn .add 3 a4031 (i 1) fun t4032=>
 oN [a4026,a4027,a4028,a4029,a4030,t4032] h4025) (ql 40)
def B161 (c:CH) (ql:QH) (us:List GV) (H:GH):RS:=U2 us fun x4033 x4034=>
 ln 22 x4034 fun t4035=>
 ln 193 x4033 fun t4036=>
 bn .neq 3 t4035 t4036 fun t4037=>
 ob (GV.asB t4037) fun q4038=>jn (bC q4038 (oN [x4033,x4034] H) (oR [(.bool false)] H)) fun vs4039 h4040=>U2 vs4039 fun a4041 a4042=>ln 22 a4042 fun t4043=>
 jn (nB 0 (ql 41 [a4041,a4042,t4043,(i 0)] h4040)) fun vs4044 h4045=>U0 vs4044 (oR [(.bool true)] h4045)
def L41 (c:CH) (ql:QH) (us:List GV) (H:GH):RS:=U4 us fun a4046 a4047 a4048 a4049=>jn (bn .lss 3 a4049 a4048 fun t4050=>
 ob (GV.asB t4050) fun q4051=>jn (bC q4051 (oX 0 [] H) (oN [a4046,a4047,a4048,a4049] H)) fun vs4052 h4053=>U4 vs4052 fun a4054 a4055 a4056 a4057=>jn (nB 1 (ix 22 a4055 a4057 fun t4058=>
 ld 3 t4058 h4053 fun t4059=>
 ix 193 a4054 a4057 fun t4060=>
 ix 123 t4060 (i 0) fun t4061=>
 ld 3 t4061 h4053 fun t4062=>
 bn .lss 3 t4059 t4062 fun t4063=>
 kOR (rG t4063 false h4053 (some (t4059,h4053))) fun t4064 h4065=>
 kOR (rG t4063 false h4065 (some (a4054,h4065))) fun t4066 h4067=>
 kOR (rG t4063 false h4067 (some (a4057,h4067))) fun t4068 h4069=>
 kOR (rG t4063 false h4069 (ob (vIndex y 193 t4066 t4068) fun g4070=>some (g4070,h4069))) fun t4071 h4072=>
 kOR (rG t4063 false h4072 (ob (vIndex y 123 t4071 (i 1)) fun g4073=>some (g4073,h4072))) fun t4074 h4075=>
 kOR (rG t4063 false h4075 (ob (vLoad y 3 t4074 h4075) fun g4076=>some (g4076,h4075))) fun t4077 h4078=>
 kOR (rG t4063 false h4078 (ob (vBin y .gtr 3 t4064 t4077) fun g4079=>some (g4079,h4078))) fun t4080 h4081=>
 ob (vPick t4063 (.bool true) t4080) fun t4082=>
 ob (GV.asB t4082) fun q4083=>jn (bC q4083 (oN [a4054,a4055,a4056,a4057] h4081) (oR [(.bool false)] h4081)) fun vs4084 h4085=>U4 vs4084 fun a4086 a4087 a4088 a4089=>oN [a4086,a4087,a4088,a4089] h4085)) fun vs4090 h4091=>U4 vs4090 fun a4092 a4093 a4094 a4095=>bn .add 3 a4095 (i 1) fun t4096=>
 oN [a4092,a4093,a4094,t4096] h4091) (ql 41)
def B162 (c:CH) (ql:QH) (us:List GV) (H:GH):RS:=U3 us fun x4097 x4098 x4099=>
 kOR (vBox x4097 H) fun t4100 h4101=>
 fd 25 1 t4100 fun t4102=>
 ld 23 t4102 h4101 fun t4103=>
 ix 23 t4103 x4098 fun t4104=>
 ld 84 t4104 h4101 fun t4105=>
 ln 84 t4105 fun t4106=>
 jn (nB 0 (ql 42 [x4099,t4105,t4106,(i 0)] h4101)) fun vs4107 h4108=>U0 vs4107 (oR [(.int .i64 (.negSucc 0))] h4108)
def L42 (c:CH) (ql:QH) (us:List GV) (H:GH):RS:=U4 us fun a4109 a4110 a4111 a4112=>jn (bn .lss 3 a4112 a4111 fun t4113=>
 ob (GV.asB t4113) fun q4114=>jn (bC q4114 (oX 0 [] H) (oN [a4109,a4110,a4111,a4112] H)) fun vs4115 h4116=>U4 vs4115 fun a4117 a4118 a4119 a4120=>jn (nB 1 (ix 84 a4118 a4120 fun t4121=>
 ld 87 t4121 h4116 fun t4122=>
 kOR (vAlloc y 87 h4116) fun t4123 h4124=>
 kOR (vStore y 87 t4123 t4122 h4124) fun t4125 h4126=>
 fd 87 0 t4123 fun t4127=>
 ld 3 t4127 h4126 fun t4128=>
 bn .eql 3 t4128 a4117 fun t4129=>
 ob (GV.asB t4129) fun q4130=>jn (bC q4130 (oN [a4117,a4118,a4119,a4120] h4126) (oR [a4120] h4126)) fun vs4131 h4132=>U4 vs4131 fun a4133 a4134 a4135 a4136=>oN [a4133,a4134,a4135,a4136] h4132)) fun vs4137 h4138=>U4 vs4137 fun a4139 a4140 a4141 a4142=>bn .add 3 a4142 (i 1) fun t4143=>
 oN [a4139,a4140,a4141,t4143] h4138) (ql 42)
def B163 (c:CH) (ql:QH) (us:List GV) (H:GH):RS:=U2 us fun x4144 x4145=>
 jn (nB 0 (ql 43 [x4145,(.int .u32 (.ofNat 0)),x4144,(i 0)] H)) fun vs4146 h4147=>U1 vs4146 fun a4148=>oR [a4148] h4147
def L43 (c:CH) (ql:QH) (us:List GV) (H:GH):RS:=U4 us fun a4149 a4150 a4151 a4152=>jn (bn .lss 3 a4152 a4151 fun t4153=>
 ob (GV.asB t4153) fun q4154=>jn (bC q4154 (oX 0 [a4150] H) (oN [a4149,a4150,a4151,a4152] H)) fun vs4155 h4156=>U4 vs4155 fun a4157 a4158 a4159 a4160=>jn (nB 1 (ob (GV.asF a4157) fun p4163=>kOR (c p4163.1 (p4163.2.1++[a4160]++p4163.2.2) h4156) fun t4161 h4162=>
 ob (GV.asB t4161) fun q4164=>jn (bC q4164 (oN [a4157,a4158,a4159,a4160] h4162) (bn .shl 26 (.int .u32 (.ofNat 1)) a4160 fun t4165=>
 bn .or 26 a4158 t4165 fun t4166=>
 oN [a4157,t4166,a4159,a4160] h4162)) fun vs4167 h4168=>U4 vs4167 fun a4169 a4170 a4171 a4172=>oN [a4169,a4170,a4171,a4172] h4168)) fun vs4173 h4174=>U4 vs4173 fun a4175 a4176 a4177 a4178=>bn .add 3 a4178 (i 1) fun t4179=>
 oN [a4175,a4176,a4177,t4179] h4174) (ql 43)
def B164 (c:CH) (ql:QH) (us:List GV) (H:GH):RS:=U3 us fun x4180 x4181 x4182=>
 ld 92 x4181 H fun t4183=>
 ld 30 x4182 H fun t4184=>
 K c 165 [t4183,t4184,x4180] H fun t4185 h4186=>
 bn .geq 3 t4185 (i 0) fun t4187=>
 oR [t4187] h4186
def B165 (c:CH) (ql:QH) (us:List GV) (H:GH):RS:=U3 us fun x4188 x4189 x4190=>
 ob (GV.nilck x4188) fun t4191=>
 fd 163 0 t4191 fun t4192=>
 fd 48 2 t4192 fun t4193=>
 ld 46 t4193 H fun t4194=>
 ln 46 t4194 fun t4195=>
 jn (nB 0 (ql 44 [x4188,x4189,x4190,t4195,(i 0)] H)) fun vs4196 h4197=>U0 vs4196 (oR [(.int .i64 (.negSucc 0))] h4197)
def L44 (c:CH) (ql:QH) (us:List GV) (H:GH):RS:=U5 us fun a4198 a4199 a4200 a4201 a4202=>jn (bn .lss 3 a4202 a4201 fun t4203=>
 ob (GV.asB t4203) fun q4204=>jn (bC q4204 (oX 0 [] H) (oN [a4198,a4199,a4200,a4201,a4202] H)) fun vs4205 h4206=>U5 vs4205 fun a4207 a4208 a4209 a4210 a4211=>jn (nB 1 (ob (GV.nilck a4207) fun t4212=>
 fd 163 1 t4212 fun t4213=>
 ld 160 t4213 h4206 fun t4214=>
 K c 189 [t4214,a4208,a4209,a4211] h4206 fun t4215 h4216=>
 ob (GV.asB t4215) fun q4217=>jn (bC q4217 (oN [a4207,a4208,a4209,a4210,a4211] h4216) (oR [a4211] h4216)) fun vs4218 h4219=>U5 vs4218 fun a4220 a4221 a4222 a4223 a4224=>oN [a4220,a4221,a4222,a4223,a4224] h4219)) fun vs4225 h4226=>U5 vs4225 fun a4227 a4228 a4229 a4230 a4231=>bn .add 3 a4231 (i 1) fun t4232=>
 oN [a4227,a4228,a4229,a4230,t4232] h4226) (ql 44)
def B167 (c:CH) (ql:QH) (us:List GV) (H:GH):RS:=U4 us fun x4233 x4234 x4235 x4236=>
 ix 30 x4234 x4235 fun t4237=>
 ld 22 t4237 H fun t4238=>
 kOR (vApp y 22 22 .snil t4238 H) fun t4239 h4240=>
 ob (GV.nilck x4233) fun t4241=>
 fd 163 0 t4241 fun t4242=>
 fd 48 2 t4242 fun t4243=>
 ld 46 t4243 h4240 fun t4244=>
 ix 46 t4244 x4236 fun t4245=>
 fd 152 2 t4245 fun t4246=>
 ld 150 t4246 h4240 fun t4247=>
 ln 150 t4247 fun t4248=>
 jn (nB 0 (ql 45 [x4233,x4234,x4235,t4239,t4247,t4248,(i 0)] h4240)) fun vs4249 h4250=>U1 vs4249 fun a4251=>oR [a4251] h4250
def L45 (c:CH) (ql:QH) (us:List GV) (H:GH):RS:=U7 us fun a4252 a4253 a4254 a4255 a4256 a4257 a4258=>jn (bn .lss 3 a4258 a4257 fun t4259=>
 ob (GV.asB t4259) fun q4260=>jn (bC q4260 (oX 0 [a4255] H) (oN [a4252,a4253,a4254,a4255,a4256,a4257,a4258] H)) fun vs4261 h4262=>U7 vs4261 fun a4263 a4264 a4265 a4266 a4267 a4268 a4269=>jn (nB 1 (ix 150 a4267 a4269 fun t4270=>
 ld 186 t4270 h4262 fun t4271=>
 kOR (vAlloc y 186 h4262) fun t4272 h4273=>
 kOR (vStore y 186 t4272 t4271 h4273) fun t4274 h4275=>
 ob (GV.nilck a4263) fun t4276=>
 fd 163 1 t4276 fun t4277=>
 ld 160 t4277 h4275 fun t4278=>
 fd 186 1 t4272 fun t4279=>
 ld 149 t4279 h4275 fun t4280=>
 K c 190 [t4278,a4264,a4265,t4280] h4275 fun t4281 h4282=>
 fd 186 0 t4272 fun t4283=>
 ld 3 t4283 h4282 fun t4284=>
 ob (Option.casesOn (motive:=fun _=>Option (Option (Nat×Nat))) (ob (GV.asP t4283) fun p=>some p.1) (some none) fun k4286=>ob (GH.ver h4282 k4286) fun k4287=>some (some (k4286,k4287))) fun e4285=>
 ob (GV.nilck a4263) fun t4288=>
 fd 163 0 t4288 fun t4289=>
 fd 48 1 t4289 fun t4290=>
 ld 45 t4290 h4282 fun t4291=>
 ob (Option.casesOn (motive:=fun _=>Option (Option (Nat×Nat))) (ob (GV.asP t4290) fun p=>some p.1) (some none) fun k4293=>ob (GH.ver h4282 k4293) fun k4294=>some (some (k4293,k4294))) fun e4292=>
 fd 186 0 t4272 fun t4295=>
 ld 3 t4295 h4282 fun t4296=>
 ob (Option.casesOn (motive:=fun _=>Option (Option (Nat×Nat))) (ob (GV.asP t4295) fun p=>some p.1) (some none) fun k4298=>ob (GH.ver h4282 k4298) fun k4299=>some (some (k4298,k4299))) fun e4297=>
 ix 45 t4291 t4296 fun t4300=>
 fd 103 1 t4300 fun t4301=>
 ld 3 t4301 h4282 fun t4302=>
 ob (Option.casesOn (motive:=fun _=>Option (Option (Nat×Nat))) (ob (GV.asP t4301) fun p=>some p.1) (some none) fun k4304=>ob (GH.ver h4282 k4304) fun k4305=>some (some (k4304,k4305))) fun e4303=>
 ob (GV.nilck a4263) fun t4306=>
 fd 163 2 t4306 fun t4307=>
 ld 158 t4307 h4282 fun t4308=>
 ob (Option.casesOn (motive:=fun _=>Option (Option (Nat×Nat))) (ob (GV.asP t4307) fun p=>some p.1) (some none) fun k4310=>ob (GH.ver h4282 k4310) fun k4311=>some (some (k4310,k4311))) fun e4309=>
 ix 158 t4308 a4265 fun t4312=>
 ld 193 t4312 h4282 fun t4313=>
 ob (Option.casesOn (motive:=fun _=>Option (Option (Nat×Nat))) (ob (GV.asP t4312) fun p=>some p.1) (some none) fun k4315=>ob (GH.ver h4282 k4315) fun k4316=>some (some (k4315,k4316))) fun e4314=>
 fd 186 0 t4272 fun t4317=>
 ld 3 t4317 h4282 fun t4318=>
 ob (Option.casesOn (motive:=fun _=>Option (Option (Nat×Nat))) (ob (GV.asP t4317) fun p=>some p.1) (some none) fun k4320=>ob (GH.ver h4282 k4320) fun k4321=>some (some (k4320,k4321))) fun e4319=>
 ix 193 t4313 t4318 fun t4322=>
 ld 123 t4322 h4282 fun t4323=>
 ob (Option.casesOn (motive:=fun _=>Option (Option (Nat×Nat))) (ob (GV.asP t4322) fun p=>some p.1) (some none) fun k4325=>ob (GH.ver h4282 k4325) fun k4326=>some (some (k4325,k4326))) fun e4324=>
 K c 191 [t4302,t4323,t4281] h4282 fun t4327 h4328=>
 ob (pck h4328 e4285 (some ())) fun _=>
 ix 22 a4266 t4284 fun t4329=>
 kOR (vStore y 3 t4329 t4327 h4328) fun t4330 h4331=>
 ob (some ()) fun _=>
 oN [a4263,a4264,a4265,a4266,a4267,a4268,a4269] h4331)) fun vs4332 h4333=>U7 vs4332 fun a4334 a4335 a4336 a4337 a4338 a4339 a4340=>bn .add 3 a4340 (i 1) fun t4341=>
 oN [a4334,a4335,a4336,a4337,a4338,a4339,t4341] h4333) (ql 45)
def B168 (c:CH) (ql:QH) (us:List GV) (H:GH):RS:=U1 us fun x4342=>
 kOR (vBox x4342 H) fun t4343 h4344=>
 fd 56 0 t4343 fun t4345=>
 ld 3 t4345 h4344 fun t4346=>
 bn .lss 3 t4346 (i 0) fun t4347=>
 kOR (rG t4347 false h4344 (ob (vField y 56 0 t4343) fun g4348=>some (g4348,h4344))) fun t4349 h4350=>
 kOR (rG t4347 false h4350 (ob (vLoad y 3 t4349 h4350) fun g4351=>some (g4351,h4350))) fun t4352 h4353=>
 kOR (rG t4347 false h4353 (ob (vBin y .gtr 3 t4352 (i 4096)) fun g4354=>some (g4354,h4353))) fun t4355 h4356=>
 ob (vPick t4347 (.bool true) t4355) fun t4357=>
 kOR (rG t4357 false h4356 (ob (vField y 56 2 t4343) fun g4358=>some (g4358,h4356))) fun t4359 h4360=>
 kOR (rG t4357 false h4360 (ob (vLoad y 3 t4359 h4360) fun g4361=>some (g4361,h4360))) fun t4362 h4363=>
 kOR (rG t4357 false h4363 (ob (vBin y .lss 3 t4362 (i 0)) fun g4364=>some (g4364,h4363))) fun t4365 h4366=>
 ob (vPick t4357 (.bool true) t4365) fun t4367=>
 kOR (rG t4367 false h4366 (ob (vField y 56 2 t4343) fun g4368=>some (g4368,h4366))) fun t4369 h4370=>
 kOR (rG t4367 false h4370 (ob (vLoad y 3 t4369 h4370) fun g4371=>some (g4371,h4370))) fun t4372 h4373=>
 kOR (rG t4367 false h4373 (ob (vField y 56 3 t4343) fun g4374=>some (g4374,h4373))) fun t4375 h4376=>
 kOR (rG t4367 false h4376 (ob (vLoad y 3 t4375 h4376) fun g4377=>some (g4377,h4376))) fun t4378 h4379=>
 kOR (rG t4367 false h4379 (ob (vBin y .gtr 3 t4372 t4378) fun g4380=>some (g4380,h4379))) fun t4381 h4382=>
 ob (vPick t4367 (.bool true) t4381) fun t4383=>
 kOR (rG t4383 false h4382 (ob (vField y 56 3 t4343) fun g4384=>some (g4384,h4382))) fun t4385 h4386=>
 kOR (rG t4383 false h4386 (ob (vLoad y 3 t4385 h4386) fun g4387=>some (g4387,h4386))) fun t4388 h4389=>
 kOR (rG t4383 false h4389 (ob (vField y 56 0 t4343) fun g4390=>some (g4390,h4389))) fun t4391 h4392=>
 kOR (rG t4383 false h4392 (ob (vLoad y 3 t4391 h4392) fun g4393=>some (g4393,h4392))) fun t4394 h4395=>
 kOR (rG t4383 false h4395 (ob (vBin y .gtr 3 t4388 t4394) fun g4396=>some (g4396,h4395))) fun t4397 h4398=>
 ob (vPick t4383 (.bool true) t4397) fun t4399=>
 ob (GV.asB t4399) fun q4400=>jn (bC q4400 (oN [t4343] h4398) (oR [(.bool false)] h4398)) fun vs4401 h4402=>U1 vs4401 fun a4403=>fd 56 3 a4403 fun t4404=>
 ld 3 t4404 h4402 fun t4405=>
 fd 56 2 a4403 fun t4406=>
 ld 3 t4406 h4402 fun t4407=>
 bn .add 3 t4407 (i 1) fun t4408=>
 bn .gtr 3 t4405 t4408 fun t4409=>
 ob (GV.asB t4409) fun q4410=>jn (bC q4410 (oN [a4403] h4402) (oR [(.bool false)] h4402)) fun vs4411 h4412=>U1 vs4411 fun a4413=>fd 56 0 a4413 fun t4414=>
 ld 3 t4414 h4412 fun t4415=>
 fd 56 1 a4413 fun t4416=>
 ld 3 t4416 h4412 fun t4417=>
 bn .leq 3 t4415 t4417 fun t4418=>
 kOR (rG t4418 true h4412 (ob (vField y 56 1 a4413) fun g4419=>some (g4419,h4412))) fun t4420 h4421=>
 kOR (rG t4418 true h4421 (ob (vLoad y 3 t4420 h4421) fun g4422=>some (g4422,h4421))) fun t4423 h4424=>
 kOR (rG t4418 true h4424 (ob (vField y 56 0 a4413) fun g4425=>some (g4425,h4424))) fun t4426 h4427=>
 kOR (rG t4418 true h4427 (ob (vLoad y 3 t4426 h4427) fun g4428=>some (g4428,h4427))) fun t4429 h4430=>
 kOR (rG t4418 true h4430 (ob (vBin y .mul 3 (i 24) t4429) fun g4431=>some (g4431,h4430))) fun t4432 h4433=>
 kOR (rG t4418 true h4433 (ob (vBin y .leq 3 t4423 t4432) fun g4434=>some (g4434,h4433))) fun t4435 h4436=>
 ob (vPick t4418 t4435 (.bool false)) fun t4437=>
 kOR (rG t4437 true h4436 (ob (vField y 56 4 a4413) fun g4438=>some (g4438,h4436))) fun t4439 h4440=>
 kOR (rG t4437 true h4440 (ob (vLoad y 26 t4439 h4440) fun g4441=>some (g4441,h4440))) fun t4442 h4443=>
 kOR (rG t4437 true h4443 (kOR (vBuildS y 51 1 [(0,t4442)] h4443) orK)) fun t4444 h4445=>
 kOR (rG t4437 true h4445 (kOR (c 169 [t4444] h4445) orK)) fun t4446 h4447=>
 ob (vPick t4437 t4446 (.bool false)) fun t4448=>
 oR [t4448] h4447
def B169 (c:CH) (ql:QH) (us:List GV) (H:GH):RS:=U1 us fun x4449=>
 ln 51 x4449 fun t4450=>
 jn (nB 0 (ql 46 [x4449,t4450,(i 0)] H)) fun vs4451 h4452=>U0 vs4451 (oR [(.bool true)] h4452)
def L46 (c:CH) (ql:QH) (us:List GV) (H:GH):RS:=U3 us fun a4453 a4454 a4455=>jn (bn .lss 3 a4455 a4454 fun t4456=>
 ob (GV.asB t4456) fun q4457=>jn (bC q4457 (oX 0 [] H) (oN [a4453,a4454,a4455] H)) fun vs4458 h4459=>U3 vs4458 fun a4460 a4461 a4462=>jn (nB 1 (ix 51 a4460 a4462 fun t4463=>
 ld 26 t4463 h4459 fun t4464=>
 bn .andNot 26 t4464 (.int .u32 (.ofNat 16777215)) fun t4465=>
 bn .neq 26 t4465 (.int .u32 (.ofNat 0)) fun t4466=>
 ob (GV.asB t4466) fun q4467=>jn (bC q4467 (oN [a4460,a4461,a4462] h4459) (oR [(.bool false)] h4459)) fun vs4468 h4469=>U3 vs4468 fun a4470 a4471 a4472=>oN [a4470,a4471,a4472] h4469)) fun vs4473 h4474=>U3 vs4473 fun a4475 a4476 a4477=>bn .add 3 a4477 (i 1) fun t4478=>
 oN [a4475,a4476,t4478] h4474) (ql 46)
def B170 (c:CH) (ql:QH) (us:List GV) (H:GH):RS:=U1 us fun x4479=>
 bn .shr 26 x4479 (.int .u64 (.ofNat 24)) fun t4480=>
 ob (vAt y 9 (.str 1013371797438326782088527885626145114869279839357273206994663807870378574120944418419436367054140611451049417760204952716157707395913305053141503655967864012230780761557092017373387303026677869852522838963663262406984442671150543646567039340048842837107735057250874075921518337091852213351450684411239623177375031168665231925272535801977875611804250701587889381816060971805622316951777918693305331168867185049460341980332139430100205929927472959341318173082042210036159181875921966396192956430460355834169346681316034785786016803592777021614286352739503720844564764981555889936616414321310481604187217024121026183424 256) t4480) fun t4481=>
 bn .shr 26 x4479 (.int .u64 (.ofNat 16)) fun t4482=>
 bn .and 26 t4482 (.int .u32 (.ofNat 255)) fun t4483=>
 ob (vAt y 9 (.str 1013371797438326782088527885626145114869279839357273206994663807870378574120944418419436367054140611451049417760204952716157707395913305053141503655967864012230780761557092017373387303026677869852522838963663262406984442671150543646567039340048842837107735057250874075921518337091852213351450684411239623177375031168665231925272535801977875611804250701587889381816060971805622316951777918693305331168867185049460341980332139430100205929927472959341318173082042210036159181875921966396192956430460355834169346681316034785786016803592777021614286352739503720844564764981555889936616414321310481604187217024121026183424 256) t4483) fun t4484=>
 bn .add 5 t4481 t4484 fun t4485=>
 bn .shr 26 x4479 (.int .u64 (.ofNat 8)) fun t4486=>
 bn .and 26 t4486 (.int .u32 (.ofNat 255)) fun t4487=>
 ob (vAt y 9 (.str 1013371797438326782088527885626145114869279839357273206994663807870378574120944418419436367054140611451049417760204952716157707395913305053141503655967864012230780761557092017373387303026677869852522838963663262406984442671150543646567039340048842837107735057250874075921518337091852213351450684411239623177375031168665231925272535801977875611804250701587889381816060971805622316951777918693305331168867185049460341980332139430100205929927472959341318173082042210036159181875921966396192956430460355834169346681316034785786016803592777021614286352739503720844564764981555889936616414321310481604187217024121026183424 256) t4487) fun t4488=>
 bn .add 5 t4485 t4488 fun t4489=>
 bn .and 26 x4479 (.int .u32 (.ofNat 255)) fun t4490=>
 ob (vAt y 9 (.str 1013371797438326782088527885626145114869279839357273206994663807870378574120944418419436367054140611451049417760204952716157707395913305053141503655967864012230780761557092017373387303026677869852522838963663262406984442671150543646567039340048842837107735057250874075921518337091852213351450684411239623177375031168665231925272535801977875611804250701587889381816060971805622316951777918693305331168867185049460341980332139430100205929927472959341318173082042210036159181875921966396192956430460355834169346681316034785786016803592777021614286352739503720844564764981555889936616414321310481604187217024121026183424 256) t4490) fun t4491=>
 bn .add 5 t4489 t4491 fun t4492=>
 ob (vConv y 5 3 t4492) fun t4493=>
 oR [t4493] H
def B173 (c:CH) (ql:QH) (us:List GV) (H:GH):RS:=U2 us fun x4494 x4495=>
 K c 192 [x4494,x4495] H fun t4496 h4497=>
 oR [t4496] h4497
def B174 (c:CH) (ql:QH) (us:List GV) (H:GH):RS:=U2 us fun x4498 x4499=>
 K c 193 [x4498,x4499] H fun t4500 h4501=>
 oR [t4500] h4501
def B175 (c:CH) (ql:QH) (us:List GV) (H:GH):RS:=U1 us fun x4502=>
 jn (nB 0 (bn .eql 9 x4502 (.str 30787916450984560 7) fun t4503=>
 ob (GV.asB t4503) fun q4504=>jn (bC q4504 (bn .eql 9 x4502 (.str 7496054 3) fun t4505=>
 ob (GV.asB t4505) fun q4506=>jn (bC q4506 (bn .eql 9 x4502 (.str 1701606770 4) fun t4507=>
 ob (GV.asB t4507) fun q4508=>jn (bC q4508 (bn .eql 9 x4502 (.str 1819242338 4) fun t4509=>
 ob (GV.asB t4509) fun q4510=>jn (bC q4510 (bn .eql 9 x4502 (.str 1953656688 4) fun t4511=>
 ob (GV.asB t4511) fun q4512=>jn (bC q4512 (bn .eql 9 x4502 (.str 1702195828 4) fun t4513=>
 ob (GV.asB t4513) fun q4514=>jn (bC q4514 (bn .eql 9 x4502 (.str 435728179558 5) fun t4515=>
 ob (GV.asB t4515) fun q4516=>jn (bC q4516 (bn .eql 9 x4502 (.str 1701736302 4) fun t4517=>
 oN [x4502,t4517] H) (oN [x4502,t4515] H)) fun vs4518 h4519=>U2 vs4518 fun a4520 a4521=>oN [a4520,a4521] h4519) (oN [x4502,t4513] H)) fun vs4522 h4523=>U2 vs4522 fun a4524 a4525=>oN [a4524,a4525] h4523) (oN [x4502,t4511] H)) fun vs4526 h4527=>U2 vs4526 fun a4528 a4529=>oN [a4528,a4529] h4527) (oN [x4502,t4509] H)) fun vs4530 h4531=>U2 vs4530 fun a4532 a4533=>oN [a4532,a4533] h4531) (oN [x4502,t4507] H)) fun vs4534 h4535=>U2 vs4534 fun a4536 a4537=>oN [a4536,a4537] h4535) (oN [x4502,t4505] H)) fun vs4538 h4539=>U2 vs4538 fun a4540 a4541=>oN [a4540,a4541] h4539) (oN [x4502,t4503] H)) fun vs4542 h4543=>U2 vs4542 fun a4544 a4545=>ob (GV.asB a4545) fun q4546=>jn (bC q4546 (bn .eql 9 a4544 (.str 110 1) fun t4547=>
 ob (GV.asB t4547) fun q4548=>jn (bC q4548 (bn .eql 9 a4544 (.str 7562345 3) fun t4549=>
 ob (GV.asB t4549) fun q4550=>jn (bC q4550 (bn .eql 9 a4544 (.str 25705 2) fun t4551=>
 ob (GV.asB t4551) fun q4552=>jn (bC q4552 (bn .eql 9 a4544 (.str 6776164 3) fun t4553=>
 ob (GV.asB t4553) fun q4554=>jn (bC q4554 (bn .eql 9 a4544 (.str 1953460082 4) fun t4555=>
 ob (GV.asB t4555) fun q4556=>jn (bC q4556 (bn .eql 9 a4544 (.str 113 1) fun t4557=>
 ob (GV.asB t4557) fun q4558=>jn (bC q4558 (bn .eql 9 a4544 (.str 127991760381303 6) fun t4559=>
 ob (GV.asB t4559) fun q4560=>jn (bC q4560 (bn .eql 9 a4544 (.str 1801675106 4) fun t4561=>
 oN [a4544,t4561] h4543) (oN [a4544,t4559] h4543)) fun vs4562 h4563=>U2 vs4562 fun a4564 a4565=>oN [a4564,a4565] h4563) (oN [a4544,t4557] h4543)) fun vs4566 h4567=>U2 vs4566 fun a4568 a4569=>oN [a4568,a4569] h4567) (oN [a4544,t4555] h4543)) fun vs4570 h4571=>U2 vs4570 fun a4572 a4573=>oN [a4572,a4573] h4571) (oN [a4544,t4553] h4543)) fun vs4574 h4575=>U2 vs4574 fun a4576 a4577=>oN [a4576,a4577] h4575) (oN [a4544,t4551] h4543)) fun vs4578 h4579=>U2 vs4578 fun a4580 a4581=>oN [a4580,a4581] h4579) (oN [a4544,t4549] h4543)) fun vs4582 h4583=>U2 vs4582 fun a4584 a4585=>oN [a4584,a4585] h4583) (oN [a4544,t4547] h4543)) fun vs4586 h4587=>U2 vs4586 fun a4588 a4589=>ob (GV.asB a4589) fun q4590=>jn (bC q4590 (bn .eql 9 a4588 (.str 7105633 3) fun t4591=>
 ob (GV.asB t4591) fun q4592=>jn (bC q4592 (bn .eql 9 a4588 (.str 1701670771 4) fun t4593=>
 ob (GV.asB t4593) fun q4594=>jn (bC q4594 (bn .eql 9 a4588 (.str 500069396323 5) fun t4595=>
 ob (GV.asB t4595) fun q4596=>jn (bC q4596 (bn .eql 9 a4588 (.str 500153084262 5) fun t4597=>
 ob (GV.asB t4597) fun q4598=>jn (bC q4598 (bn .eql 9 a4588 (.str 7235949 3) fun t4599=>
 ob (GV.asB t4599) fun q4600=>jn (bC q4600 (bn .eql 9 a4588 (.str 7889261 3) fun t4601=>
 ob (GV.asB t4601) fun q4602=>jn (bC q4602 (bn .eql 9 a4588 (.str 7173491 3) fun t4603=>
 ob (GV.asB t4603) fun q4604=>jn (bC q4604 (bn .eql 9 a4588 (.str 7890285 3) fun t4605=>
 ob (GV.asB t4605) fun q4606=>jn (bC q4606 (bn .eql 9 a4588 (.str 110425477965171 6) fun t4607=>
 ob (GV.asB t4607) fun q4608=>jn (bC q4608 (bn .eql 9 a4588 (.str 1684104552 4) fun t4609=>
 oN [t4609] h4587) (oN [t4607] h4587)) fun vs4610 h4611=>U1 vs4610 fun a4612=>oN [a4612] h4611) (oN [t4605] h4587)) fun vs4613 h4614=>U1 vs4613 fun a4615=>oN [a4615] h4614) (oN [t4603] h4587)) fun vs4616 h4617=>U1 vs4616 fun a4618=>oN [a4618] h4617) (oN [t4601] h4587)) fun vs4619 h4620=>U1 vs4619 fun a4621=>oN [a4621] h4620) (oN [t4599] h4587)) fun vs4622 h4623=>U1 vs4622 fun a4624=>oN [a4624] h4623) (oN [t4597] h4587)) fun vs4625 h4626=>U1 vs4625 fun a4627=>oN [a4627] h4626) (oN [t4595] h4587)) fun vs4628 h4629=>U1 vs4628 fun a4630=>oN [a4630] h4629) (oN [t4593] h4587)) fun vs4631 h4632=>U1 vs4631 fun a4633=>oN [a4633] h4632) (oN [t4591] h4587)) fun vs4634 h4635=>U1 vs4634 fun a4636=>ob (GV.asB a4636) fun q4637=>jn (bC q4637 (oN [] h4635) (oR [(.bool true)] h4635)) fun vs4638 h4639=>U0 vs4638 (oN [] h4639)) (oR [(.bool true)] h4587)) fun vs4640 h4641=>U0 vs4640 (oN [] h4641)) (oR [(.bool true)] h4543)) fun vs4642 h4643=>U0 vs4642 (oN [] h4643))) fun vs4644 h4645=>U0 vs4644 (oR [(.bool false)] h4645)
def B176 (c:CH) (ql:QH) (us:List GV) (H:GH):RS:=U1 us fun x4646=>
 K c 194 [x4646] H fun t4647 h4648=>
 ob (GV.asB t4647) fun q4649=>jn (bC q4649 (oN [x4646] h4648) (K c 151 [x4646,(i 1),(i 255)] h4648 fun t4650 h4651=>
 oR [t4650] h4651)) fun vs4652 h4653=>U1 vs4652 fun a4654=>K c 151 [a4654,(i 0),(i 4096)] h4653 fun t4655 h4656=>
 oR [t4655] h4656
def B177 (c:CH) (ql:QH) (us:List GV) (H:GH):RS:=U2 us fun x4657 x4658=>
 bn .eql 3 x4658 (i 6) fun t4659=>
 ob (GV.asB t4659) fun q4660=>jn (bC q4660 (oN [x4657,x4658] H) (K c 195 [x4657] H fun t4661 h4662=>
 oR [t4661] h4662)) fun vs4663 h4664=>U2 vs4663 fun a4665 a4666=>bn .add 3 a4666 (i 1) fun t4667=>
 K c 177 [a4665,t4667] h4664 fun t4668 h4669=>
 jn (nB 0 (ql 47 [a4665,a4666,t4668] h4669)) fun vs4670 h4671=>U1 vs4670 fun a4672=>oR [a4672] h4671
def L47 (c:CH) (ql:QH) (us:List GV) (H:GH):RS:=U3 us fun a4673 a4674 a4675=>jn (jn (nB 1 (K c 147 [a4673] H fun t4676 h4677=>
 K c 196 [t4676] h4677 fun t4678 h4679=>
 bn .eql 3 t4678 (i 0) fun t4680=>
 kOR (rG t4680 false h4679 (some (t4678,h4679))) fun t4681 h4682=>
 kOR (rG t4680 false h4682 (kOR (c 197 [t4681] h4682) orK)) fun t4683 h4684=>
 kOR (rG t4680 false h4684 (some (a4674,h4684))) fun t4685 h4686=>
 kOR (rG t4680 false h4686 (ob (vBin y .neq 3 t4683 t4685) fun g4687=>some (g4687,h4686))) fun t4688 h4689=>
 ob (vPick t4680 (.bool true) t4688) fun t4690=>
 ob (GV.asB t4690) fun q4691=>jn (bC q4691 (oN [a4673,a4674,a4675,t4678] h4689) (oR [a4675] h4689)) fun vs4692 h4693=>U4 vs4692 fun a4694 a4695 a4696 a4697=>K c 150 [a4694] h4693 fun t4698 h4699=>
 bn .add 3 a4695 (i 1) fun t4700=>
 K c 177 [a4694,t4700] h4699 fun t4701 h4702=>
 kOR (vBuildS y 225 2 [(0,a4696),(1,t4701)] h4702) fun t4703 h4704=>
 K c 178 [a4697,t4703] h4704 fun t4705 h4706=>
 bn .eql 3 a4695 (i 3) fun t4707=>
 ob (GV.asB t4707) fun q4708=>jn (bC q4708 (oN [a4694,a4695,t4705] h4706) (oR [t4705] h4706)) fun vs4709 h4710=>U3 vs4709 fun a4711 a4712 a4713=>oN [a4711,a4712,a4713] h4710)) fun vs4714 h4715=>U3 vs4714 fun a4716 a4717 a4718=>oN [a4716,a4717,a4718] h4715) (ql 47)
def B178 (c:CH) (ql:QH) (us:List GV) (H:GH):RS:=U2 us fun x4719 x4720=>
 K c 198 [x4719,(i 0)] H fun t4721 h4722=>
 ln 225 x4720 fun t4723=>
 jn (nB 0 (ql 48 [t4721,x4720,t4723,(i 0)] h4722)) fun vs4724 h4725=>U1 vs4724 fun a4726=>oR [a4726] h4725
def L48 (c:CH) (ql:QH) (us:List GV) (H:GH):RS:=U4 us fun a4727 a4728 a4729 a4730=>jn (bn .lss 3 a4730 a4729 fun t4731=>
 ob (GV.asB t4731) fun q4732=>jn (bC q4732 (oX 0 [a4727] H) (oN [a4727,a4728,a4729,a4730] H)) fun vs4733 h4734=>U4 vs4733 fun a4735 a4736 a4737 a4738=>jn (nB 1 (ix 225 a4736 a4738 fun t4739=>
 ld 149 t4739 h4734 fun t4740=>
 kOR (vApp y 149 149 a4735 t4740 h4734) fun t4741 h4742=>
 oN [t4741,a4736,a4737,a4738] h4742)) fun vs4743 h4744=>U4 vs4743 fun a4745 a4746 a4747 a4748=>bn .add 3 a4748 (i 1) fun t4749=>
 oN [a4745,a4746,a4747,t4749] h4744) (ql 48)
def B179 (c:CH) (ql:QH) (us:List GV) (H:GH):RS:=U2 us fun x4750 x4751=>
 ln 113 x4750 fun t4752=>
 jn (nB 0 (ql 49 [x4750,x4751,t4752,(i 0)] H)) fun vs4753 h4754=>U0 vs4753 (oR [(.int .i64 (.negSucc 0))] h4754)
def L49 (c:CH) (ql:QH) (us:List GV) (H:GH):RS:=U4 us fun a4755 a4756 a4757 a4758=>jn (bn .lss 3 a4758 a4757 fun t4759=>
 ob (GV.asB t4759) fun q4760=>jn (bC q4760 (oX 0 [] H) (oN [a4755,a4756,a4757,a4758] H)) fun vs4761 h4762=>U4 vs4761 fun a4763 a4764 a4765 a4766=>jn (nB 1 (ix 113 a4763 a4766 fun t4767=>
 ld 9 t4767 h4762 fun t4768=>
 bn .eql 9 a4764 t4768 fun t4769=>
 ob (GV.asB t4769) fun q4770=>jn (bC q4770 (oN [a4763,a4764,a4765,a4766] h4762) (oR [a4766] h4762)) fun vs4771 h4772=>U4 vs4771 fun a4773 a4774 a4775 a4776=>oN [a4773,a4774,a4775,a4776] h4772)) fun vs4777 h4778=>U4 vs4777 fun a4779 a4780 a4781 a4782=>bn .add 3 a4782 (i 1) fun t4783=>
 oN [a4779,a4780,a4781,t4783] h4778) (ql 49)
def B180 (c:CH) (ql:QH) (us:List GV) (H:GH):RS:=U2 us fun x4784 x4785=>
 bn .lss 3 x4785 (i 0) fun t4786=>
 kOR (rG t4786 false H (some (x4785,H))) fun t4787 h4788=>
 kOR (rG t4786 false h4788 (some (x4784,h4788))) fun t4789 h4790=>
 kOR (rG t4786 false h4790 (ob (vLen y 149 t4789) fun g4791=>some (g4791,h4790))) fun t4792 h4793=>
 kOR (rG t4786 false h4793 (ob (vBin y .geq 3 t4787 t4792) fun g4794=>some (g4794,h4793))) fun t4795 h4796=>
 ob (vPick t4786 (.bool true) t4795) fun t4797=>
 ob (GV.asB t4797) fun q4798=>jn (bC q4798 (oN [x4784,x4785] h4796) (oR [(.int .i64 (.negSucc 0))] h4796)) fun vs4799 h4800=>U2 vs4799 fun a4801 a4802=>jn (nB 0 (ql 50 [a4801,a4802,(i 1)] h4800)) fun vs4803 h4804=>U0 vs4803 (oR [(.int .i64 (.negSucc 0))] h4804)
def L50 (c:CH) (ql:QH) (us:List GV) (H:GH):RS:=U3 us fun a4805 a4806 a4807=>jn (ln 149 a4805 fun t4808=>
 bn .lss 3 a4806 t4808 fun t4809=>
 ob (GV.asB t4809) fun q4810=>jn (bC q4810 (oX 0 [] H) (oN [a4805,a4806,a4807] H)) fun vs4811 h4812=>U3 vs4811 fun a4813 a4814 a4815=>jn (nB 1 (ix 149 a4813 a4814 fun t4816=>
 fd 211 0 t4816 fun t4817=>
 ld 3 t4817 h4812 fun t4818=>
 K c 199 [t4818] h4812 fun t4819 h4820=>
 bn .lss 3 t4819 (i 0) fun t4821=>
 ob (GV.asB t4821) fun q4822=>jn (bC q4822 (oN [a4813,a4814,a4815,t4819] h4820) (oR [(.int .i64 (.negSucc 0))] h4820)) fun vs4823 h4824=>U4 vs4823 fun a4825 a4826 a4827 a4828=>bn .sub 3 a4828 (i 1) fun t4829=>
 bn .add 3 a4827 t4829 fun t4830=>
 bn .eql 3 t4830 (i 0) fun t4831=>
 ob (GV.asB t4831) fun q4832=>jn (bC q4832 (oN [a4825,a4826,t4830] h4824) (bn .add 3 a4826 (i 1) fun t4833=>
 oR [t4833] h4824)) fun vs4834 h4835=>U3 vs4834 fun a4836 a4837 a4838=>oN [a4836,a4837,a4838] h4835)) fun vs4839 h4840=>U3 vs4839 fun a4841 a4842 a4843=>bn .add 3 a4842 (i 1) fun t4844=>
 oN [a4841,t4844,a4843] h4840) (ql 50)
def B181 (c:CH) (ql:QH) (us:List GV) (H:GH):RS:=U2 us fun x4845 x4846=>
 kOR (vBox x4845 H) fun t4847 h4848=>
 fd 211 0 t4847 fun t4849=>
 ld 3 t4849 h4848 fun t4850=>
 jn (nB 0 (bn .eql 3 t4850 (i 1) fun t4851=>
 ob (GV.asB t4851) fun q4852=>jn (bC q4852 (bn .eql 3 t4850 (i 5) fun t4866=>
 ob (GV.asB t4866) fun q4867=>jn (bC q4867 (bn .eql 3 t4850 (i 12) fun t4868=>
 oN [x4846,t4847,t4868] h4848) (oN [x4846,t4847,t4866] h4848)) fun vs4869 h4870=>U3 vs4869 fun a4871 a4872 a4873=>ob (GV.asB a4873) fun q4874=>jn (bC q4874 (oN [a4872] h4870) (fd 211 1 a4872 fun t4875=>
 ld 3 t4875 h4870 fun t4876=>
 bn .geq 3 t4876 (i 0) fun t4877=>
 kOR (rG t4877 true h4870 (ob (vField y 211 1 a4872) fun g4878=>some (g4878,h4870))) fun t4879 h4880=>
 kOR (rG t4877 true h4880 (ob (vLoad y 3 t4879 h4880) fun g4881=>some (g4881,h4880))) fun t4882 h4883=>
 kOR (rG t4877 true h4883 (some (a4871,h4883))) fun t4884 h4885=>
 kOR (rG t4877 true h4885 (ob (vBin y .lss 3 t4882 t4884) fun g4886=>some (g4886,h4885))) fun t4887 h4888=>
 ob (vPick t4877 t4887 (.bool false)) fun t4889=>
 oR [t4889] h4888)) fun vs4890 h4891=>U1 vs4890 fun a4892=>oN [a4892] h4891) (fd 211 1 t4847 fun t4853=>
 ld 3 t4853 h4848 fun t4854=>
 bn .geq 3 t4854 (i 0) fun t4855=>
 kOR (rG t4855 true h4848 (ob (vField y 211 1 t4847) fun g4856=>some (g4856,h4848))) fun t4857 h4858=>
 kOR (rG t4855 true h4858 (ob (vLoad y 3 t4857 h4858) fun g4859=>some (g4859,h4858))) fun t4860 h4861=>
 kOR (rG t4855 true h4861 (ob (vBin y .leq 3 t4860 (i 1073741824)) fun g4862=>some (g4862,h4861))) fun t4863 h4864=>
 ob (vPick t4855 t4863 (.bool false)) fun t4865=>
 oR [t4865] h4864)) fun vs4893 h4894=>U1 vs4893 fun a4895=>oN [a4895] h4894)) fun vs4896 h4897=>U1 vs4896 fun a4898=>fd 211 1 a4898 fun t4899=>
 ld 3 t4899 h4897 fun t4900=>
 bn .eql 3 t4900 (i 0) fun t4901=>
 oR [t4901] h4897
def B182 (c:CH) (ql:QH) (us:List GV) (H:GH):RS:=U1 us fun x4902=>
 K c 200 [x4902,(.fn 201 [] [])] H fun t4903 h4904=>
 ex 0 t4903 fun t4905=>
 ex 1 t4903 fun t4906=>
 oR [t4905] h4904
def B183 (c:CH) (ql:QH) (us:List GV) (H:GH):RS:=U1 us fun x4907=>
 K c 200 [x4907,(.fn 202 [] [])] H fun t4908 h4909=>
 ex 0 t4908 fun t4910=>
 ex 1 t4908 fun t4911=>
 oR [t4910] h4909
def B184 (c:CH) (ql:QH) (us:List GV) (H:GH):RS:=U3 us fun x4912 x4913 x4914=>
 kOR (vBox x4912 H) fun t4915 h4916=>
 fd 215 0 t4915 fun t4917=>
 ld 149 t4917 h4916 fun t4918=>
 ix 149 t4918 x4913 fun t4919=>
 ld 211 t4919 h4916 fun t4920=>
 kOR (vAlloc y 211 h4916) fun t4921 h4922=>
 kOR (vStore y 211 t4921 t4920 h4922) fun t4923 h4924=>
 bn .add 3 x4913 (i 1) fun t4925=>
 fd 211 0 t4921 fun t4926=>
 ld 3 t4926 h4924 fun t4927=>
 K c 199 [t4927] h4924 fun t4928 h4929=>
 bn .eql 3 t4928 (i 0) fun t4930=>
 ob (GV.asB t4930) fun q4931=>jn (bC q4931 (oN [x4914,t4915,t4925,t4921] h4929) (fd 211 0 t4921 fun t4932=>
 ld 3 t4932 h4929 fun t4933=>
 K c 204 [t4933] h4929 fun t4934 h4935=>
 kOR (rG t4934 true h4935 (some (x4914,h4935))) fun t4936 h4937=>
 kOR (rG t4934 true h4937 (ob (vUn .not t4936) fun g4938=>some (g4938,h4937))) fun t4939 h4940=>
 ob (vPick t4934 t4939 (.bool false)) fun t4941=>
 ob (GV.asB t4941) fun q4942=>jn (bC q4942 (oN [t4915,t4925,t4921] h4940) (oR [(i 0),t4925] h4940)) fun vs4943 h4944=>U3 vs4943 fun a4945 a4946 a4947=>ld 215 a4945 h4944 fun t4948=>
 ld 211 a4947 h4944 fun t4949=>
 K c 205 [t4948,t4949] h4944 fun t4950 h4951=>
 oR [t4950,a4946] h4951)) fun vs4952 h4953=>U4 vs4952 fun a4954 a4955 a4956 a4957=>kOR (rG a4954 false h4953 (ob (vField y 211 0 a4957) fun g4958=>some (g4958,h4953))) fun t4959 h4960=>
 kOR (rG a4954 false h4960 (ob (vLoad y 3 t4959 h4960) fun g4961=>some (g4961,h4960))) fun t4962 h4963=>
 kOR (rG a4954 false h4963 (kOR (c 203 [t4962] h4963) orK)) fun t4964 h4965=>
 ob (vPick a4954 (.bool true) t4964) fun t4966=>
 kOR (vAlloc y 229 h4965) fun t4967 h4968=>
 fd 211 0 a4957 fun t4969=>
 ld 3 t4969 h4968 fun t4970=>
 K c 199 [t4970] h4968 fun t4971 h4972=>
 jn (nB 0 (ql 51 [a4955,a4956,a4957,t4966,t4967,t4971,(i 0)] h4972)) fun vs4973 h4974=>U3 vs4973 fun a4975 a4976 a4977=>fd 211 0 a4976 fun t4978=>
 ld 3 t4978 h4974 fun t4979=>
 ld 229 a4977 h4974 fun t4980=>
 K c 206 [t4979,t4980] h4974 fun t4981 h4982=>
 oR [t4981,a4975] h4982
def L51 (c:CH) (ql:QH) (us:List GV) (H:GH):RS:=U7 us fun a4983 a4984 a4985 a4986 a4987 a4988 a4989=>jn (bn .lss 3 a4989 a4988 fun t4990=>
 ob (GV.asB t4990) fun q4991=>jn (bC q4991 (oX 0 [a4984,a4985,a4987] H) (oN [a4983,a4984,a4985,a4986,a4987,a4988,a4989] H)) fun vs4992 h4993=>U7 vs4992 fun a4994 a4995 a4996 a4997 a4998 a4999 a5000=>jn (nB 1 (ld 215 a4994 h4993 fun t5001=>
 K c 184 [t5001,a4995,a4997] h4993 fun t5002 h5003=>
 ex 0 t5002 fun t5004=>
 ex 1 t5002 fun t5005=>
 ix 229 a4998 a5000 fun t5006=>
 kOR (vStore y 3 t5006 t5004 h5003) fun t5007 h5008=>
 oN [a4994,t5005,a4996,a4997,a4998,a4999,a5000] h5008)) fun vs5009 h5010=>U7 vs5009 fun a5011 a5012 a5013 a5014 a5015 a5016 a5017=>bn .add 3 a5017 (i 1) fun t5018=>
 oN [a5011,a5012,a5013,a5014,a5015,a5016,t5018] h5010) (ql 51)
def B185 (c:CH) (ql:QH) (us:List GV) (H:GH):RS:=U3 us fun x5019 x5020 x5021=>
 kOR (vBox x5019 H) fun t5022 h5023=>
 kOR (vBox x5020 h5023) fun t5024 h5025=>
 fd 103 2 t5022 fun t5026=>
 ld 3 t5026 h5025 fun t5027=>
 ob (Option.casesOn (motive:=fun _=>Option (Option (Nat×Nat))) (ob (GV.asP t5026) fun p=>some p.1) (some none) fun k5029=>ob (GH.ver h5025 k5029) fun k5030=>some (some (k5029,k5030))) fun e5028=>
 fd 103 3 t5022 fun t5031=>
 ld 3 t5031 h5025 fun t5032=>
 ob (Option.casesOn (motive:=fun _=>Option (Option (Nat×Nat))) (ob (GV.asP t5031) fun p=>some p.1) (some none) fun k5034=>ob (GH.ver h5025 k5034) fun k5035=>some (some (k5034,k5035))) fun e5033=>
 fd 103 4 t5022 fun t5036=>
 ld 3 t5036 h5025 fun t5037=>
 ob (Option.casesOn (motive:=fun _=>Option (Option (Nat×Nat))) (ob (GV.asP t5036) fun p=>some p.1) (some none) fun k5039=>ob (GH.ver h5025 k5039) fun k5040=>some (some (k5039,k5040))) fun e5038=>
 fd 25 0 t5024 fun t5041=>
 ld 22 t5041 h5025 fun t5042=>
 ob (Option.casesOn (motive:=fun _=>Option (Option (Nat×Nat))) (ob (GV.asP t5041) fun p=>some p.1) (some none) fun k5044=>ob (GH.ver h5025 k5044) fun k5045=>some (some (k5044,k5045))) fun e5043=>
 ln 22 t5042 fun t5046=>
 bn .mul 3 t5037 t5046 fun t5047=>
 bn .add 3 t5032 t5047 fun t5048=>
 fd 103 5 t5022 fun t5049=>
 ld 3 t5049 h5025 fun t5050=>
 ob (Option.casesOn (motive:=fun _=>Option (Option (Nat×Nat))) (ob (GV.asP t5049) fun p=>some p.1) (some none) fun k5052=>ob (GH.ver h5025 k5052) fun k5053=>some (some (k5052,k5053))) fun e5051=>
 fd 25 0 t5024 fun t5054=>
 ld 22 t5054 h5025 fun t5055=>
 ob (Option.casesOn (motive:=fun _=>Option (Option (Nat×Nat))) (ob (GV.asP t5054) fun p=>some p.1) (some none) fun k5057=>ob (GH.ver h5025 k5057) fun k5058=>some (some (k5057,k5058))) fun e5056=>
 K c 186 [t5055] h5025 fun t5059 h5060=>
 ob (pck h5060 e5051 (pck h5060 e5043 (pck h5060 e5038 (pck h5060 e5033 (pck h5060 e5028 (some ())))))) fun _=>
 bn .mul 3 t5050 t5059 fun t5061=>
 bn .add 3 t5048 t5061 fun t5062=>
 oR [t5027,t5062] h5060
def B186 (c:CH) (ql:QH) (us:List GV) (H:GH):RS:=U1 us fun x5063=>
 ln 22 x5063 fun t5064=>
 bn .lss 3 t5064 (i 1) fun t5065=>
 ob (GV.asB t5065) fun q5066=>jn (bC q5066 (oN [x5063] H) (none)) fun vs5067 h5068=>U1 vs5067 fun a5069=>ix 22 a5069 (i 0) fun t5070=>
 ld 3 t5070 h5068 fun t5071=>
 jn (nB 0 (ql 52 [a5069,t5071,(i 1)] h5068)) fun vs5072 h5073=>U1 vs5072 fun a5074=>oR [a5074] h5073
def L52 (c:CH) (ql:QH) (us:List GV) (H:GH):RS:=U3 us fun a5075 a5076 a5077=>jn (ln 22 a5075 fun t5078=>
 bn .lss 3 a5077 t5078 fun t5079=>
 ob (GV.asB t5079) fun q5080=>jn (bC q5080 (oX 0 [a5076] H) (oN [a5075,a5076,a5077] H)) fun vs5081 h5082=>U3 vs5081 fun a5083 a5084 a5085=>jn (nB 1 (ix 22 a5083 a5085 fun t5086=>
 ld 3 t5086 h5082 fun t5087=>
 ob (vMax a5084 t5087) fun t5088=>
 oN [a5083,t5088,a5085] h5082)) fun vs5089 h5090=>U3 vs5089 fun a5091 a5092 a5093=>bn .add 3 a5093 (i 1) fun t5094=>
 oN [a5091,a5092,t5094] h5090) (ql 52)
def B187 (c:CH) (ql:QH) (us:List GV) (H:GH):RS:=U3 us fun x5095 x5096 x5097=>
 kOR (vBox x5095 H) fun t5098 h5099=>
 kOR (vBox x5096 h5099) fun t5100 h5101=>
 oR [(i 0),(i 1)] h5101
def B188 (c:CH) (ql:QH) (us:List GV) (H:GH):RS:=U3 us fun x5102 x5103 x5104=>
 kOR (vBox x5102 H) fun t5105 h5106=>
 kOR (vBox x5103 h5106) fun t5107 h5108=>
 fd 25 1 t5107 fun t5109=>
 ld 23 t5109 h5108 fun t5110=>
 ix 23 t5110 x5104 fun t5111=>
 ld 84 t5111 h5108 fun t5112=>
 ln 84 t5112 fun t5113=>
 bn .sub 3 t5113 (i 1) fun t5114=>
 oR [(.int .i64 (.negSucc 0)),t5114] h5108
def B189 (c:CH) (ql:QH) (us:List GV) (H:GH):RS:=U4 us fun x5115 x5116 x5117 x5118=>
 ob (GV.nilck x5115) fun t5119=>
 fd 196 0 t5119 fun t5120=>
 fd 48 2 t5120 fun t5121=>
 ld 46 t5121 H fun t5122=>
 ix 46 t5122 x5118 fun t5123=>
 fd 152 1 t5123 fun t5124=>
 ld 149 t5124 H fun t5125=>
 K c 190 [x5115,x5116,x5117,t5125] H fun t5126 h5127=>
 bn .neq 3 t5126 (i 0) fun t5128=>
 oR [t5128] h5127
def B190 (c:CH) (ql:QH) (us:List GV) (H:GH):RS:=U4 us fun x5129 x5130 x5131 x5132=>
 bd 232 [(0,x5129),(1,x5130),(2,x5131),(3,x5132)] fun t5133=>
 kOR (vAlloc y 232 H) fun t5134 h5135=>
 kOR (vStore y 232 t5134 t5133 h5135) fun t5136 h5137=>
 K c 207 [t5134,(i 0),(.int .i64 (.negSucc 0))] h5137 fun t5138 h5139=>
 ex 0 t5138 fun t5140=>
 ex 1 t5138 fun t5141=>
 oR [t5140] h5139
def B191 (c:CH) (ql:QH) (us:List GV) (H:GH):RS:=U3 us fun x5142 x5143 x5144=>
 kOR (vBox x5143 H) fun t5145 h5146=>
 jn (nB 0 (ix 123 t5145 (i 0) fun t5147=>
 ld 3 t5147 h5146 fun t5148=>
 bn .geq 3 x5144 t5148 fun t5149=>
 kOR (rG t5149 true h5146 (some (x5144,h5146))) fun t5150 h5151=>
 kOR (rG t5149 true h5151 (ob (vIndex y 123 t5145 (i 1)) fun g5152=>some (g5152,h5151))) fun t5153 h5154=>
 kOR (rG t5149 true h5154 (ob (vLoad y 3 t5153 h5154) fun g5155=>some (g5155,h5154))) fun t5156 h5157=>
 kOR (rG t5149 true h5157 (ob (vBin y .leq 3 t5150 t5156) fun g5158=>some (g5158,h5157))) fun t5159 h5160=>
 ob (vPick t5149 t5159 (.bool false)) fun t5161=>
 ob (GV.asB t5161) fun q5162=>jn (bC q5162 (bn .eql 3 x5142 (i 3) fun t5163=>
 ob (GV.asB t5163) fun q5164=>jn (bC q5164 (ix 123 t5145 (i 0) fun t5165=>
 ld 3 t5165 h5160 fun t5166=>
 bn .lss 3 x5144 t5166 fun t5167=>
 ob (GV.asB t5167) fun q5168=>jn (bC q5168 (oN [t5145] h5160) (ix 123 t5145 (i 0) fun t5169=>
 ld 3 t5169 h5160 fun t5170=>
 oR [t5170] h5160)) fun vs5171 h5172=>U1 vs5171 fun a5173=>oN [a5173] h5172) (oR [(.int .i64 (.negSucc 0))] h5160)) fun vs5174 h5175=>U1 vs5174 fun a5176=>oN [a5176] h5175) (oR [x5144] h5160)) fun vs5177 h5178=>U1 vs5177 fun a5179=>oN [a5179] h5178)) fun vs5180 h5181=>U1 vs5180 fun a5182=>ix 123 a5182 (i 1) fun t5183=>
 ld 3 t5183 h5181 fun t5184=>
 oR [t5184] h5181
def B192 (c:CH) (ql:QH) (us:List GV) (H:GH):RS:=U2 us fun x5185 x5186=>
 ln 9 x5185 fun t5187=>
 ln 9 x5186 fun t5188=>
 bn .geq 3 t5187 t5188 fun t5189=>
 kOR (rG t5189 true H (some (x5185,H))) fun t5190 h5191=>
 kOR (rG t5189 true h5191 (some (x5186,h5191))) fun t5192 h5193=>
 kOR (rG t5189 true h5193 (ob (vLen y 9 t5192) fun g5194=>some (g5194,h5193))) fun t5195 h5196=>
 kOR (rG t5189 true h5196 (ob (vSlice y 9 t5190 none (some t5195) h5196) fun g5197=>some (g5197,h5196))) fun t5198 h5199=>
 kOR (rG t5189 true h5199 (some (x5186,h5199))) fun t5200 h5201=>
 kOR (rG t5189 true h5201 (ob (vBin y .eql 9 t5198 t5200) fun g5202=>some (g5202,h5201))) fun t5203 h5204=>
 ob (vPick t5189 t5203 (.bool false)) fun t5205=>
 oR [t5205] h5204
def B193 (c:CH) (ql:QH) (us:List GV) (H:GH):RS:=U2 us fun x5206 x5207=>
 K c 208 [x5206,x5207] H fun t5208 h5209=>
 oR [t5208] h5209
def B194 (c:CH) (ql:QH) (us:List GV) (H:GH):RS:=U1 us fun x5210=>
 ob (GV.nilck x5210) fun t5211=>
 fd 117 0 t5211 fun t5212=>
 fd 115 1 t5212 fun t5213=>
 ld 109 t5213 H fun t5214=>
 ln 109 t5214 fun t5215=>
 bn .gtr 3 t5215 (i 1) fun t5216=>
 kOR (rG t5216 true H (some (x5210,H))) fun t5217 h5218=>
 kOR (rG t5216 true h5218 (ob (GV.nilck t5217) fun g5219=>some (g5219,h5218))) fun t5220 h5221=>
 kOR (rG t5216 true h5221 (ob (vField y 117 0 t5220) fun g5222=>some (g5222,h5221))) fun t5223 h5224=>
 kOR (rG t5216 true h5224 (ob (vField y 115 0 t5223) fun g5225=>some (g5225,h5224))) fun t5226 h5227=>
 kOR (rG t5216 true h5227 (ob (vLoad y 9 t5226 h5227) fun g5228=>some (g5228,h5227))) fun t5229 h5230=>
 kOR (rG t5216 true h5230 (some (x5210,h5230))) fun t5231 h5232=>
 kOR (rG t5216 true h5232 (ob (GV.nilck t5231) fun g5233=>some (g5233,h5232))) fun t5234 h5235=>
 kOR (rG t5216 true h5235 (ob (vField y 117 0 t5234) fun g5236=>some (g5236,h5235))) fun t5237 h5238=>
 kOR (rG t5216 true h5238 (ob (vField y 115 1 t5237) fun g5239=>some (g5239,h5238))) fun t5240 h5241=>
 kOR (rG t5216 true h5241 (ob (vLoad y 109 t5240 h5241) fun g5242=>some (g5242,h5241))) fun t5243 h5244=>
 kOR (rG t5216 true h5244 (ob (vIndex y 109 t5243 (i 1)) fun g5245=>some (g5245,h5244))) fun t5246 h5247=>
 kOR (rG t5216 true h5247 (ob (vField y 136 1 t5246) fun g5248=>some (g5248,h5247))) fun t5249 h5250=>
 kOR (rG t5216 true h5250 (ob (vLoad y 3 t5249 h5250) fun g5251=>some (g5251,h5250))) fun t5252 h5253=>
 kOR (rG t5216 true h5253 (some (x5210,h5253))) fun t5254 h5255=>
 kOR (rG t5216 true h5255 (ob (GV.nilck t5254) fun g5256=>some (g5256,h5255))) fun t5257 h5258=>
 kOR (rG t5216 true h5258 (ob (vField y 117 0 t5257) fun g5259=>some (g5259,h5258))) fun t5260 h5261=>
 kOR (rG t5216 true h5261 (ob (vField y 115 1 t5260) fun g5262=>some (g5262,h5261))) fun t5263 h5264=>
 kOR (rG t5216 true h5264 (ob (vLoad y 109 t5263 h5264) fun g5265=>some (g5265,h5264))) fun t5266 h5267=>
 kOR (rG t5216 true h5267 (ob (vIndex y 109 t5266 (i 1)) fun g5268=>some (g5268,h5267))) fun t5269 h5270=>
 kOR (rG t5216 true h5270 (ob (vField y 136 2 t5269) fun g5271=>some (g5271,h5270))) fun t5272 h5273=>
 kOR (rG t5216 true h5273 (ob (vLoad y 3 t5272 h5273) fun g5274=>some (g5274,h5273))) fun t5275 h5276=>
 kOR (rG t5216 true h5276 (ob (vSlice y 9 t5229 (some t5252) (some t5275) h5276) fun g5277=>some (g5277,h5276))) fun t5278 h5279=>
 kOR (rG t5216 true h5279 (ob (vBin y .eql 9 t5278 (.str 42 1)) fun g5280=>some (g5280,h5279))) fun t5281 h5282=>
 ob (vPick t5216 t5281 (.bool false)) fun t5283=>
 oR [t5283] h5282
def B195 (c:CH) (ql:QH) (us:List GV) (H:GH):RS:=U1 us fun x5284=>
 jn (nB 0 (K c 146 [x5284,(.str 45 1)] H fun t5285 h5286=>
 ob (GV.asB t5285) fun q5287=>jn (bC q5287 (K c 146 [x5284,(.str 33 1)] h5286 fun t5294 h5295=>
 ob (GV.asB t5294) fun q5296=>jn (bC q5296 (oN [x5284] h5295) (K c 195 [x5284] h5295 fun t5297 h5298=>
 kOR (vBuildS y 225 1 [(0,t5297)] h5298) fun t5299 h5300=>
 K c 178 [(i 19),t5299] h5300 fun t5301 h5302=>
 oR [t5301] h5302)) fun vs5303 h5304=>U1 vs5303 fun a5305=>oN [a5305] h5304) (K c 195 [x5284] h5286 fun t5288 h5289=>
 kOR (vBuildS y 225 1 [(0,t5288)] h5289) fun t5290 h5291=>
 K c 178 [(i 18),t5290] h5291 fun t5292 h5293=>
 oR [t5292] h5293)) fun vs5306 h5307=>U1 vs5306 fun a5308=>oN [a5308] h5307)) fun vs5309 h5310=>U1 vs5309 fun a5311=>K c 209 [a5311] h5310 fun t5312 h5313=>
 oR [t5312] h5313
def B196 (c:CH) (ql:QH) (us:List GV) (H:GH):RS:=U1 us fun x5314=>
 K c 211 [] H fun t5315 h5316=>
 K c 210 [x5314,(i 30),t5315] h5316 fun t5317 h5318=>
 oR [t5317] h5318
def B197 (c:CH) (ql:QH) (us:List GV) (H:GH):RS:=U1 us fun x5319=>
 jn (nB 0 (bn .eql 3 x5319 (i 43) fun t5320=>
 ob (GV.asB t5320) fun q5321=>jn (bC q5321 (bn .eql 3 x5319 (i 42) fun t5322=>
 ob (GV.asB t5322) fun q5323=>jn (bC q5323 (bn .eql 3 x5319 (i 41) fun t5324=>
 ob (GV.asB t5324) fun q5325=>jn (bC q5325 (bn .eql 3 x5319 (i 35) fun t5326=>
 ob (GV.asB t5326) fun q5327=>jn (bC q5327 (bn .eql 3 x5319 (i 36) fun t5328=>
 ob (GV.asB t5328) fun q5329=>jn (bC q5329 (bn .eql 3 x5319 (i 37) fun t5330=>
 ob (GV.asB t5330) fun q5331=>jn (bC q5331 (bn .eql 3 x5319 (i 38) fun t5332=>
 ob (GV.asB t5332) fun q5333=>jn (bC q5333 (bn .eql 3 x5319 (i 39) fun t5334=>
 ob (GV.asB t5334) fun q5335=>jn (bC q5335 (bn .eql 3 x5319 (i 40) fun t5336=>
 oN [x5319,t5336] H) (oN [x5319,t5334] H)) fun vs5337 h5338=>U2 vs5337 fun a5339 a5340=>oN [a5339,a5340] h5338) (oN [x5319,t5332] H)) fun vs5341 h5342=>U2 vs5341 fun a5343 a5344=>oN [a5343,a5344] h5342) (oN [x5319,t5330] H)) fun vs5345 h5346=>U2 vs5345 fun a5347 a5348=>oN [a5347,a5348] h5346) (oN [x5319,t5328] H)) fun vs5349 h5350=>U2 vs5349 fun a5351 a5352=>oN [a5351,a5352] h5350) (oN [x5319,t5326] H)) fun vs5353 h5354=>U2 vs5353 fun a5355 a5356=>ob (GV.asB a5356) fun q5357=>jn (bC q5357 (bn .eql 3 a5355 (i 33) fun t5358=>
 ob (GV.asB t5358) fun q5359=>jn (bC q5359 (bn .eql 3 a5355 (i 34) fun t5360=>
 oN [a5355,t5360] h5354) (oN [a5355,t5358] h5354)) fun vs5361 h5362=>U2 vs5361 fun a5363 a5364=>ob (GV.asB a5364) fun q5365=>jn (bC q5365 (bn .eql 3 a5363 (i 30) fun t5366=>
 ob (GV.asB t5366) fun q5367=>jn (bC q5367 (bn .eql 3 a5363 (i 31) fun t5368=>
 ob (GV.asB t5368) fun q5369=>jn (bC q5369 (bn .eql 3 a5363 (i 32) fun t5370=>
 oN [a5363,t5370] h5362) (oN [a5363,t5368] h5362)) fun vs5371 h5372=>U2 vs5371 fun a5373 a5374=>oN [a5373,a5374] h5372) (oN [a5363,t5366] h5362)) fun vs5375 h5376=>U2 vs5375 fun a5377 a5378=>ob (GV.asB a5378) fun q5379=>jn (bC q5379 (bn .eql 3 a5377 (i 18) fun t5380=>
 ob (GV.asB t5380) fun q5381=>jn (bC q5381 (bn .eql 3 a5377 (i 19) fun t5382=>
 oN [t5382] h5376) (oN [t5380] h5376)) fun vs5383 h5384=>U1 vs5383 fun a5385=>ob (GV.asB a5385) fun q5386=>jn (bC q5386 (oN [] h5384) (oR [(i 6)] h5384)) fun vs5387 h5388=>U0 vs5387 (oN [] h5388)) (oR [(i 5)] h5376)) fun vs5389 h5390=>U0 vs5389 (oN [] h5390)) (oR [(i 4)] h5362)) fun vs5391 h5392=>U0 vs5391 (oN [] h5392)) (oR [(i 3)] h5354)) fun vs5393 h5394=>U0 vs5393 (oN [] h5394)) (oR [(i 2)] H)) fun vs5395 h5396=>U0 vs5395 (oN [] h5396)) (oR [(i 1)] H)) fun vs5397 h5398=>U0 vs5397 (oN [] h5398)) (oR [(i 0)] H)) fun vs5399 h5400=>U0 vs5399 (oN [] h5400))) fun vs5401 h5402=>U0 vs5401 (oR [(i 7)] h5402)
def B198 (c:CH) (ql:QH) (us:List GV) (H:GH):RS:=U2 us fun x5403 x5404=>
 bd 211 [(0,x5403),(1,x5404)] fun t5405=>
 kOR (vBuildS y 149 1 [(0,t5405)] H) fun t5406 h5407=>
 oR [t5406] h5407
def B199 (c:CH) (ql:QH) (us:List GV) (H:GH):RS:=U1 us fun x5408=>
 jn (nB 0 (bn .lss 3 x5408 (i 1) fun t5409=>
 kOR (rG t5409 false H (some (x5408,H))) fun t5410 h5411=>
 kOR (rG t5409 false h5411 (ob (vBin y .gtr 3 t5410 (i 43)) fun g5412=>some (g5412,h5411))) fun t5413 h5414=>
 ob (vPick t5409 (.bool true) t5413) fun t5415=>
 ob (GV.asB t5415) fun q5416=>jn (bC q5416 (bn .leq 3 x5408 (i 17) fun t5417=>
 ob (GV.asB t5417) fun q5418=>jn (bC q5418 (bn .leq 3 x5408 (i 29) fun t5419=>
 ob (GV.asB t5419) fun q5420=>jn (bC q5420 (bn .leq 3 x5408 (i 42) fun t5421=>
 ob (GV.asB t5421) fun q5422=>jn (bC q5422 (oN [] h5414) (oR [(i 2)] h5414)) fun vs5423 h5424=>U0 vs5423 (oN [] h5424)) (oR [(i 1)] h5414)) fun vs5425 h5426=>U0 vs5425 (oN [] h5426)) (oR [(i 0)] h5414)) fun vs5427 h5428=>U0 vs5427 (oN [] h5428)) (oR [(.int .i64 (.negSucc 0))] h5414)) fun vs5429 h5430=>U0 vs5429 (oN [] h5430))) fun vs5431 h5432=>U0 vs5431 (oR [(i 3)] h5432)
def B200 (c:CH) (ql:QH) (us:List GV) (H:GH):RS:=U2 us fun x5433 x5434=>
 K c 180 [x5433,(i 0)] H fun t5435 h5436=>
 ln 149 x5433 fun t5437=>
 bn .neq 3 t5435 t5437 fun t5438=>
 ob (GV.asB t5438) fun q5439=>jn (bC q5439 (oN [x5433,x5434] h5436) (oR [(i 0),(.bool false)] h5436)) fun vs5440 h5441=>U2 vs5440 fun a5442 a5443=>ln 149 a5442 fun t5444=>
 bn .sub 3 t5444 (i 1) fun t5445=>
 jn (nB 0 (ql 53 [a5442,a5443,.snil,t5445] h5441)) fun vs5446 h5447=>U1 vs5446 fun a5448=>ix 22 a5448 (i 0) fun t5449=>
 ld 3 t5449 h5447 fun t5450=>
 oR [t5450,(.bool true)] h5447
def L53 (c:CH) (ql:QH) (us:List GV) (H:GH):RS:=U4 us fun a5451 a5452 a5453 a5454=>jn (bn .geq 3 a5454 (i 0) fun t5455=>
 ob (GV.asB t5455) fun q5456=>jn (bC q5456 (oX 0 [a5453] H) (oN [a5451,a5452,a5453,a5454] H)) fun vs5457 h5458=>U4 vs5457 fun a5459 a5460 a5461 a5462=>jn (nB 1 (ln 22 a5461 fun t5463=>
 ix 149 a5459 a5462 fun t5464=>
 fd 211 0 t5464 fun t5465=>
 ld 3 t5465 h5458 fun t5466=>
 K c 199 [t5466] h5458 fun t5467 h5468=>
 bn .sub 3 t5463 t5467 fun t5469=>
 ob (vSlice y 22 a5461 (some t5469) none h5468) fun t5470=>
 ln 22 t5470 fun t5471=>
 jn (nB 2 (ql 54 [a5459,a5460,a5461,a5462,t5469,(i 0),t5470,t5471,(i 0)] h5468)) fun vs5472 h5473=>U6 vs5472 fun a5474 a5475 a5476 a5477 a5478 a5479=>ob (vSlice y 22 a5476 none (some a5478) h5473) fun t5480=>
 ix 149 a5474 a5477 fun t5481=>
 fd 211 0 t5481 fun t5482=>
 ld 3 t5482 h5473 fun t5483=>
 ob (GV.asF a5475) fun p5486=>kOR (c p5486.1 (p5486.2.1++[t5483,a5479]++p5486.2.2) h5473) fun t5484 h5485=>
 kOR (vBuildS y 22 1 [(0,t5484)] h5485) fun t5487 h5488=>
 kOR (vApp y 22 22 t5480 t5487 h5488) fun t5489 h5490=>
 oN [a5474,a5475,t5489,a5477] h5490)) fun vs5491 h5492=>U4 vs5491 fun a5493 a5494 a5495 a5496=>bn .sub 3 a5496 (i 1) fun t5497=>
 oN [a5493,a5494,a5495,t5497] h5492) (ql 53)
def L54 (c:CH) (ql:QH) (us:List GV) (H:GH):RS:=U9 us fun a5498 a5499 a5500 a5501 a5502 a5503 a5504 a5505 a5506=>jn (bn .lss 3 a5506 a5505 fun t5507=>
 ob (GV.asB t5507) fun q5508=>jn (bC q5508 (oX 2 [a5498,a5499,a5500,a5501,a5502,a5503] H) (oN [a5498,a5499,a5500,a5501,a5502,a5503,a5504,a5505,a5506] H)) fun vs5509 h5510=>U9 vs5509 fun a5511 a5512 a5513 a5514 a5515 a5516 a5517 a5518 a5519=>jn (nB 3 (ix 22 a5517 a5519 fun t5520=>
 ld 3 t5520 h5510 fun t5521=>
 ob (vMax a5516 t5521) fun t5522=>
 oN [a5511,a5512,a5513,a5514,a5515,t5522,a5517,a5518,a5519] h5510)) fun vs5523 h5524=>U9 vs5523 fun a5525 a5526 a5527 a5528 a5529 a5530 a5531 a5532 a5533=>bn .add 3 a5533 (i 1) fun t5534=>
 oN [a5525,a5526,a5527,a5528,a5529,a5530,a5531,a5532,t5534] h5524) (ql 54)
def B201 (c:CH) (ql:QH) (us:List GV) (H:GH):RS:=U2 us fun x5535 x5536=>
 bn .add 3 x5536 (i 1) fun t5537=>
 oR [t5537] H
def B202 (c:CH) (ql:QH) (us:List GV) (H:GH):RS:=U2 us fun x5538 x5539=>
 K c 203 [x5538] H fun t5540 h5541=>
 ob (GV.asB t5540) fun q5542=>jn (bC q5542 (oN [x5539] h5541) (bn .add 3 x5539 (i 1) fun t5543=>
 oR [t5543] h5541)) fun vs5544 h5545=>U1 vs5544 fun a5546=>oR [a5546] h5545
def B203 (c:CH) (ql:QH) (us:List GV) (H:GH):RS:=U1 us fun x5547=>
 bn .geq 3 x5547 (i 20) fun t5548=>
 kOR (rG t5548 true H (some (x5547,H))) fun t5549 h5550=>
 kOR (rG t5548 true h5550 (ob (vBin y .leq 3 t5549 (i 29)) fun g5551=>some (g5551,h5550))) fun t5552 h5553=>
 ob (vPick t5548 t5552 (.bool false)) fun t5554=>
 oR [t5554] h5553
def B204 (c:CH) (ql:QH) (us:List GV) (H:GH):RS:=U1 us fun x5555=>
 bn .geq 3 x5555 (i 11) fun t5556=>
 kOR (rG t5556 true H (some (x5555,H))) fun t5557 h5558=>
 kOR (rG t5556 true h5558 (ob (vBin y .leq 3 t5557 (i 17)) fun g5559=>some (g5559,h5558))) fun t5560 h5561=>
 ob (vPick t5556 t5560 (.bool false)) fun t5562=>
 oR [t5562] h5561
def B205 (c:CH) (ql:QH) (us:List GV) (H:GH):RS:=U2 us fun x5563 x5564=>
 kOR (vBox x5563 H) fun t5565 h5566=>
 kOR (vBox x5564 h5566) fun t5567 h5568=>
 fd 211 0 t5567 fun t5569=>
 ld 3 t5569 h5568 fun t5570=>
 jn (nB 0 (bn .eql 3 t5570 (i 2) fun t5571=>
 ob (GV.asB t5571) fun q5572=>jn (bC q5572 (bn .eql 3 t5570 (i 3) fun t5573=>
 ob (GV.asB t5573) fun q5574=>jn (bC q5574 (bn .eql 3 t5570 (i 10) fun t5575=>
 ob (GV.asB t5575) fun q5576=>jn (bC q5576 (bn .eql 3 t5570 (i 15) fun t5577=>
 oN [t5565,t5567,t5570,t5577] h5568) (oN [t5565,t5567,t5570,t5575] h5568)) fun vs5578 h5579=>U4 vs5578 fun a5580 a5581 a5582 a5583=>oN [a5580,a5581,a5582,a5583] h5579) (oN [t5565,t5567,t5570,t5573] h5568)) fun vs5584 h5585=>U4 vs5584 fun a5586 a5587 a5588 a5589=>oN [a5586,a5587,a5588,a5589] h5585) (oN [t5565,t5567,t5570,t5571] h5568)) fun vs5590 h5591=>U4 vs5590 fun a5592 a5593 a5594 a5595=>ob (GV.asB a5595) fun q5596=>jn (bC q5596 (bn .eql 3 a5594 (i 4) fun t5597=>
 ob (GV.asB t5597) fun q5598=>jn (bC q5598 (bn .eql 3 a5594 (i 11) fun t5599=>
 ob (GV.asB t5599) fun q5600=>jn (bC q5600 (bn .eql 3 a5594 (i 17) fun t5601=>
 oN [a5592,a5593,a5594,t5601] h5591) (oN [a5592,a5593,a5594,t5599] h5591)) fun vs5602 h5603=>U4 vs5602 fun a5604 a5605 a5606 a5607=>oN [a5604,a5605,a5606,a5607] h5603) (oN [a5592,a5593,a5594,t5597] h5591)) fun vs5608 h5609=>U4 vs5608 fun a5610 a5611 a5612 a5613=>ob (GV.asB a5613) fun q5614=>jn (bC q5614 (bn .eql 3 a5612 (i 5) fun t5615=>
 ob (GV.asB t5615) fun q5616=>jn (bC q5616 (bn .eql 3 a5612 (i 12) fun t5617=>
 oN [a5610,a5611,t5617] h5609) (oN [a5610,a5611,t5615] h5609)) fun vs5618 h5619=>U3 vs5618 fun a5620 a5621 a5622=>ob (GV.asB a5622) fun q5623=>jn (bC q5623 (oN [] h5619) (fd 215 1 a5620 fun t5624=>
 ld 22 t5624 h5619 fun t5625=>
 fd 211 1 a5621 fun t5626=>
 ld 3 t5626 h5619 fun t5627=>
 ix 22 t5625 t5627 fun t5628=>
 ld 3 t5628 h5619 fun t5629=>
 oR [t5629] h5619)) fun vs5630 h5631=>U0 vs5630 (oN [] h5631)) (oR [(i 3)] h5609)) fun vs5632 h5633=>U0 vs5632 (oN [] h5633)) (oR [(i 2)] h5591)) fun vs5634 h5635=>U0 vs5634 (oN [] h5635))) fun vs5636 h5637=>U0 vs5636 (oR [(i 1)] h5637)
def B206 (c:CH) (ql:QH) (us:List GV) (H:GH):RS:=U2 us fun x5638 x5639=>
 kOR (vBox x5639 H) fun t5640 h5641=>
 ix 229 t5640 (i 0) fun t5642=>
 ld 3 t5642 h5641 fun t5643=>
 ix 229 t5640 (i 1) fun t5644=>
 ld 3 t5644 h5641 fun t5645=>
 ix 229 t5640 (i 2) fun t5646=>
 ld 3 t5646 h5641 fun t5647=>
 jn (nB 0 (bn .eql 3 x5638 (i 18) fun t5648=>
 ob (GV.asB t5648) fun q5649=>jn (bC q5649 (bn .eql 3 x5638 (i 24) fun t5650=>
 ob (GV.asB t5650) fun q5651=>jn (bC q5651 (bn .eql 3 x5638 (i 25) fun t5652=>
 ob (GV.asB t5652) fun q5653=>jn (bC q5653 (bn .eql 3 x5638 (i 26) fun t5654=>
 ob (GV.asB t5654) fun q5655=>jn (bC q5655 (bn .eql 3 x5638 (i 27) fun t5656=>
 ob (GV.asB t5656) fun q5657=>jn (bC q5657 (bn .eql 3 x5638 (i 28) fun t5658=>
 ob (GV.asB t5658) fun q5659=>jn (bC q5659 (bn .eql 3 x5638 (i 29) fun t5660=>
 oN [t5643,t5645,t5647,x5638,t5660] h5641) (oN [t5643,t5645,t5647,x5638,t5658] h5641)) fun vs5661 h5662=>U5 vs5661 fun a5663 a5664 a5665 a5666 a5667=>oN [a5663,a5664,a5665,a5666,a5667] h5662) (oN [t5643,t5645,t5647,x5638,t5656] h5641)) fun vs5668 h5669=>U5 vs5668 fun a5670 a5671 a5672 a5673 a5674=>oN [a5670,a5671,a5672,a5673,a5674] h5669) (oN [t5643,t5645,t5647,x5638,t5654] h5641)) fun vs5675 h5676=>U5 vs5675 fun a5677 a5678 a5679 a5680 a5681=>oN [a5677,a5678,a5679,a5680,a5681] h5676) (oN [t5643,t5645,t5647,x5638,t5652] h5641)) fun vs5682 h5683=>U5 vs5682 fun a5684 a5685 a5686 a5687 a5688=>oN [a5684,a5685,a5686,a5687,a5688] h5683) (oN [t5643,t5645,t5647,x5638,t5650] h5641)) fun vs5689 h5690=>U5 vs5689 fun a5691 a5692 a5693 a5694 a5695=>oN [a5691,a5692,a5693,a5694,a5695] h5690) (oN [t5643,t5645,t5647,x5638,t5648] h5641)) fun vs5696 h5697=>U5 vs5696 fun a5698 a5699 a5700 a5701 a5702=>ob (GV.asB a5702) fun q5703=>jn (bC q5703 (bn .eql 3 a5701 (i 19) fun t5707=>
 ob (GV.asB t5707) fun q5708=>jn (bC q5708 (bn .eql 3 a5701 (i 20) fun t5709=>
 ob (GV.asB t5709) fun q5710=>jn (bC q5710 (bn .eql 3 a5701 (i 21) fun t5711=>
 oN [a5698,a5699,a5700,a5701,t5711] h5697) (oN [a5698,a5699,a5700,a5701,t5709] h5697)) fun vs5712 h5713=>U5 vs5712 fun a5714 a5715 a5716 a5717 a5718=>oN [a5714,a5715,a5716,a5717,a5718] h5713) (oN [a5698,a5699,a5700,a5701,t5707] h5697)) fun vs5719 h5720=>U5 vs5719 fun a5721 a5722 a5723 a5724 a5725=>ob (GV.asB a5725) fun q5726=>jn (bC q5726 (bn .eql 3 a5724 (i 22) fun t5730=>
 ob (GV.asB t5730) fun q5731=>jn (bC q5731 (bn .eql 3 a5724 (i 23) fun t5735=>
 ob (GV.asB t5735) fun q5736=>jn (bC q5736 (bn .eql 3 a5724 (i 30) fun t5740=>
 ob (GV.asB t5740) fun q5741=>jn (bC q5741 (bn .eql 3 a5724 (i 31) fun t5742=>
 ob (GV.asB t5742) fun q5743=>jn (bC q5743 (bn .eql 3 a5724 (i 32) fun t5744=>
 ob (GV.asB t5744) fun q5745=>jn (bC q5745 (bn .eql 3 a5724 (i 33) fun t5746=>
 ob (GV.asB t5746) fun q5747=>jn (bC q5747 (bn .eql 3 a5724 (i 34) fun t5748=>
 oN [a5721,a5722,a5723,a5724,t5748] h5720) (oN [a5721,a5722,a5723,a5724,t5746] h5720)) fun vs5749 h5750=>U5 vs5749 fun a5751 a5752 a5753 a5754 a5755=>oN [a5751,a5752,a5753,a5754,a5755] h5750) (oN [a5721,a5722,a5723,a5724,t5744] h5720)) fun vs5756 h5757=>U5 vs5756 fun a5758 a5759 a5760 a5761 a5762=>oN [a5758,a5759,a5760,a5761,a5762] h5757) (oN [a5721,a5722,a5723,a5724,t5742] h5720)) fun vs5763 h5764=>U5 vs5763 fun a5765 a5766 a5767 a5768 a5769=>oN [a5765,a5766,a5767,a5768,a5769] h5764) (oN [a5721,a5722,a5723,a5724,t5740] h5720)) fun vs5770 h5771=>U5 vs5770 fun a5772 a5773 a5774 a5775 a5776=>ob (GV.asB a5776) fun q5777=>jn (bC q5777 (bn .eql 3 a5775 (i 35) fun t5787=>
 ob (GV.asB t5787) fun q5788=>jn (bC q5788 (bn .eql 3 a5775 (i 36) fun t5789=>
 oN [a5772,a5773,a5774,a5775,t5789] h5771) (oN [a5772,a5773,a5774,a5775,t5787] h5771)) fun vs5790 h5791=>U5 vs5790 fun a5792 a5793 a5794 a5795 a5796=>ob (GV.asB a5796) fun q5797=>jn (bC q5797 (bn .eql 3 a5795 (i 37) fun t5807=>
 ob (GV.asB t5807) fun q5808=>jn (bC q5808 (bn .eql 3 a5795 (i 38) fun t5809=>
 ob (GV.asB t5809) fun q5810=>jn (bC q5810 (bn .eql 3 a5795 (i 39) fun t5811=>
 ob (GV.asB t5811) fun q5812=>jn (bC q5812 (bn .eql 3 a5795 (i 40) fun t5813=>
 oN [a5792,a5793,a5794,a5795,t5813] h5791) (oN [a5792,a5793,a5794,a5795,t5811] h5791)) fun vs5814 h5815=>U5 vs5814 fun a5816 a5817 a5818 a5819 a5820=>oN [a5816,a5817,a5818,a5819,a5820] h5815) (oN [a5792,a5793,a5794,a5795,t5809] h5791)) fun vs5821 h5822=>U5 vs5821 fun a5823 a5824 a5825 a5826 a5827=>oN [a5823,a5824,a5825,a5826,a5827] h5822) (oN [a5792,a5793,a5794,a5795,t5807] h5791)) fun vs5828 h5829=>U5 vs5828 fun a5830 a5831 a5832 a5833 a5834=>ob (GV.asB a5834) fun q5835=>jn (bC q5835 (bn .eql 3 a5833 (i 41) fun t5845=>
 ob (GV.asB t5845) fun q5846=>jn (bC q5846 (bn .eql 3 a5833 (i 42) fun t5847=>
 oN [a5830,a5831,a5832,t5847] h5829) (oN [a5830,a5831,a5832,t5845] h5829)) fun vs5848 h5849=>U4 vs5848 fun a5850 a5851 a5852 a5853=>ob (GV.asB a5853) fun q5854=>jn (bC q5854 (oN [a5850,a5851,a5852] h5849) (bn .eql 3 a5850 (i 2) fun t5855=>
 kOR (rG t5855 true h5849 (some (a5851,h5849))) fun t5856 h5857=>
 kOR (rG t5855 true h5857 (ob (vBin y .eql 3 t5856 (i 2)) fun g5858=>some (g5858,h5857))) fun t5859 h5860=>
 ob (vPick t5855 t5859 (.bool false)) fun t5861=>
 K c 212 [t5861,(i 2)] h5860 fun t5862 h5863=>
 oR [t5862] h5863)) fun vs5864 h5865=>U3 vs5864 fun a5866 a5867 a5868=>oN [a5866,a5867,a5868] h5865) (bn .eql 3 a5830 (i 1) fun t5836=>
 kOR (rG t5836 true h5829 (some (a5831,h5829))) fun t5837 h5838=>
 kOR (rG t5836 true h5838 (ob (vBin y .eql 3 t5837 (i 1)) fun g5839=>some (g5839,h5838))) fun t5840 h5841=>
 ob (vPick t5836 t5840 (.bool false)) fun t5842=>
 K c 212 [t5842,(i 2)] h5841 fun t5843 h5844=>
 oR [t5843] h5844)) fun vs5869 h5870=>U3 vs5869 fun a5871 a5872 a5873=>oN [a5871,a5872,a5873] h5870) (bn .eql 3 a5792 a5793 fun t5798=>
 kOR (rG t5798 true h5791 (some (a5792,h5791))) fun t5799 h5800=>
 kOR (rG t5798 true h5800 (ob (vBin y .neq 3 t5799 (i 0)) fun g5801=>some (g5801,h5800))) fun t5802 h5803=>
 ob (vPick t5798 t5802 (.bool false)) fun t5804=>
 K c 212 [t5804,(i 2)] h5803 fun t5805 h5806=>
 oR [t5805] h5806)) fun vs5874 h5875=>U3 vs5874 fun a5876 a5877 a5878=>oN [a5876,a5877,a5878] h5875) (bn .eql 3 a5772 (i 1) fun t5778=>
 kOR (rG t5778 true h5771 (some (a5773,h5771))) fun t5779 h5780=>
 kOR (rG t5778 true h5780 (ob (vBin y .eql 3 t5779 (i 1)) fun g5781=>some (g5781,h5780))) fun t5782 h5783=>
 ob (vPick t5778 t5782 (.bool false)) fun t5784=>
 K c 212 [t5784,(i 1)] h5783 fun t5785 h5786=>
 oR [t5785] h5786)) fun vs5879 h5880=>U3 vs5879 fun a5881 a5882 a5883=>oN [a5881,a5882,a5883] h5880) (bn .eql 3 a5721 (i 2) fun t5737=>
 K c 212 [t5737,(i 3)] h5720 fun t5738 h5739=>
 oR [t5738] h5739)) fun vs5884 h5885=>U3 vs5884 fun a5886 a5887 a5888=>oN [a5886,a5887,a5888] h5885) (bn .eql 3 a5721 (i 2) fun t5732=>
 K c 212 [t5732,(i 1)] h5720 fun t5733 h5734=>
 oR [t5733] h5734)) fun vs5889 h5890=>U3 vs5889 fun a5891 a5892 a5893=>oN [a5891,a5892,a5893] h5890) (bn .eql 3 a5721 (i 2) fun t5727=>
 K c 212 [t5727,(i 2)] h5720 fun t5728 h5729=>
 oR [t5728] h5729)) fun vs5894 h5895=>U3 vs5894 fun a5896 a5897 a5898=>oN [a5896,a5897,a5898] h5895) (bn .eql 3 a5698 (i 1) fun t5704=>
 K c 212 [t5704,(i 1)] h5697 fun t5705 h5706=>
 oR [t5705] h5706)) fun vs5899 h5900=>U3 vs5899 fun a5901 a5902 a5903=>oN [a5901,a5902,a5903] h5900)) fun vs5904 h5905=>U3 vs5904 fun a5906 a5907 a5908=>bn .eql 3 a5906 (i 2) fun t5909=>
 kOR (rG t5909 true h5905 (some (a5907,h5905))) fun t5910 h5911=>
 kOR (rG t5909 true h5911 (some (a5908,h5911))) fun t5912 h5913=>
 kOR (rG t5909 true h5913 (ob (vBin y .eql 3 t5910 t5912) fun g5914=>some (g5914,h5913))) fun t5915 h5916=>
 ob (vPick t5909 t5915 (.bool false)) fun t5917=>
 K c 212 [t5917,a5907] h5916 fun t5918 h5919=>
 oR [t5918] h5919
def B207 (c:CH) (ql:QH) (us:List GV) (H:GH):RS:=U3 us fun x5920 x5921 x5922=>
 ob (GV.nilck x5920) fun t5923=>
 fd 232 3 t5923 fun t5924=>
 ld 149 t5924 H fun t5925=>
 ix 149 t5925 x5921 fun t5926=>
 ld 211 t5926 H fun t5927=>
 kOR (vAlloc y 211 H) fun t5928 h5929=>
 kOR (vStore y 211 t5928 t5927 h5929) fun t5930 h5931=>
 jn (nB 0 (fd 211 0 t5928 fun t5932=>
 ld 3 t5932 h5931 fun t5933=>
 bn .leq 3 t5933 (i 17) fun t5934=>
 ob (GV.asB t5934) fun q5935=>jn (bC q5935 (fd 211 0 t5928 fun t5940=>
 ld 3 t5940 h5931 fun t5941=>
 bn .leq 3 t5941 (i 19) fun t5942=>
 ob (GV.asB t5942) fun q5943=>jn (bC q5943 (fd 211 0 t5928 fun t5953=>
 ld 3 t5953 h5931 fun t5954=>
 bn .leq 3 t5954 (i 29) fun t5955=>
 ob (GV.asB t5955) fun q5956=>jn (bC q5956 (fd 211 0 t5928 fun t5963=>
 ld 3 t5963 h5931 fun t5964=>
 bn .leq 3 t5964 (i 42) fun t5965=>
 ob (GV.asB t5965) fun q5966=>jn (bC q5966 (oN [x5920,x5921,x5922] h5931) (bn .add 3 x5921 (i 1) fun t5967=>
 K c 207 [x5920,t5967,x5922] h5931 fun t5968 h5969=>
 ex 0 t5968 fun t5970=>
 ex 1 t5968 fun t5971=>
 K c 207 [x5920,t5971,x5922] h5969 fun t5972 h5973=>
 ex 0 t5972 fun t5974=>
 ex 1 t5972 fun t5975=>
 fd 211 0 t5928 fun t5976=>
 ld 3 t5976 h5973 fun t5977=>
 K c 216 [t5977,t5970,t5974] h5973 fun t5978 h5979=>
 oR [t5978,t5975] h5979)) fun vs5980 h5981=>U3 vs5980 fun a5982 a5983 a5984=>oN [a5982,a5983,a5984] h5981) (fd 211 0 t5928 fun t5957=>
 ld 3 t5957 h5931 fun t5958=>
 K c 215 [x5920,t5958,x5921] h5931 fun t5959 h5960=>
 ex 0 t5959 fun t5961=>
 ex 1 t5959 fun t5962=>
 oR [t5961,t5962] h5960)) fun vs5985 h5986=>U3 vs5985 fun a5987 a5988 a5989=>oN [a5987,a5988,a5989] h5986) (bn .add 3 x5921 (i 1) fun t5944=>
 K c 207 [x5920,t5944,x5922] h5931 fun t5945 h5946=>
 ex 0 t5945 fun t5947=>
 ex 1 t5945 fun t5948=>
 fd 211 0 t5928 fun t5949=>
 ld 3 t5949 h5946 fun t5950=>
 K c 214 [t5950,t5947] h5946 fun t5951 h5952=>
 oR [t5951,t5948] h5952)) fun vs5990 h5991=>U3 vs5990 fun a5992 a5993 a5994=>oN [a5992,a5993,a5994] h5991) (ld 211 t5928 h5931 fun t5936=>
 K c 213 [x5920,t5936,x5922] h5931 fun t5937 h5938=>
 bn .add 3 x5921 (i 1) fun t5939=>
 oR [t5937,t5939] h5938)) fun vs5995 h5996=>U3 vs5995 fun a5997 a5998 a5999=>oN [a5997,a5998,a5999] h5996)) fun vs6000 h6001=>U3 vs6000 fun a6002 a6003 a6004=>bn .add 3 a6003 (i 1) fun t6005=>
 K c 207 [a6002,t6005,a6004] h6001 fun t6006 h6007=>
 ex 0 t6006 fun t6008=>
 ex 1 t6006 fun t6009=>
 K c 207 [a6002,t6009,a6004] h6007 fun t6010 h6011=>
 ex 0 t6010 fun t6012=>
 ex 1 t6010 fun t6013=>
 K c 207 [a6002,t6013,a6004] h6011 fun t6014 h6015=>
 ex 0 t6014 fun t6016=>
 ex 1 t6014 fun t6017=>
 bn .neq 3 t6008 (i 0) fun t6018=>
 ob (GV.asB t6018) fun q6019=>jn (bC q6019 (oN [t6017,t6016] h6015) (oR [t6012,t6017] h6015)) fun vs6020 h6021=>U2 vs6020 fun a6022 a6023=>oR [a6023,a6022] h6021
def B209 (c:CH) (ql:QH) (us:List GV) (H:GH):RS:=U1 us fun x6024=>
 K c 147 [x6024] H fun t6025 h6026=>
 K c 148 [x6024] h6026 fun t6027 h6028=>
 bn .eql 3 t6027 (i 2) fun t6029=>
 ob (GV.asB t6029) fun q6030=>jn (bC q6030 (oN [x6024,t6025] h6028) (K c 150 [x6024] h6028 fun t6031 h6032=>
 pt 136 3 t6031 fun t6033=>
 K c 198 [(i 1),t6033] h6032 fun t6034 h6035=>
 oR [t6034] h6035)) fun vs6036 h6037=>U2 vs6036 fun a6038 a6039=>K c 146 [a6038,(.str 40 1)] h6037 fun t6040 h6041=>
 ob (GV.asB t6040) fun q6042=>jn (bC q6042 (oN [a6038,a6039] h6041) (K c 153 [a6038] h6041 fun t6043 h6044=>
 K c 116 [a6038,(.str 41 1)] h6044 fun t6045 h6046=>
 oR [t6043] h6046)) fun vs6047 h6048=>U2 vs6047 fun a6049 a6050=>K c 146 [a6049,(.str 113 1)] h6048 fun t6051 h6052=>
 ob (GV.asB t6051) fun q6053=>jn (bC q6053 (oN [a6049,a6050] h6052) (K c 217 [a6049] h6052 fun t6054 h6055=>
 oR [t6054] h6055)) fun vs6056 h6057=>U2 vs6056 fun a6058 a6059=>K c 218 [a6059] h6057 fun t6060 h6061=>
 bn .neq 3 t6060 (i 0) fun t6062=>
 ob (GV.asB t6062) fun q6063=>jn (bC q6063 (oN [a6058,a6059] h6061) (K c 150 [a6058] h6061 fun t6064 h6065=>
 K c 198 [t6060,(i 0)] h6065 fun t6066 h6067=>
 oR [t6066] h6067)) fun vs6068 h6069=>U2 vs6068 fun a6070 a6071=>K c 219 [a6071] h6069 fun t6072 h6073=>
 bn .neq 3 t6072 (i 0) fun t6074=>
 ob (GV.asB t6074) fun q6075=>jn (bC q6075 (oN [a6070] h6073) (K c 150 [a6070] h6073 fun t6076 h6077=>
 K c 116 [a6070,(.str 40 1)] h6077 fun t6078 h6079=>
 K c 153 [a6070] h6079 fun t6080 h6081=>
 K c 116 [a6070,(.str 41 1)] h6081 fun t6082 h6083=>
 kOR (vBuildS y 225 1 [(0,t6080)] h6083) fun t6084 h6085=>
 K c 178 [t6072,t6084] h6085 fun t6086 h6087=>
 oR [t6086] h6087)) fun vs6088 h6089=>U1 vs6088 fun a6090=>K c 154 [a6090] h6089 fun t6091 h6092=>
 K c 198 [(i 5),t6091] h6092 fun t6093 h6094=>
 oR [t6093] h6094
def B210 (c:CH) (ql:QH) (us:List GV) (H:GH):RS:=U3 us fun x6095 x6096 x6097=>
 bn .eql 9 x6095 (.str 0 0) fun t6098=>
 ob (GV.asB t6098) fun q6099=>jn (bC q6099 (oN [x6095,x6096,x6097] H) (oR [(i 0)] H)) fun vs6100 h6101=>U3 vs6100 fun a6102 a6103 a6104=>ln 113 a6104 fun t6105=>
 jn (nB 0 (ql 55 [a6102,a6103,a6104,t6105,(i 0)] h6101)) fun vs6106 h6107=>U0 vs6106 (oR [(i 0)] h6107)
def L55 (c:CH) (ql:QH) (us:List GV) (H:GH):RS:=U5 us fun a6108 a6109 a6110 a6111 a6112=>jn (bn .lss 3 a6112 a6111 fun t6113=>
 ob (GV.asB t6113) fun q6114=>jn (bC q6114 (oX 0 [] H) (oN [a6108,a6109,a6110,a6111,a6112] H)) fun vs6115 h6116=>U5 vs6115 fun a6117 a6118 a6119 a6120 a6121=>jn (nB 1 (ix 113 a6119 a6121 fun t6122=>
 ld 9 t6122 h6116 fun t6123=>
 bn .eql 9 t6123 a6117 fun t6124=>
 ob (GV.asB t6124) fun q6125=>jn (bC q6125 (oN [a6117,a6118,a6119,a6120,a6121] h6116) (bn .add 3 a6118 a6121 fun t6126=>
 oR [t6126] h6116)) fun vs6127 h6128=>U5 vs6127 fun a6129 a6130 a6131 a6132 a6133=>oN [a6129,a6130,a6131,a6132,a6133] h6128)) fun vs6134 h6135=>U5 vs6134 fun a6136 a6137 a6138 a6139 a6140=>bn .add 3 a6140 (i 1) fun t6141=>
 oN [a6136,a6137,a6138,a6139,t6141] h6135) (ql 55)
def B211 (c:CH) (ql:QH) (us:List GV) (H:GH):RS:=U0 us (kOR (vBuildS y 113 13 [(0,(.str 42 1)),(1,(.str 47 1)),(2,(.str 37 1)),(3,(.str 43 1)),(4,(.str 45 1)),(5,(.str 15677 2)),(6,(.str 15649 2)),(7,(.str 60 1)),(8,(.str 15676 2)),(9,(.str 62 1)),(10,(.str 15678 2)),(11,(.str 9766 2)),(12,(.str 31868 2))] H) fun t6142 h6143=>
 oR [t6142] h6143)
def B212 (c:CH) (ql:QH) (us:List GV) (H:GH):RS:=U2 us fun x6144 x6145=>
 ob (GV.asB x6144) fun q6146=>jn (bC q6146 (oN [] H) (oR [x6145] H)) fun vs6147 h6148=>U0 vs6147 (oR [(i 0)] h6148)
def B213 (c:CH) (ql:QH) (us:List GV) (H:GH):RS:=U3 us fun x6149 x6150 x6151=>
 kOR (vBox x6150 H) fun t6152 h6153=>
 fd 211 0 t6152 fun t6154=>
 ld 3 t6154 h6153 fun t6155=>
 jn (nB 0 (bn .eql 3 t6155 (i 1) fun t6156=>
 ob (GV.asB t6156) fun q6157=>jn (bC q6157 (bn .eql 3 t6155 (i 2) fun t6160=>
 ob (GV.asB t6160) fun q6161=>jn (bC q6161 (bn .eql 3 t6155 (i 3) fun t6162=>
 ob (GV.asB t6162) fun q6163=>jn (bC q6163 (bn .eql 3 t6155 (i 4) fun t6164=>
 ob (GV.asB t6164) fun q6165=>jn (bC q6165 (bn .eql 3 t6155 (i 5) fun t6166=>
 ob (GV.asB t6166) fun q6167=>jn (bC q6167 (bn .eql 3 t6155 (i 12) fun t6180=>
 ob (GV.asB t6180) fun q6181=>jn (bC q6181 (oN [x6149,x6151,t6152] h6153) (ob (GV.nilck x6149) fun t6182=>
 fd 232 1 t6182 fun t6183=>
 ld 30 t6183 h6153 fun t6184=>
 ob (GV.nilck x6149) fun t6185=>
 fd 232 0 t6185 fun t6186=>
 ld 160 t6186 h6153 fun t6187=>
 ob (GV.nilck t6187) fun t6188=>
 fd 196 1 t6188 fun t6189=>
 fd 25 1 t6189 fun t6190=>
 ld 23 t6190 h6153 fun t6191=>
 ob (GV.nilck x6149) fun t6192=>
 fd 232 2 t6192 fun t6193=>
 ld 3 t6193 h6153 fun t6194=>
 ix 23 t6191 t6194 fun t6195=>
 ld 84 t6195 h6153 fun t6196=>
 ix 84 t6196 x6151 fun t6197=>
 fd 87 0 t6197 fun t6198=>
 ld 3 t6198 h6153 fun t6199=>
 ix 30 t6184 t6199 fun t6200=>
 ld 22 t6200 h6153 fun t6201=>
 fd 211 1 t6152 fun t6202=>
 ld 3 t6202 h6153 fun t6203=>
 ix 22 t6201 t6203 fun t6204=>
 ld 3 t6204 h6153 fun t6205=>
 oR [t6205] h6153)) fun vs6206 h6207=>U3 vs6206 fun a6208 a6209 a6210=>oN [a6208,a6209,a6210] h6207) (ob (GV.nilck x6149) fun t6168=>
 fd 232 1 t6168 fun t6169=>
 ld 30 t6169 h6153 fun t6170=>
 ob (GV.nilck x6149) fun t6171=>
 fd 232 2 t6171 fun t6172=>
 ld 3 t6172 h6153 fun t6173=>
 ix 30 t6170 t6173 fun t6174=>
 ld 22 t6174 h6153 fun t6175=>
 fd 211 1 t6152 fun t6176=>
 ld 3 t6176 h6153 fun t6177=>
 ix 22 t6175 t6177 fun t6178=>
 ld 3 t6178 h6153 fun t6179=>
 oR [t6179] h6153)) fun vs6211 h6212=>U3 vs6211 fun a6213 a6214 a6215=>oN [a6213,a6214,a6215] h6212) (oR [(.int .i64 (.negSucc 0))] h6153)) fun vs6216 h6217=>U3 vs6216 fun a6218 a6219 a6220=>oN [a6218,a6219,a6220] h6217) (oR [(i 0)] h6153)) fun vs6221 h6222=>U3 vs6221 fun a6223 a6224 a6225=>oN [a6223,a6224,a6225] h6222) (oR [(i 1)] h6153)) fun vs6226 h6227=>U3 vs6226 fun a6228 a6229 a6230=>oN [a6228,a6229,a6230] h6227) (fd 211 1 t6152 fun t6158=>
 ld 3 t6158 h6153 fun t6159=>
 oR [t6159] h6153)) fun vs6231 h6232=>U3 vs6231 fun a6233 a6234 a6235=>oN [a6233,a6234,a6235] h6232)) fun vs6236 h6237=>U3 vs6236 fun a6238 a6239 a6240=>ob (GV.nilck a6238) fun t6241=>
 fd 232 0 t6241 fun t6242=>
 ld 160 t6242 h6237 fun t6243=>
 fd 211 0 a6240 fun t6244=>
 ld 3 t6244 h6237 fun t6245=>
 ob (GV.nilck a6238) fun t6246=>
 fd 232 2 t6246 fun t6247=>
 ld 3 t6247 h6237 fun t6248=>
 K c 220 [t6243,t6245,t6248,a6239] h6237 fun t6249 h6250=>
 oR [t6249] h6250
def B214 (c:CH) (ql:QH) (us:List GV) (H:GH):RS:=U2 us fun x6251 x6252=>
 bn .eql 3 x6251 (i 18) fun t6253=>
 ob (GV.asB t6253) fun q6254=>jn (bC q6254 (oN [x6252] H) (ob (vUn .neg x6252) fun t6255=>
 oR [t6255] H)) fun vs6256 h6257=>U1 vs6256 fun a6258=>bn .eql 3 a6258 (i 0) fun t6259=>
 K c 221 [t6259] h6257 fun t6260 h6261=>
 oR [t6260] h6261
def B215 (c:CH) (ql:QH) (us:List GV) (H:GH):RS:=U3 us fun x6262 x6263 x6264=>
 kOR (vAlloc y 108 H) fun t6265 h6266=>
 ob (GV.nilck x6262) fun t6267=>
 fd 232 0 t6267 fun t6268=>
 ld 160 t6268 h6266 fun t6269=>
 ob (GV.nilck t6269) fun t6270=>
 fd 196 1 t6270 fun t6271=>
 fd 25 1 t6271 fun t6272=>
 ld 23 t6272 h6266 fun t6273=>
 ob (GV.nilck x6262) fun t6274=>
 fd 232 2 t6274 fun t6275=>
 ld 3 t6275 h6266 fun t6276=>
 ix 23 t6273 t6276 fun t6277=>
 ld 84 t6277 h6266 fun t6278=>
 ln 84 t6278 fun t6279=>
 jn (nB 0 (ql 56 [x6262,x6263,x6264,(i 0),t6265,t6279,t6279,(i 0)] h6266)) fun vs6280 h6281=>U6 vs6280 fun a6282 a6283 a6284 a6285 a6286 a6287=>bn .eql 3 a6287 (i 0) fun t6288=>
 ob (GV.asB t6288) fun q6289=>jn (bC q6289 (oN [a6283,a6285,a6286,a6287] h6281) (ob (GV.nilck a6282) fun t6290=>
 fd 232 3 t6290 fun t6291=>
 ld 149 t6291 h6281 fun t6292=>
 K c 180 [t6292,a6284] h6281 fun t6293 h6294=>
 oN [a6283,t6293,a6286,a6287] h6294)) fun vs6295 h6296=>U4 vs6295 fun a6297 a6298 a6299 a6300=>ob (vSlice y 108 a6299 none (some a6300) h6296) fun t6301=>
 K c 222 [a6297,t6301] h6296 fun t6302 h6303=>
 oR [t6302,a6298] h6303
def L56 (c:CH) (ql:QH) (us:List GV) (H:GH):RS:=U8 us fun a6304 a6305 a6306 a6307 a6308 a6309 a6310 a6311=>jn (bn .lss 3 a6311 a6310 fun t6312=>
 ob (GV.asB t6312) fun q6313=>jn (bC q6313 (oX 0 [a6304,a6305,a6306,a6307,a6308,a6309] H) (oN [a6304,a6305,a6306,a6308,a6309,a6310,a6311] H)) fun vs6314 h6315=>U7 vs6314 fun a6316 a6317 a6318 a6319 a6320 a6321 a6322=>jn (nB 1 (bn .add 3 a6318 (i 1) fun t6323=>
 K c 207 [a6316,t6323,a6322] h6315 fun t6324 h6325=>
 ex 0 t6324 fun t6326=>
 ex 1 t6324 fun t6327=>
 ix 108 a6319 a6322 fun t6328=>
 kOR (vStore y 3 t6328 t6326 h6325) fun t6329 h6330=>
 oN [a6316,a6317,a6318,t6327,a6319,a6320,a6321,a6322] h6330)) fun vs6331 h6332=>U8 vs6331 fun a6333 a6334 a6335 a6336 a6337 a6338 a6339 a6340=>bn .add 3 a6340 (i 1) fun t6341=>
 oN [a6333,a6334,a6335,a6336,a6337,a6338,a6339,t6341] h6332) (ql 56)
def B216 (c:CH) (ql:QH) (us:List GV) (H:GH):RS:=U3 us fun x6342 x6343 x6344=>
 jn (nB 0 (bn .eql 3 x6342 (i 30) fun t6345=>
 ob (GV.asB t6345) fun q6346=>jn (bC q6346 (bn .eql 3 x6342 (i 31) fun t6350=>
 ob (GV.asB t6350) fun q6351=>jn (bC q6351 (bn .eql 3 x6342 (i 32) fun t6356=>
 ob (GV.asB t6356) fun q6357=>jn (bC q6357 (bn .eql 3 x6342 (i 33) fun t6370=>
 ob (GV.asB t6370) fun q6371=>jn (bC q6371 (bn .eql 3 x6342 (i 34) fun t6375=>
 ob (GV.asB t6375) fun q6376=>jn (bC q6376 (bn .eql 3 x6342 (i 41) fun t6380=>
 ob (GV.asB t6380) fun q6381=>jn (bC q6381 (bn .eql 3 x6342 (i 42) fun t6391=>
 ob (GV.asB t6391) fun q6392=>jn (bC q6392 (oN [x6342,x6343,x6344] H) (bn .neq 3 x6343 (i 0) fun t6393=>
 kOR (rG t6393 false H (some (x6344,H))) fun t6394 h6395=>
 kOR (rG t6393 false h6395 (ob (vBin y .neq 3 t6394 (i 0)) fun g6396=>some (g6396,h6395))) fun t6397 h6398=>
 ob (vPick t6393 (.bool true) t6397) fun t6399=>
 K c 221 [t6399] h6398 fun t6400 h6401=>
 oR [t6400] h6401)) fun vs6402 h6403=>U3 vs6402 fun a6404 a6405 a6406=>oN [a6404,a6405,a6406] h6403) (bn .neq 3 x6343 (i 0) fun t6382=>
 kOR (rG t6382 true H (some (x6344,H))) fun t6383 h6384=>
 kOR (rG t6382 true h6384 (ob (vBin y .neq 3 t6383 (i 0)) fun g6385=>some (g6385,h6384))) fun t6386 h6387=>
 ob (vPick t6382 t6386 (.bool false)) fun t6388=>
 K c 221 [t6388] h6387 fun t6389 h6390=>
 oR [t6389] h6390)) fun vs6407 h6408=>U3 vs6407 fun a6409 a6410 a6411=>oN [a6409,a6410,a6411] h6408) (bn .sub 3 x6343 x6344 fun t6377=>
 K c 223 [t6377] H fun t6378 h6379=>
 oR [t6378] h6379)) fun vs6412 h6413=>U3 vs6412 fun a6414 a6415 a6416=>oN [a6414,a6415,a6416] h6413) (bn .add 3 x6343 x6344 fun t6372=>
 K c 223 [t6372] H fun t6373 h6374=>
 oR [t6373] h6374)) fun vs6417 h6418=>U3 vs6417 fun a6419 a6420 a6421=>oN [a6419,a6420,a6421] h6418) (bn .eql 3 x6344 (i 0) fun t6358=>
 ob (GV.asB t6358) fun q6359=>jn (bC q6359 (oN [x6343,x6344] H) (oR [(i 0)] H)) fun vs6360 h6361=>U2 vs6360 fun a6362 a6363=>K c 224 [a6362,a6363] h6361 fun t6364 h6365=>
 bn .mul 3 a6363 t6364 fun t6366=>
 bn .sub 3 a6362 t6366 fun t6367=>
 K c 223 [t6367] h6365 fun t6368 h6369=>
 oR [t6368] h6369)) fun vs6422 h6423=>U3 vs6422 fun a6424 a6425 a6426=>oN [a6424,a6425,a6426] h6423) (K c 224 [x6343,x6344] H fun t6352 h6353=>
 K c 223 [t6352] h6353 fun t6354 h6355=>
 oR [t6354] h6355)) fun vs6427 h6428=>U3 vs6427 fun a6429 a6430 a6431=>oN [a6429,a6430,a6431] h6428) (bn .mul 3 x6343 x6344 fun t6347=>
 K c 223 [t6347] H fun t6348 h6349=>
 oR [t6348] h6349)) fun vs6432 h6433=>U3 vs6432 fun a6434 a6435 a6436=>oN [a6434,a6435,a6436] h6433)) fun vs6437 h6438=>U3 vs6437 fun a6439 a6440 a6441=>K c 225 [a6439,a6440,a6441] h6438 fun t6442 h6443=>
 K c 221 [t6442] h6443 fun t6444 h6445=>
 oR [t6444] h6445
def B217 (c:CH) (ql:QH) (us:List GV) (H:GH):RS:=U1 us fun x6446=>
 K c 146 [x6446,(.str 46 1)] H fun t6447 h6448=>
 ob (vUn .not t6447) fun t6449=>
 ob (GV.asB t6449) fun q6450=>jn (bC q6450 (oN [x6446] h6448) (K c 198 [(i 11),(i 0)] h6448 fun t6451 h6452=>
 oR [t6451] h6452)) fun vs6453 h6454=>U1 vs6453 fun a6455=>K c 147 [a6455] h6454 fun t6456 h6457=>
 K c 226 [t6456] h6457 fun t6458 h6459=>
 bn .neq 3 t6458 (i 0) fun t6460=>
 ob (GV.asB t6460) fun q6461=>jn (bC q6461 (oN [a6455] h6459) (K c 150 [a6455] h6459 fun t6462 h6463=>
 K c 198 [t6458,(i 0)] h6463 fun t6464 h6465=>
 oR [t6464] h6465)) fun vs6466 h6467=>U1 vs6466 fun a6468=>K c 154 [a6468] h6467 fun t6469 h6470=>
 K c 198 [(i 12),t6469] h6470 fun t6471 h6472=>
 oR [t6471] h6472
def B218 (c:CH) (ql:QH) (us:List GV) (H:GH):RS:=U1 us fun x6473=>
 K c 227 [] H fun t6474 h6475=>
 K c 210 [x6473,(i 2),t6474] h6475 fun t6476 h6477=>
 oR [t6476] h6477
def B219 (c:CH) (ql:QH) (us:List GV) (H:GH):RS:=U1 us fun x6478=>
 K c 228 [] H fun t6479 h6480=>
 K c 210 [x6478,(i 20),t6479] h6480 fun t6481 h6482=>
 oR [t6481] h6482
def B220 (c:CH) (ql:QH) (us:List GV) (H:GH):RS:=U4 us fun x6483 x6484 x6485 x6486=>
 jn (nB 0 (bn .eql 3 x6484 (i 6) fun t6487=>
 ob (GV.asB t6487) fun q6488=>jn (bC q6488 (bn .eql 3 x6484 (i 7) fun t6494=>
 ob (GV.asB t6494) fun q6495=>jn (bC q6495 (bn .eql 3 x6484 (i 8) fun t6499=>
 ob (GV.asB t6499) fun q6500=>jn (bC q6500 (bn .eql 3 x6484 (i 9) fun t6507=>
 ob (GV.asB t6507) fun q6508=>jn (bC q6508 (bn .eql 3 x6484 (i 10) fun t6516=>
 ob (GV.asB t6516) fun q6517=>jn (bC q6517 (bn .eql 3 x6484 (i 11) fun t6521=>
 ob (GV.asB t6521) fun q6522=>jn (bC q6522 (oN [x6483,x6484,x6485,x6486] H) (oR [x6486] H)) fun vs6523 h6524=>U4 vs6523 fun a6525 a6526 a6527 a6528=>oN [a6525,a6526,a6527,a6528] h6524) (bn .eql 3 x6485 (i 0) fun t6518=>
 K c 221 [t6518] H fun t6519 h6520=>
 oR [t6519] h6520)) fun vs6529 h6530=>U4 vs6529 fun a6531 a6532 a6533 a6534=>oN [a6531,a6532,a6533,a6534] h6530) (ob (GV.nilck x6483) fun t6509=>
 fd 196 1 t6509 fun t6510=>
 fd 25 1 t6510 fun t6511=>
 ld 23 t6511 H fun t6512=>
 ix 23 t6512 x6485 fun t6513=>
 ld 84 t6513 H fun t6514=>
 ln 84 t6514 fun t6515=>
 oR [t6515] H)) fun vs6535 h6536=>U4 vs6535 fun a6537 a6538 a6539 a6540=>oN [a6537,a6538,a6539,a6540] h6536) (ob (GV.nilck x6483) fun t6501=>
 fd 196 1 t6501 fun t6502=>
 fd 25 0 t6502 fun t6503=>
 ld 22 t6503 H fun t6504=>
 ix 22 t6504 x6485 fun t6505=>
 ld 3 t6505 H fun t6506=>
 oR [t6506] H)) fun vs6541 h6542=>U4 vs6541 fun a6543 a6544 a6545 a6546=>oN [a6543,a6544,a6545,a6546] h6542) (ob (GV.nilck x6483) fun t6496=>
 fd 196 2 t6496 fun t6497=>
 ld 3 t6497 H fun t6498=>
 oR [t6498] H)) fun vs6547 h6548=>U4 vs6547 fun a6549 a6550 a6551 a6552=>oN [a6549,a6550,a6551,a6552] h6548) (ob (GV.nilck x6483) fun t6489=>
 fd 196 1 t6489 fun t6490=>
 fd 25 0 t6490 fun t6491=>
 ld 22 t6491 H fun t6492=>
 ln 22 t6492 fun t6493=>
 oR [t6493] H)) fun vs6553 h6554=>U4 vs6553 fun a6555 a6556 a6557 a6558=>oN [a6555,a6556,a6557,a6558] h6554)) fun vs6559 h6560=>U4 vs6559 fun a6561 a6562 a6563 a6564=>ob (GV.nilck a6561) fun t6565=>
 fd 196 1 t6565 fun t6566=>
 fd 25 1 t6566 fun t6567=>
 ld 23 t6567 h6560 fun t6568=>
 ix 23 t6568 a6563 fun t6569=>
 ld 84 t6569 h6560 fun t6570=>
 ix 84 t6570 a6564 fun t6571=>
 ld 87 t6571 h6560 fun t6572=>
 kOR (vAlloc y 87 h6560) fun t6573 h6574=>
 kOR (vStore y 87 t6573 t6572 h6574) fun t6575 h6576=>
 jn (nB 1 (bn .eql 3 a6562 (i 13) fun t6577=>
 ob (GV.asB t6577) fun q6578=>jn (bC q6578 (bn .eql 3 a6562 (i 14) fun t6587=>
 ob (GV.asB t6587) fun q6588=>jn (bC q6588 (bn .eql 3 a6562 (i 15) fun t6598=>
 ob (GV.asB t6598) fun q6599=>jn (bC q6599 (bn .eql 3 a6562 (i 16) fun t6605=>
 ob (GV.asB t6605) fun q6606=>jn (bC q6606 (oN [a6561,a6563,a6564] h6576) (fd 87 1 t6573 fun t6607=>
 ld 3 t6607 h6576 fun t6608=>
 oR [t6608] h6576)) fun vs6609 h6610=>U3 vs6609 fun a6611 a6612 a6613=>oN [a6611,a6612,a6613] h6610) (fd 87 0 t6573 fun t6600=>
 ld 3 t6600 h6576 fun t6601=>
 bn .eql 3 t6601 (i 0) fun t6602=>
 K c 221 [t6602] h6576 fun t6603 h6604=>
 oR [t6603] h6604)) fun vs6614 h6615=>U3 vs6614 fun a6616 a6617 a6618=>oN [a6616,a6617,a6618] h6615) (ob (GV.nilck a6561) fun t6589=>
 fd 196 1 t6589 fun t6590=>
 fd 25 1 t6590 fun t6591=>
 ld 23 t6591 h6576 fun t6592=>
 fd 87 0 t6573 fun t6593=>
 ld 3 t6593 h6576 fun t6594=>
 ix 23 t6592 t6594 fun t6595=>
 ld 84 t6595 h6576 fun t6596=>
 ln 84 t6596 fun t6597=>
 oR [t6597] h6576)) fun vs6619 h6620=>U3 vs6619 fun a6621 a6622 a6623=>oN [a6621,a6622,a6623] h6620) (ob (GV.nilck a6561) fun t6579=>
 fd 196 1 t6579 fun t6580=>
 fd 25 0 t6580 fun t6581=>
 ld 22 t6581 h6576 fun t6582=>
 fd 87 0 t6573 fun t6583=>
 ld 3 t6583 h6576 fun t6584=>
 ix 22 t6582 t6584 fun t6585=>
 ld 3 t6585 h6576 fun t6586=>
 oR [t6586] h6576)) fun vs6624 h6625=>U3 vs6624 fun a6626 a6627 a6628=>oN [a6626,a6627,a6628] h6625)) fun vs6629 h6630=>U3 vs6629 fun a6631 a6632 a6633=>ob (GV.nilck a6631) fun t6634=>
 fd 196 3 t6634 fun t6635=>
 ld 30 t6635 h6630 fun t6636=>
 ix 30 t6636 a6632 fun t6637=>
 ld 22 t6637 h6630 fun t6638=>
 ix 22 t6638 a6633 fun t6639=>
 ld 3 t6639 h6630 fun t6640=>
 oR [t6640] h6630
def B221 (c:CH) (ql:QH) (us:List GV) (H:GH):RS:=U1 us fun x6641=>
 ob (GV.asB x6641) fun q6642=>jn (bC q6642 (oN [] H) (oR [(i 1)] H)) fun vs6643 h6644=>U0 vs6643 (oR [(i 0)] h6644)
def B222 (c:CH) (ql:QH) (us:List GV) (H:GH):RS:=U2 us fun x6645 x6646=>
 jn (nB 0 (bn .eql 3 x6645 (i 20) fun t6647=>
 ob (GV.asB t6647) fun q6648=>jn (bC q6648 (bn .eql 3 x6645 (i 21) fun t6655=>
 ob (GV.asB t6655) fun q6656=>jn (bC q6656 (bn .eql 3 x6645 (i 22) fun t6662=>
 ob (GV.asB t6662) fun q6663=>jn (bC q6663 (bn .eql 3 x6645 (i 23) fun t6666=>
 ob (GV.asB t6666) fun q6667=>jn (bC q6667 (bn .eql 3 x6645 (i 24) fun t6670=>
 ob (GV.asB t6670) fun q6671=>jn (bC q6671 (bn .eql 3 x6645 (i 25) fun t6676=>
 ob (GV.asB t6676) fun q6677=>jn (bC q6677 (bn .eql 3 x6645 (i 26) fun t6682=>
 ob (GV.asB t6682) fun q6683=>jn (bC q6683 (bn .eql 3 x6645 (i 27) fun t6690=>
 ob (GV.asB t6690) fun q6691=>jn (bC q6691 (bn .eql 3 x6645 (i 28) fun t6694=>
 ob (GV.asB t6694) fun q6695=>jn (bC q6695 (oN [x6646] H) (K c 232 [x6646] H fun t6696 h6697=>
 ex 0 t6696 fun t6698=>
 ex 1 t6696 fun t6699=>
 oR [t6699] h6697)) fun vs6700 h6701=>U1 vs6700 fun a6702=>oN [a6702] h6701) (K c 233 [x6646] H fun t6692 h6693=>
 oR [t6692] h6693)) fun vs6703 h6704=>U1 vs6703 fun a6705=>oN [a6705] h6704) (ln 22 x6646 fun t6684=>
 jn (nB 3 (ql 58 [(i 0),x6646,t6684,(i 0)] H)) fun vs6685 h6686=>U1 vs6685 fun a6687=>K c 223 [a6687] h6686 fun t6688 h6689=>
 oR [t6688] h6689)) fun vs6706 h6707=>U1 vs6706 fun a6708=>oN [a6708] h6707) (K c 232 [x6646] H fun t6678 h6679=>
 ex 0 t6678 fun t6680=>
 ex 1 t6678 fun t6681=>
 oR [t6680] h6679)) fun vs6709 h6710=>U1 vs6709 fun a6711=>oN [a6711] h6710) (ln 22 x6646 fun t6672=>
 jn (nB 1 (ql 57 [(i 1073741824),x6646,t6672,(i 0)] H)) fun vs6673 h6674=>U1 vs6673 fun a6675=>oR [a6675] h6674)) fun vs6712 h6713=>U1 vs6712 fun a6714=>oN [a6714] h6713) (K c 230 [x6646,(.fn 231 [] [])] H fun t6668 h6669=>
 oR [t6668] h6669)) fun vs6715 h6716=>U1 vs6715 fun a6717=>oN [a6717] h6716) (K c 229 [x6646] H fun t6664 h6665=>
 oR [t6664] h6665)) fun vs6718 h6719=>U1 vs6718 fun a6720=>oN [a6720] h6719) (K c 229 [x6646] H fun t6657 h6658=>
 bn .gtr 3 t6657 (i 0) fun t6659=>
 K c 221 [t6659] h6658 fun t6660 h6661=>
 oR [t6660] h6661)) fun vs6721 h6722=>U1 vs6721 fun a6723=>oN [a6723] h6722) (K c 229 [x6646] H fun t6649 h6650=>
 ln 22 x6646 fun t6651=>
 bn .eql 3 t6649 t6651 fun t6652=>
 K c 221 [t6652] h6650 fun t6653 h6654=>
 oR [t6653] h6654)) fun vs6724 h6725=>U1 vs6724 fun a6726=>oN [a6726] h6725)) fun vs6727 h6728=>U1 vs6727 fun a6729=>ln 22 a6729 fun t6730=>
 bn .eql 3 t6730 (i 0) fun t6731=>
 ob (GV.asB t6731) fun q6732=>jn (bC q6732 (oN [a6729] h6728) (oR [(i 0)] h6728)) fun vs6733 h6734=>U1 vs6733 fun a6735=>ix 22 a6735 (i 0) fun t6736=>
 ld 3 t6736 h6734 fun t6737=>
 oR [t6737] h6734
def L57 (c:CH) (ql:QH) (us:List GV) (H:GH):RS:=U4 us fun a6738 a6739 a6740 a6741=>jn (bn .lss 3 a6741 a6740 fun t6742=>
 ob (GV.asB t6742) fun q6743=>jn (bC q6743 (oX 1 [a6738] H) (oN [a6738,a6739,a6740,a6741] H)) fun vs6744 h6745=>U4 vs6744 fun a6746 a6747 a6748 a6749=>jn (nB 2 (ix 22 a6747 a6749 fun t6750=>
 ld 3 t6750 h6745 fun t6751=>
 ob (vMin a6746 t6751) fun t6752=>
 oN [t6752,a6747,a6748,a6749] h6745)) fun vs6753 h6754=>U4 vs6753 fun a6755 a6756 a6757 a6758=>bn .add 3 a6758 (i 1) fun t6759=>
 oN [a6755,a6756,a6757,t6759] h6754) (ql 57)
def L58 (c:CH) (ql:QH) (us:List GV) (H:GH):RS:=U4 us fun a6760 a6761 a6762 a6763=>jn (bn .lss 3 a6763 a6762 fun t6764=>
 ob (GV.asB t6764) fun q6765=>jn (bC q6765 (oX 3 [a6760] H) (oN [a6760,a6761,a6762,a6763] H)) fun vs6766 h6767=>U4 vs6766 fun a6768 a6769 a6770 a6771=>jn (nB 4 (ix 22 a6769 a6771 fun t6772=>
 ld 3 t6772 h6767 fun t6773=>
 bn .add 3 a6768 t6773 fun t6774=>
 oN [t6774,a6769,a6770,a6771] h6767)) fun vs6775 h6776=>U4 vs6775 fun a6777 a6778 a6779 a6780=>bn .add 3 a6780 (i 1) fun t6781=>
 oN [a6777,a6778,a6779,t6781] h6776) (ql 58)
def B223 (c:CH) (ql:QH) (us:List GV) (H:GH):RS:=U1 us fun x6782=>
 ob (vMin x6782 (i 1073741824)) fun t6783=>
 ob (vMax (.int .i64 (.negSucc 1073741823)) t6783) fun t6784=>
 oR [t6784] H
def B224 (c:CH) (ql:QH) (us:List GV) (H:GH):RS:=U2 us fun x6785 x6786=>
 bn .eql 3 x6786 (i 0) fun t6787=>
 ob (GV.asB t6787) fun q6788=>jn (bC q6788 (oN [x6785,x6786] H) (oR [(i 0)] H)) fun vs6789 h6790=>U2 vs6789 fun a6791 a6792=>bn .quo 3 a6791 a6792 fun t6793=>
 bn .rem 3 a6791 a6792 fun t6794=>
 bn .neq 3 t6794 (i 0) fun t6795=>
 kOR (rG t6795 true h6790 (some (a6791,h6790))) fun t6796 h6797=>
 kOR (rG t6795 true h6797 (ob (vBin y .lss 3 t6796 (i 0)) fun g6798=>some (g6798,h6797))) fun t6799 h6800=>
 kOR (rG t6795 true h6800 (some (a6792,h6800))) fun t6801 h6802=>
 kOR (rG t6795 true h6802 (ob (vBin y .lss 3 t6801 (i 0)) fun g6803=>some (g6803,h6802))) fun t6804 h6805=>
 kOR (rG t6795 true h6805 (ob (vBin y .neq 4 t6799 t6804) fun g6806=>some (g6806,h6805))) fun t6807 h6808=>
 ob (vPick t6795 t6807 (.bool false)) fun t6809=>
 ob (GV.asB t6809) fun q6810=>jn (bC q6810 (oN [t6793] h6808) (bn .sub 3 t6793 (i 1) fun t6811=>
 oN [t6811] h6808)) fun vs6812 h6813=>U1 vs6812 fun a6814=>oR [a6814] h6813
def B225 (c:CH) (ql:QH) (us:List GV) (H:GH):RS:=U3 us fun x6815 x6816 x6817=>
 jn (nB 0 (bn .eql 3 x6815 (i 35) fun t6818=>
 ob (GV.asB t6818) fun q6819=>jn (bC q6819 (bn .eql 3 x6815 (i 36) fun t6821=>
 ob (GV.asB t6821) fun q6822=>jn (bC q6822 (bn .eql 3 x6815 (i 37) fun t6824=>
 ob (GV.asB t6824) fun q6825=>jn (bC q6825 (bn .eql 3 x6815 (i 38) fun t6827=>
 ob (GV.asB t6827) fun q6828=>jn (bC q6828 (bn .eql 3 x6815 (i 39) fun t6830=>
 ob (GV.asB t6830) fun q6831=>jn (bC q6831 (oN [x6816,x6817] H) (bn .gtr 3 x6816 x6817 fun t6832=>
 oR [t6832] H)) fun vs6833 h6834=>U2 vs6833 fun a6835 a6836=>oN [a6835,a6836] h6834) (bn .leq 3 x6816 x6817 fun t6829=>
 oR [t6829] H)) fun vs6837 h6838=>U2 vs6837 fun a6839 a6840=>oN [a6839,a6840] h6838) (bn .lss 3 x6816 x6817 fun t6826=>
 oR [t6826] H)) fun vs6841 h6842=>U2 vs6841 fun a6843 a6844=>oN [a6843,a6844] h6842) (bn .neq 3 x6816 x6817 fun t6823=>
 oR [t6823] H)) fun vs6845 h6846=>U2 vs6845 fun a6847 a6848=>oN [a6847,a6848] h6846) (bn .eql 3 x6816 x6817 fun t6820=>
 oR [t6820] H)) fun vs6849 h6850=>U2 vs6849 fun a6851 a6852=>oN [a6851,a6852] h6850)) fun vs6853 h6854=>U2 vs6853 fun a6855 a6856=>bn .geq 3 a6855 a6856 fun t6857=>
 oR [t6857] h6854
def B226 (c:CH) (ql:QH) (us:List GV) (H:GH):RS:=U1 us fun x6858=>
 K c 234 [] H fun t6859 h6860=>
 K c 210 [x6858,(i 13),t6859] h6860 fun t6861 h6862=>
 oR [t6861] h6862
def B227 (c:CH) (ql:QH) (us:List GV) (H:GH):RS:=U0 us (kOR (vBuildS y 113 9 [(0,(.str 1702195828 4)),(1,(.str 435728179558 5)),(2,(.str 1701736302 4)),(3,(.str 0 0)),(4,(.str 110 1)),(5,(.str 7562345 3)),(6,(.str 25705 2)),(7,(.str 6776164 3)),(8,(.str 1953460082 4))] H) fun t6863 h6864=>
 oR [t6863] h6864)
def B228 (c:CH) (ql:QH) (us:List GV) (H:GH):RS:=U0 us (kOR (vBuildS y 113 10 [(0,(.str 7105633 3)),(1,(.str 1701670771 4)),(2,(.str 500069396323 5)),(3,(.str 500153084262 5)),(4,(.str 7235949 3)),(5,(.str 7889261 3)),(6,(.str 7173491 3)),(7,(.str 7890285 3)),(8,(.str 110425477965171 6)),(9,(.str 1684104552 4))] H) fun t6865 h6866=>
 oR [t6865] h6866)
def B229 (c:CH) (ql:QH) (us:List GV) (H:GH):RS:=U1 us fun x6867=>
 ln 22 x6867 fun t6868=>
 jn (nB 0 (ql 59 [(i 0),x6867,t6868,(i 0)] H)) fun vs6869 h6870=>U1 vs6869 fun a6871=>oR [a6871] h6870
def L59 (c:CH) (ql:QH) (us:List GV) (H:GH):RS:=U4 us fun a6872 a6873 a6874 a6875=>jn (bn .lss 3 a6875 a6874 fun t6876=>
 ob (GV.asB t6876) fun q6877=>jn (bC q6877 (oX 0 [a6872] H) (oN [a6872,a6873,a6874,a6875] H)) fun vs6878 h6879=>U4 vs6878 fun a6880 a6881 a6882 a6883=>jn (nB 1 (ix 22 a6881 a6883 fun t6884=>
 ld 3 t6884 h6879 fun t6885=>
 bn .neq 3 t6885 (i 0) fun t6886=>
 ob (GV.asB t6886) fun q6887=>jn (bC q6887 (oN [a6880,a6881,a6882,a6883] h6879) (bn .add 3 a6880 (i 1) fun t6888=>
 oN [t6888,a6881,a6882,a6883] h6879)) fun vs6889 h6890=>U4 vs6889 fun a6891 a6892 a6893 a6894=>oN [a6891,a6892,a6893,a6894] h6890)) fun vs6895 h6896=>U4 vs6895 fun a6897 a6898 a6899 a6900=>bn .add 3 a6900 (i 1) fun t6901=>
 oN [a6897,a6898,a6899,t6901] h6896) (ql 59)
def B230 (c:CH) (ql:QH) (us:List GV) (H:GH):RS:=U2 us fun x6902 x6903=>
 ln 22 x6902 fun t6904=>
 jn (nB 0 (ql 60 [x6902,x6903,t6904,(i 0)] H)) fun vs6905 h6906=>U0 vs6905 (oR [(.int .i64 (.negSucc 0))] h6906)
def L60 (c:CH) (ql:QH) (us:List GV) (H:GH):RS:=U4 us fun a6907 a6908 a6909 a6910=>jn (bn .lss 3 a6910 a6909 fun t6911=>
 ob (GV.asB t6911) fun q6912=>jn (bC q6912 (oX 0 [] H) (oN [a6907,a6908,a6909,a6910] H)) fun vs6913 h6914=>U4 vs6913 fun a6915 a6916 a6917 a6918=>jn (nB 1 (ix 22 a6915 a6918 fun t6919=>
 ld 3 t6919 h6914 fun t6920=>
 ob (GV.asF a6916) fun p6923=>kOR (c p6923.1 (p6923.2.1++[t6920]++p6923.2.2) h6914) fun t6921 h6922=>
 ob (GV.asB t6921) fun q6924=>jn (bC q6924 (oN [a6915,a6916,a6917,a6918] h6922) (oR [a6918] h6922)) fun vs6925 h6926=>U4 vs6925 fun a6927 a6928 a6929 a6930=>oN [a6927,a6928,a6929,a6930] h6926)) fun vs6931 h6932=>U4 vs6931 fun a6933 a6934 a6935 a6936=>bn .add 3 a6936 (i 1) fun t6937=>
 oN [a6933,a6934,a6935,t6937] h6932) (ql 60)
def B231 (c:CH) (ql:QH) (us:List GV) (H:GH):RS:=U1 us fun x6938=>
 bn .neq 3 x6938 (i 0) fun t6939=>
 oR [t6939] H
def B232 (c:CH) (ql:QH) (us:List GV) (H:GH):RS:=U1 us fun x6940=>
 ln 22 x6940 fun t6941=>
 jn (nB 0 (ql 61 [(.int .i64 (.negSucc 1073741823)),(.int .i64 (.negSucc 1073741823)),x6940,t6941,(i 0)] H)) fun vs6942 h6943=>U2 vs6942 fun a6944 a6945=>oR [a6944,a6945] h6943
def L61 (c:CH) (ql:QH) (us:List GV) (H:GH):RS:=U5 us fun a6946 a6947 a6948 a6949 a6950=>jn (bn .lss 3 a6950 a6949 fun t6951=>
 ob (GV.asB t6951) fun q6952=>jn (bC q6952 (oX 0 [a6946,a6947] H) (oN [a6946,a6947,a6948,a6949,a6950] H)) fun vs6953 h6954=>U5 vs6953 fun a6955 a6956 a6957 a6958 a6959=>jn (nB 1 (ix 22 a6957 a6959 fun t6960=>
 ld 3 t6960 h6954 fun t6961=>
 bn .gtr 3 t6961 a6955 fun t6962=>
 ob (GV.asB t6962) fun q6963=>jn (bC q6963 (ob (vMax a6956 t6961) fun t6964=>
 oN [a6955,t6964,a6957,a6958,a6959] h6954) (oN [t6961,a6955,a6957,a6958,a6959] h6954)) fun vs6965 h6966=>U5 vs6965 fun a6967 a6968 a6969 a6970 a6971=>oN [a6967,a6968,a6969,a6970,a6971] h6966)) fun vs6972 h6973=>U5 vs6972 fun a6974 a6975 a6976 a6977 a6978=>bn .add 3 a6978 (i 1) fun t6979=>
 oN [a6974,a6975,a6976,a6977,t6979] h6973) (ql 61)
def B233 (c:CH) (ql:QH) (us:List GV) (H:GH):RS:=U1 us fun x6980=>
 jn (nB 0 (ql 62 [x6980,(i 0)] H)) fun vs6981 h6982=>U1 vs6981 fun a6983=>oR [a6983] h6982
def L62 (c:CH) (ql:QH) (us:List GV) (H:GH):RS:=U2 us fun a6984 a6985=>jn (K c 235 [a6984,a6985] H fun t6986 h6987=>
 ob (GV.asB t6986) fun q6988=>jn (bC q6988 (oX 0 [a6985] h6987) (oN [a6984,a6985] h6987)) fun vs6989 h6990=>U2 vs6989 fun a6991 a6992=>jn (nB 1 (bn .add 3 a6992 (i 1) fun t6993=>
 oN [a6991,t6993] h6990)) fun vs6994 h6995=>U2 vs6994 fun a6996 a6997=>oN [a6996,a6997] h6995) (ql 62)
def B234 (c:CH) (ql:QH) (us:List GV) (H:GH):RS:=U0 us (kOR (vBuildS y 113 5 [(0,(.str 25705 2)),(1,(.str 6776164 3)),(2,(.str 1953460082 4)),(3,(.str 127991760381303 6)),(4,(.str 1801675106 4))] H) fun t6998 h6999=>
 oR [t6998] h6999)
def B235 (c:CH) (ql:QH) (us:List GV) (H:GH):RS:=U2 us fun x7000 x7001=>
 K c 236 [x7000,x7001] H fun t7002 h7003=>
 bn .geq 3 t7002 (i 0) fun t7004=>
 oR [t7004] h7003
def B236 (c:CH) (ql:QH) (us:List GV) (H:GH):RS:=U2 us fun x7005 x7006=>
 ln 22 x7005 fun t7007=>
 jn (nB 0 (ql 63 [x7005,x7006,t7007,(i 0)] H)) fun vs7008 h7009=>U0 vs7008 (oR [(.int .i64 (.negSucc 0))] h7009)
def L63 (c:CH) (ql:QH) (us:List GV) (H:GH):RS:=U4 us fun a7010 a7011 a7012 a7013=>jn (bn .lss 3 a7013 a7012 fun t7014=>
 ob (GV.asB t7014) fun q7015=>jn (bC q7015 (oX 0 [] H) (oN [a7010,a7011,a7012,a7013] H)) fun vs7016 h7017=>U4 vs7016 fun a7018 a7019 a7020 a7021=>jn (nB 1 (ix 22 a7018 a7021 fun t7022=>
 ld 3 t7022 h7017 fun t7023=>
 bn .eql 3 a7019 t7023 fun t7024=>
 ob (GV.asB t7024) fun q7025=>jn (bC q7025 (oN [a7018,a7019,a7020,a7021] h7017) (oR [a7021] h7017)) fun vs7026 h7027=>U4 vs7026 fun a7028 a7029 a7030 a7031=>oN [a7028,a7029,a7030,a7031] h7027)) fun vs7032 h7033=>U4 vs7032 fun a7034 a7035 a7036 a7037=>bn .add 3 a7037 (i 1) fun t7038=>
 oN [a7034,a7035,a7036,t7038] h7033) (ql 63)
def d0:(Code×Cx)×Body:=((codeOf Tryz.f7 [1,1,1,0,1,0,0],cxOf Tryz.f7 [(0,128)]),L0)
def d1:(Code×Cx)×Body:=((codeOf Tryz.f33 [1,1,0,1,0,0],cxOf Tryz.f33 [(0,38)]),L1)
def d2:(Code×Cx)×Body:=((codeOf Tryz.f33 [1,1,1,0,1,0,0],cxOf Tryz.f33 [(2,32)]),L2)
def d3:(Code×Cx)×Body:=((codeOf Tryz.f33 [1,1,1,0,1,0,0,1,1,0,0,1,1,1,0,0],cxOf Tryz.f33 [(4,100663334),(3,100663334),(2,32)]),L3)
def d4:(Code×Cx)×Body:=((codeOf Tryz.f66 [1,1,0,1,0,0],cxOf Tryz.f66 [(0,12)]),L4)
def d5:(Code×Cx)×Body:=((codeOf Tryz.f66 [1,1,0,1,0,0,1,1,0,0,1,1,1,0,0],cxOf Tryz.f66 [(2,3612),(1,3612),(0,12)]),L5)
def d6:(Code×Cx)×Body:=((codeOf Tryz.f79 [1,1,0,1,0,0],cxOf Tryz.f79 [(0,38)]),L6)
def d7:(Code×Cx)×Body:=((codeOf Tryz.f79 [1,1,1,1,1,0,0,0],cxOf Tryz.f79 [(2,32)]),L7)
def d8:(Code×Cx)×Body:=((codeOf Tryz.f79 [1,1,1,1,1,0,0,0,1,0,1,1,1,0,0],cxOf Tryz.f79 [(4,164),(3,164),(2,32)]),L8)
def d9:(Code×Cx)×Body:=((codeOf Tryz.f94 [1,1,1,0,1,0,0],cxOf Tryz.f94 [(0,32)]),L9)
def d10:(Code×Cx)×Body:=((codeOf Tryz.f97 [1,1,1,0,1,0,0],cxOf Tryz.f97 [(0,2)]),L10)
def d11:(Code×Cx)×Body:=((codeOf Tryz.f97 [1,1,1,1,0,1,0,0],cxOf Tryz.f97 [(2,2)]),L11)
def d12:(Code×Cx)×Body:=((codeOf Tryz.f97 [1,1,1,1,1,1,0,1,0,0],cxOf Tryz.f97 [(4,0)]),L12)
def d13:(Code×Cx)×Body:=((codeOf Tryz.f101 [1,1,0,1,0,0],cxOf Tryz.f101 [(0,8)]),L13)
def d14:(Code×Cx)×Body:=((codeOf Tryz.f101 [1,1,0,1,0,0,1,1,0,0,1,1,0,0],cxOf Tryz.f101 [(2,57352),(1,57352),(0,8)]),L14)
def d15:(Code×Cx)×Body:=((codeOf Tryz.f103 [1,1,1,1,1,1,1,0,1,0,0],cxOf Tryz.f103 [(0,5378)]),L15)
def d16:(Code×Cx)×Body:=((codeOf Tryz.f112 [1,0,0,0],cxOf Tryz.f112 [(0,2)]),L16)
def d17:(Code×Cx)×Body:=((codeOf Tryz.f112 [1,0,0,0,1,0,1,0,1,1,1,0,0,0],cxOf Tryz.f112 [(3,3),(2,3),(1,3),(0,2)]),L17)
def d18:(Code×Cx)×Body:=((codeOf Tryz.f117 [1,1,1,0,1,0,0],cxOf Tryz.f117 [(0,33)]),L18)
def d19:(Code×Cx)×Body:=((codeOf Tryz.f118 [1,0,0],cxOf Tryz.f118 [(0,0)]),L19)
def d20:(Code×Cx)×Body:=((codeOf Tryz.f120 [1,1,1,1,1,0,0,0],cxOf Tryz.f120 [(0,5)]),L20)
def d21:(Code×Cx)×Body:=((codeOf Tryz.f123 [1,1,1,0,1,0,0],cxOf Tryz.f123 [(0,2)]),L21)
def d22:(Code×Cx)×Body:=((codeOf Tryz.f123 [1,1,1,1,1,0,1,0,0],cxOf Tryz.f123 [(2,0)]),L22)
def d23:(Code×Cx)×Body:=((codeOf Tryz.f125 [1,1,1,0,1,0,0],cxOf Tryz.f125 [(0,0)]),L23)
def d24:(Code×Cx)×Body:=((codeOf Tryz.f126 [1,1,0,1,0,0],cxOf Tryz.f126 [(0,8)]),L24)
def d25:(Code×Cx)×Body:=((codeOf Tryz.f127 [1,1,0,1,0,0],cxOf Tryz.f127 [(0,0)]),L25)
def d26:(Code×Cx)×Body:=((codeOf Tryz.f128 [1,1,1,0,1,0,0],cxOf Tryz.f128 [(0,0)]),L26)
def d27:(Code×Cx)×Body:=((codeOf Tryz.f129 [1,1,0,1,0,0],cxOf Tryz.f129 [(0,0)]),L27)
def d28:(Code×Cx)×Body:=((codeOf Tryz.f130 [1,1,0,1,0,0],cxOf Tryz.f130 [(0,32)]),L28)
def d29:(Code×Cx)×Body:=((codeOf Tryz.f130 [1,1,0,1,0,0,1,1,0,0,1,1,1,0,0],cxOf Tryz.f130 [(2,49196),(1,49196),(0,32)]),L29)
def d30:(Code×Cx)×Body:=((codeOf Tryz.f131 [1,1,0,1,0,0],cxOf Tryz.f131 [(0,32)]),L30)
def d31:(Code×Cx)×Body:=((codeOf Tryz.f131 [1,1,0,1,0,0,1,1,0,0,1,1,1,0,0],cxOf Tryz.f131 [(2,3670056),(1,3670056),(0,32)]),L31)
def d32:(Code×Cx)×Body:=((codeOf Tryz.f132 [1,1,0,1,0,0],cxOf Tryz.f132 [(0,8)]),L32)
def d33:(Code×Cx)×Body:=((codeOf Tryz.f136 [1,1,0,1,0,0],cxOf Tryz.f136 [(0,128)]),L33)
def d34:(Code×Cx)×Body:=((codeOf Tryz.f140 [1,1,0,0,0],cxOf Tryz.f140 [(0,32)]),L34)
def d35:(Code×Cx)×Body:=((codeOf Tryz.f144 [1,1,1,0,1,0,0],cxOf Tryz.f144 [(0,16)]),L35)
def d36:(Code×Cx)×Body:=((codeOf Tryz.f145 [1,0,1,0,0],cxOf Tryz.f145 [(0,1)]),L36)
def d37:(Code×Cx)×Body:=((codeOf Tryz.f149 [1,1,0,1,0,0],cxOf Tryz.f149 [(0,1)]),L37)
def d38:(Code×Cx)×Body:=((codeOf Tryz.f157 [1,1,0,1,0,0],cxOf Tryz.f157 [(0,1)]),L38)
def d39:(Code×Cx)×Body:=((codeOf Tryz.f158 [1,1,0,1,0,0],cxOf Tryz.f158 [(0,7)]),L39)
def d40:(Code×Cx)×Body:=((codeOf Tryz.f160 [1,1,0,1,0,0],cxOf Tryz.f160 [(0,0)]),L40)
def d41:(Code×Cx)×Body:=((codeOf Tryz.f161 [1,1,0,1,0,0],cxOf Tryz.f161 [(0,0)]),L41)
def d42:(Code×Cx)×Body:=((codeOf Tryz.f162 [1,0,1,0,0],cxOf Tryz.f162 [(0,0)]),L42)
def d43:(Code×Cx)×Body:=((codeOf Tryz.f163 [1,1,0,1,0,0],cxOf Tryz.f163 [(0,32)]),L43)
def d44:(Code×Cx)×Body:=((codeOf Tryz.f165 [1,0,1,0,0],cxOf Tryz.f165 [(0,0)]),L44)
def d45:(Code×Cx)×Body:=((codeOf Tryz.f167 [1,1,0,1,0,0],cxOf Tryz.f167 [(0,512)]),L45)
def d46:(Code×Cx)×Body:=((codeOf Tryz.f169 [1,0,1,0,0],cxOf Tryz.f169 [(0,0)]),L46)
def d47:(Code×Cx)×Body:=((codeOf Tryz.f177 [1,1,1,0,0],cxOf Tryz.f177 [(0,16)]),L47)
def d48:(Code×Cx)×Body:=((codeOf Tryz.f178 [1,1,0,1,0,0],cxOf Tryz.f178 [(0,32)]),L48)
def d49:(Code×Cx)×Body:=((codeOf Tryz.f179 [1,0,1,0,0],cxOf Tryz.f179 [(0,0)]),L49)
def d50:(Code×Cx)×Body:=((codeOf Tryz.f180 [1,1,0,1,0,0],cxOf Tryz.f180 [(0,0)]),L50)
def d51:(Code×Cx)×Body:=((codeOf Tryz.f184 [1,1,1,1,1,1,0,1,0,0],cxOf Tryz.f184 [(0,1408)]),L51)
def d52:(Code×Cx)×Body:=((codeOf Tryz.f186 [1,1,1,0,1,0,0],cxOf Tryz.f186 [(0,8)]),L52)
def d53:(Code×Cx)×Body:=((codeOf Tryz.f200 [1,1,1,0,1,0,0],cxOf Tryz.f200 [(0,64)]),L53)
def d54:(Code×Cx)×Body:=((codeOf Tryz.f200 [1,1,1,0,1,0,0,1,0,0,1,1,0,1,0,0],cxOf Tryz.f200 [(2,963),(1,195),(0,64)]),L54)
def d55:(Code×Cx)×Body:=((codeOf Tryz.f210 [1,1,0,1,0,0],cxOf Tryz.f210 [(0,0)]),L55)
def d56:(Code×Cx)×Body:=((codeOf Tryz.f215 [1,1,1,0,1,0,0],cxOf Tryz.f215 [(0,903)]),L56)
def d57:(Code×Cx)×Body:=((codeOf Tryz.f222 [1,0,1,0,1,1,1,1,1,1,1,1,1,0,1,0,1,0,0],cxOf Tryz.f222 [(1,32),(0,2)]),L57)
def d58:(Code×Cx)×Body:=((codeOf Tryz.f222 [1,0,1,0,1,1,1,1,1,1,1,1,1,1,1,1,1,0,1,0,1,0,0],cxOf Tryz.f222 [(3,1024),(0,2)]),L58)
def d59:(Code×Cx)×Body:=((codeOf Tryz.f229 [1,1,0,1,0,0],cxOf Tryz.f229 [(0,8)]),L59)
def d60:(Code×Cx)×Body:=((codeOf Tryz.f230 [1,0,1,0,0],cxOf Tryz.f230 [(0,0)]),L60)
def d61:(Code×Cx)×Body:=((codeOf Tryz.f232 [1,1,0,1,0,0],cxOf Tryz.f232 [(0,12)]),L61)
def d62:(Code×Cx)×Body:=((codeOf Tryz.f233 [1,1,0,0,0],cxOf Tryz.f233 [(0,8)]),L62)
def d63:(Code×Cx)×Body:=((codeOf Tryz.f236 [1,0,1,0,0],cxOf Tryz.f236 [(0,0)]),L63)
def rtabF (f:Nat):Option (Func×Body):=(tN f 162 (tN f 124 (tN f 97 (tN f 67 (tN f 31 (tN f 29 (tN f 7 (tL f 6 (Tryz.f6,B6)) (tL f 7 (Tryz.f7,B7))) (tN f 30 (tL f 29 (Tryz.f29,B29)) (tL f 30 (Tryz.f30,B30)))) (tN f 37 (tN f 33 (tL f 31 (Tryz.f31,B31)) (tL f 33 (Tryz.f33,B33))) (tN f 66 (tL f 37 (Tryz.f37,B37)) (tL f 66 (Tryz.f66,B66))))) (tN f 77 (tN f 75 (tN f 70 (tL f 67 (Tryz.f67,B67)) (tL f 70 (Tryz.f70,B70))) (tN f 76 (tL f 75 (Tryz.f75,B75)) (tL f 76 (Tryz.f76,B76)))) (tN f 79 (tN f 78 (tL f 77 (Tryz.f77,B77)) (tL f 78 (Tryz.f78,B78))) (tN f 94 (tL f 79 (Tryz.f79,B79)) (tN f 96 (tL f 94 (Tryz.f94,B94)) (tL f 96 (Tryz.f96,B96))))))) (tN f 113 (tN f 101 (tN f 99 (tN f 98 (tL f 97 (Tryz.f97,B97)) (tL f 98 (Tryz.f98,B98))) (tN f 100 (tL f 99 (Tryz.f99,B99)) (tL f 100 (Tryz.f100,B100)))) (tN f 103 (tN f 102 (tL f 101 (Tryz.f101,B101)) (tL f 102 (Tryz.f102,B102))) (tN f 104 (tL f 103 (Tryz.f103,B103)) (tN f 112 (tL f 104 (Tryz.f104,B104)) (tL f 112 (Tryz.f112,B112)))))) (tN f 119 (tN f 117 (tN f 116 (tL f 113 (Tryz.f113,B113)) (tL f 116 (Tryz.f116,B116))) (tN f 118 (tL f 117 (Tryz.f117,B117)) (tL f 118 (Tryz.f118,B118)))) (tN f 121 (tN f 120 (tL f 119 (Tryz.f119,B119)) (tL f 120 (Tryz.f120,B120))) (tN f 122 (tL f 121 (Tryz.f121,B121)) (tN f 123 (tL f 122 (Tryz.f122,B122)) (tL f 123 (Tryz.f123,B123)))))))) (tN f 144 (tN f 132 (tN f 128 (tN f 126 (tN f 125 (tL f 124 (Tryz.f124,B124)) (tL f 125 (Tryz.f125,B125))) (tN f 127 (tL f 126 (Tryz.f126,B126)) (tL f 127 (Tryz.f127,B127)))) (tN f 130 (tN f 129 (tL f 128 (Tryz.f128,B128)) (tL f 129 (Tryz.f129,B129))) (tN f 131 (tL f 130 (Tryz.f130,B130)) (tL f 131 (Tryz.f131,B131))))) (tN f 137 (tN f 134 (tN f 133 (tL f 132 (Tryz.f132,B132)) (tL f 133 (Tryz.f133,B133))) (tN f 136 (tL f 134 (Tryz.f134,B134)) (tL f 136 (Tryz.f136,B136)))) (tN f 141 (tN f 140 (tL f 137 (Tryz.f137,B137)) (tL f 140 (Tryz.f140,B140))) (tN f 142 (tL f 141 (Tryz.f141,B141)) (tN f 143 (tL f 142 (Tryz.f142,B142)) (tL f 143 (Tryz.f143,B143))))))) (tN f 153 (tN f 148 (tN f 146 (tN f 145 (tL f 144 (Tryz.f144,B144)) (tL f 145 (Tryz.f145,B145))) (tN f 147 (tL f 146 (Tryz.f146,B146)) (tL f 147 (Tryz.f147,B147)))) (tN f 150 (tN f 149 (tL f 148 (Tryz.f148,B148)) (tL f 149 (Tryz.f149,B149))) (tN f 151 (tL f 150 (Tryz.f150,B150)) (tN f 152 (tL f 151 (Tryz.f151,B151)) (tL f 152 (Tryz.f152,B152)))))) (tN f 157 (tN f 155 (tN f 154 (tL f 153 (Tryz.f153,B153)) (tL f 154 (Tryz.f154,B154))) (tN f 156 (tL f 155 (Tryz.f155,B155)) (tL f 156 (Tryz.f156,B156)))) (tN f 159 (tN f 158 (tL f 157 (Tryz.f157,B157)) (tL f 158 (Tryz.f158,B158))) (tN f 160 (tL f 159 (Tryz.f159,B159)) (tN f 161 (tL f 160 (Tryz.f160,B160)) (tL f 161 (Tryz.f161,B161))))))))) (tN f 200 (tN f 182 (tN f 173 (tN f 167 (tN f 164 (tN f 163 (tL f 162 (Tryz.f162,B162)) (tL f 163 (Tryz.f163,B163))) (tN f 165 (tL f 164 (Tryz.f164,B164)) (tL f 165 (Tryz.f165,B165)))) (tN f 169 (tN f 168 (tL f 167 (Tryz.f167,B167)) (tL f 168 (Tryz.f168,B168))) (tN f 170 (tL f 169 (Tryz.f169,B169)) (tL f 170 (Tryz.f170,B170))))) (tN f 177 (tN f 175 (tN f 174 (tL f 173 (Tryz.f173,B173)) (tL f 174 (Tryz.f174,B174))) (tN f 176 (tL f 175 (Tryz.f175,B175)) (tL f 176 (Tryz.f176,B176)))) (tN f 179 (tN f 178 (tL f 177 (Tryz.f177,B177)) (tL f 178 (Tryz.f178,B178))) (tN f 180 (tL f 179 (Tryz.f179,B179)) (tN f 181 (tL f 180 (Tryz.f180,B180)) (tL f 181 (Tryz.f181,B181))))))) (tN f 191 (tN f 186 (tN f 184 (tN f 183 (tL f 182 (Tryz.f182,B182)) (tL f 183 (Tryz.f183,B183))) (tN f 185 (tL f 184 (Tryz.f184,B184)) (tL f 185 (Tryz.f185,B185)))) (tN f 188 (tN f 187 (tL f 186 (Tryz.f186,B186)) (tL f 187 (Tryz.f187,B187))) (tN f 189 (tL f 188 (Tryz.f188,B188)) (tN f 190 (tL f 189 (Tryz.f189,B189)) (tL f 190 (Tryz.f190,B190)))))) (tN f 195 (tN f 193 (tN f 192 (tL f 191 (Tryz.f191,B191)) (tL f 192 (Tryz.f192,B192))) (tN f 194 (tL f 193 (Tryz.f193,B193)) (tL f 194 (Tryz.f194,B194)))) (tN f 197 (tN f 196 (tL f 195 (Tryz.f195,B195)) (tL f 196 (Tryz.f196,B196))) (tN f 198 (tL f 197 (Tryz.f197,B197)) (tN f 199 (tL f 198 (Tryz.f198,B198)) (tL f 199 (Tryz.f199,B199)))))))) (tN f 219 (tN f 210 (tN f 204 (tN f 202 (tN f 201 (tL f 200 (Tryz.f200,B200)) (tL f 201 (Tryz.f201,B201))) (tN f 203 (tL f 202 (Tryz.f202,B202)) (tL f 203 (Tryz.f203,B203)))) (tN f 206 (tN f 205 (tL f 204 (Tryz.f204,B204)) (tL f 205 (Tryz.f205,B205))) (tN f 207 (tL f 206 (Tryz.f206,B206)) (tN f 209 (tL f 207 (Tryz.f207,B207)) (tL f 209 (Tryz.f209,B209)))))) (tN f 214 (tN f 212 (tN f 211 (tL f 210 (Tryz.f210,B210)) (tL f 211 (Tryz.f211,B211))) (tN f 213 (tL f 212 (Tryz.f212,B212)) (tL f 213 (Tryz.f213,B213)))) (tN f 216 (tN f 215 (tL f 214 (Tryz.f214,B214)) (tL f 215 (Tryz.f215,B215))) (tN f 217 (tL f 216 (Tryz.f216,B216)) (tN f 218 (tL f 217 (Tryz.f217,B217)) (tL f 218 (Tryz.f218,B218))))))) (tN f 228 (tN f 223 (tN f 221 (tN f 220 (tL f 219 (Tryz.f219,B219)) (tL f 220 (Tryz.f220,B220))) (tN f 222 (tL f 221 (Tryz.f221,B221)) (tL f 222 (Tryz.f222,B222)))) (tN f 225 (tN f 224 (tL f 223 (Tryz.f223,B223)) (tL f 224 (Tryz.f224,B224))) (tN f 226 (tL f 225 (Tryz.f225,B225)) (tN f 227 (tL f 226 (Tryz.f226,B226)) (tL f 227 (Tryz.f227,B227)))))) (tN f 232 (tN f 230 (tN f 229 (tL f 228 (Tryz.f228,B228)) (tL f 229 (Tryz.f229,B229))) (tN f 231 (tL f 230 (Tryz.f230,B230)) (tL f 231 (Tryz.f231,B231)))) (tN f 234 (tN f 233 (tL f 232 (Tryz.f232,B232)) (tL f 233 (Tryz.f233,B233))) (tN f 235 (tL f 234 (Tryz.f234,B234)) (tN f 236 (tL f 235 (Tryz.f235,B235)) (tL f 236 (Tryz.f236,B236))))))))))
def rtabL (f:Nat):Option ((Code×Cx)×Body):=(tN f 32 (tN f 16 (tN f 8 (tN f 4 (tN f 2 (tN f 1 (tL f 0 d0) (tL f 1 d1)) (tN f 3 (tL f 2 d2) (tL f 3 d3))) (tN f 6 (tN f 5 (tL f 4 d4) (tL f 5 d5)) (tN f 7 (tL f 6 d6) (tL f 7 d7)))) (tN f 12 (tN f 10 (tN f 9 (tL f 8 d8) (tL f 9 d9)) (tN f 11 (tL f 10 d10) (tL f 11 d11))) (tN f 14 (tN f 13 (tL f 12 d12) (tL f 13 d13)) (tN f 15 (tL f 14 d14) (tL f 15 d15))))) (tN f 24 (tN f 20 (tN f 18 (tN f 17 (tL f 16 d16) (tL f 17 d17)) (tN f 19 (tL f 18 d18) (tL f 19 d19))) (tN f 22 (tN f 21 (tL f 20 d20) (tL f 21 d21)) (tN f 23 (tL f 22 d22) (tL f 23 d23)))) (tN f 28 (tN f 26 (tN f 25 (tL f 24 d24) (tL f 25 d25)) (tN f 27 (tL f 26 d26) (tL f 27 d27))) (tN f 30 (tN f 29 (tL f 28 d28) (tL f 29 d29)) (tN f 31 (tL f 30 d30) (tL f 31 d31)))))) (tN f 48 (tN f 40 (tN f 36 (tN f 34 (tN f 33 (tL f 32 d32) (tL f 33 d33)) (tN f 35 (tL f 34 d34) (tL f 35 d35))) (tN f 38 (tN f 37 (tL f 36 d36) (tL f 37 d37)) (tN f 39 (tL f 38 d38) (tL f 39 d39)))) (tN f 44 (tN f 42 (tN f 41 (tL f 40 d40) (tL f 41 d41)) (tN f 43 (tL f 42 d42) (tL f 43 d43))) (tN f 46 (tN f 45 (tL f 44 d44) (tL f 45 d45)) (tN f 47 (tL f 46 d46) (tL f 47 d47))))) (tN f 56 (tN f 52 (tN f 50 (tN f 49 (tL f 48 d48) (tL f 49 d49)) (tN f 51 (tL f 50 d50) (tL f 51 d51))) (tN f 54 (tN f 53 (tL f 52 d52) (tL f 53 d53)) (tN f 55 (tL f 54 d54) (tL f 55 d55)))) (tN f 60 (tN f 58 (tN f 57 (tL f 56 d56) (tL f 57 d57)) (tN f 59 (tL f 58 d58) (tL f 59 d59))) (tN f 62 (tN f 61 (tL f 60 d60) (tL f 61 d61)) (tN f 63 (tL f 62 d62) (tL f 63 d63)))))))
def rtab:Tabs:=⟨rtabF,rtabL⟩
def FO (f:Nat) (e:Func×Body):Prop:=(∀(c:CH) (lp:LH) us H,e.2 c (rtab.loop lp) us H=evF tyTab c lp e.1 us H)∧Tryz.prog.funcs[f]? = some e.1∧HasBody Tryz.prog f∧okF y e.1=true
def LO (e:(Code×Cx)×Body):Prop:=∀(c:CH) (lp:LH) us H,e.2 c (rtab.loop lp) us H=evL tyTab c lp e.1.1 e.1.2 us H
theorem e6:FO 6 (Tryz.f6,B6):=⟨fun _ _ _ _=>by kernel_rfl,Tryz.func6,Tryz.call6,by kernel_rfl⟩
theorem e7:FO 7 (Tryz.f7,B7):=⟨fun _ _ _ _=>by kernel_rfl,Tryz.func7,Tryz.call7,by kernel_rfl⟩
theorem e29:FO 29 (Tryz.f29,B29):=⟨fun _ _ _ _=>by kernel_rfl,Tryz.func29,Tryz.call29,by kernel_rfl⟩
theorem e30:FO 30 (Tryz.f30,B30):=⟨fun _ _ _ _=>by kernel_rfl,Tryz.func30,Tryz.call30,by kernel_rfl⟩
theorem e31:FO 31 (Tryz.f31,B31):=⟨fun _ _ _ _=>by kernel_rfl,Tryz.func31,Tryz.call31,by kernel_rfl⟩
theorem e33:FO 33 (Tryz.f33,B33):=⟨fun _ _ _ _=>by kernel_rfl,Tryz.func33,Tryz.call33,by kernel_rfl⟩
theorem e37:FO 37 (Tryz.f37,B37):=⟨fun _ _ _ _=>by kernel_rfl,Tryz.func37,Tryz.call37,by kernel_rfl⟩
theorem e66:FO 66 (Tryz.f66,B66):=⟨fun _ _ _ _=>by kernel_rfl,Tryz.func66,Tryz.call66,by kernel_rfl⟩
theorem e67:FO 67 (Tryz.f67,B67):=⟨fun _ _ _ _=>by kernel_rfl,Tryz.func67,Tryz.call67,by kernel_rfl⟩
theorem e70:FO 70 (Tryz.f70,B70):=⟨fun _ _ _ _=>by kernel_rfl,Tryz.func70,Tryz.call70,by kernel_rfl⟩
theorem e75:FO 75 (Tryz.f75,B75):=⟨fun _ _ _ _=>by kernel_rfl,Tryz.func75,Tryz.call75,by kernel_rfl⟩
theorem e76:FO 76 (Tryz.f76,B76):=⟨fun _ _ _ _=>by kernel_rfl,Tryz.func76,Tryz.call76,by kernel_rfl⟩
theorem e77:FO 77 (Tryz.f77,B77):=⟨fun _ _ _ _=>by kernel_rfl,Tryz.func77,Tryz.call77,by kernel_rfl⟩
theorem e78:FO 78 (Tryz.f78,B78):=⟨fun _ _ _ _=>by kernel_rfl,Tryz.func78,Tryz.call78,by kernel_rfl⟩
theorem e79:FO 79 (Tryz.f79,B79):=⟨fun _ _ _ _=>by kernel_rfl,Tryz.func79,Tryz.call79,by kernel_rfl⟩
theorem e94:FO 94 (Tryz.f94,B94):=⟨fun _ _ _ _=>by kernel_rfl,Tryz.func94,Tryz.call94,by kernel_rfl⟩
theorem e96:FO 96 (Tryz.f96,B96):=⟨fun _ _ _ _=>by kernel_rfl,Tryz.func96,Tryz.call96,by kernel_rfl⟩
theorem e97:FO 97 (Tryz.f97,B97):=⟨fun _ _ _ _=>by kernel_rfl,Tryz.func97,Tryz.call97,by kernel_rfl⟩
theorem e98:FO 98 (Tryz.f98,B98):=⟨fun _ _ _ _=>by kernel_rfl,Tryz.func98,Tryz.call98,by kernel_rfl⟩
theorem e99:FO 99 (Tryz.f99,B99):=⟨fun _ _ _ _=>by kernel_rfl,Tryz.func99,Tryz.call99,by kernel_rfl⟩
theorem e100:FO 100 (Tryz.f100,B100):=⟨fun _ _ _ _=>by kernel_rfl,Tryz.func100,Tryz.call100,by kernel_rfl⟩
theorem e101:FO 101 (Tryz.f101,B101):=⟨fun _ _ _ _=>by kernel_rfl,Tryz.func101,Tryz.call101,by kernel_rfl⟩
theorem e102:FO 102 (Tryz.f102,B102):=⟨fun _ _ _ _=>by kernel_rfl,Tryz.func102,Tryz.call102,by kernel_rfl⟩
theorem e103:FO 103 (Tryz.f103,B103):=⟨fun _ _ _ _=>by kernel_rfl,Tryz.func103,Tryz.call103,by kernel_rfl⟩
theorem e104:FO 104 (Tryz.f104,B104):=⟨fun _ _ _ _=>by kernel_rfl,Tryz.func104,Tryz.call104,by kernel_rfl⟩
theorem e112:FO 112 (Tryz.f112,B112):=⟨fun _ _ _ _=>by kernel_rfl,Tryz.func112,Tryz.call112,by kernel_rfl⟩
theorem e113:FO 113 (Tryz.f113,B113):=⟨fun _ _ _ _=>by kernel_rfl,Tryz.func113,Tryz.call113,by kernel_rfl⟩
theorem e116:FO 116 (Tryz.f116,B116):=⟨fun _ _ _ _=>by kernel_rfl,Tryz.func116,Tryz.call116,by kernel_rfl⟩
theorem e117:FO 117 (Tryz.f117,B117):=⟨fun _ _ _ _=>by kernel_rfl,Tryz.func117,Tryz.call117,by kernel_rfl⟩
theorem e118:FO 118 (Tryz.f118,B118):=⟨fun _ _ _ _=>by kernel_rfl,Tryz.func118,Tryz.call118,by kernel_rfl⟩
theorem e119:FO 119 (Tryz.f119,B119):=⟨fun _ _ _ _=>by kernel_rfl,Tryz.func119,Tryz.call119,by kernel_rfl⟩
theorem e120:FO 120 (Tryz.f120,B120):=⟨fun _ _ _ _=>by kernel_rfl,Tryz.func120,Tryz.call120,by kernel_rfl⟩
theorem e121:FO 121 (Tryz.f121,B121):=⟨fun _ _ _ _=>by kernel_rfl,Tryz.func121,Tryz.call121,by kernel_rfl⟩
theorem e122:FO 122 (Tryz.f122,B122):=⟨fun _ _ _ _=>by kernel_rfl,Tryz.func122,Tryz.call122,by kernel_rfl⟩
theorem e123:FO 123 (Tryz.f123,B123):=⟨fun _ _ _ _=>by kernel_rfl,Tryz.func123,Tryz.call123,by kernel_rfl⟩
theorem e124:FO 124 (Tryz.f124,B124):=⟨fun _ _ _ _=>by kernel_rfl,Tryz.func124,Tryz.call124,by kernel_rfl⟩
theorem e125:FO 125 (Tryz.f125,B125):=⟨fun _ _ _ _=>by kernel_rfl,Tryz.func125,Tryz.call125,by kernel_rfl⟩
theorem e126:FO 126 (Tryz.f126,B126):=⟨fun _ _ _ _=>by kernel_rfl,Tryz.func126,Tryz.call126,by kernel_rfl⟩
theorem e127:FO 127 (Tryz.f127,B127):=⟨fun _ _ _ _=>by kernel_rfl,Tryz.func127,Tryz.call127,by kernel_rfl⟩
theorem e128:FO 128 (Tryz.f128,B128):=⟨fun _ _ _ _=>by kernel_rfl,Tryz.func128,Tryz.call128,by kernel_rfl⟩
theorem e129:FO 129 (Tryz.f129,B129):=⟨fun _ _ _ _=>by kernel_rfl,Tryz.func129,Tryz.call129,by kernel_rfl⟩
theorem e130:FO 130 (Tryz.f130,B130):=⟨fun _ _ _ _=>by kernel_rfl,Tryz.func130,Tryz.call130,by kernel_rfl⟩
theorem e131:FO 131 (Tryz.f131,B131):=⟨fun _ _ _ _=>by kernel_rfl,Tryz.func131,Tryz.call131,by kernel_rfl⟩
theorem e132:FO 132 (Tryz.f132,B132):=⟨fun _ _ _ _=>by kernel_rfl,Tryz.func132,Tryz.call132,by kernel_rfl⟩
theorem e133:FO 133 (Tryz.f133,B133):=⟨fun _ _ _ _=>by kernel_rfl,Tryz.func133,Tryz.call133,by kernel_rfl⟩
theorem e134:FO 134 (Tryz.f134,B134):=⟨fun _ _ _ _=>by kernel_rfl,Tryz.func134,Tryz.call134,by kernel_rfl⟩
theorem e136:FO 136 (Tryz.f136,B136):=⟨fun _ _ _ _=>by kernel_rfl,Tryz.func136,Tryz.call136,by kernel_rfl⟩
theorem e137:FO 137 (Tryz.f137,B137):=⟨fun _ _ _ _=>by kernel_rfl,Tryz.func137,Tryz.call137,by kernel_rfl⟩
theorem e140:FO 140 (Tryz.f140,B140):=⟨fun _ _ _ _=>by kernel_rfl,Tryz.func140,Tryz.call140,by kernel_rfl⟩
theorem e141:FO 141 (Tryz.f141,B141):=⟨fun _ _ _ _=>by kernel_rfl,Tryz.func141,Tryz.call141,by kernel_rfl⟩
theorem e142:FO 142 (Tryz.f142,B142):=⟨fun _ _ _ _=>by kernel_rfl,Tryz.func142,Tryz.call142,by kernel_rfl⟩
theorem e143:FO 143 (Tryz.f143,B143):=⟨fun _ _ _ _=>by kernel_rfl,Tryz.func143,Tryz.call143,by kernel_rfl⟩
theorem e144:FO 144 (Tryz.f144,B144):=⟨fun _ _ _ _=>by kernel_rfl,Tryz.func144,Tryz.call144,by kernel_rfl⟩
theorem e145:FO 145 (Tryz.f145,B145):=⟨fun _ _ _ _=>by kernel_rfl,Tryz.func145,Tryz.call145,by kernel_rfl⟩
theorem e146:FO 146 (Tryz.f146,B146):=⟨fun _ _ _ _=>by kernel_rfl,Tryz.func146,Tryz.call146,by kernel_rfl⟩
theorem e147:FO 147 (Tryz.f147,B147):=⟨fun _ _ _ _=>by kernel_rfl,Tryz.func147,Tryz.call147,by kernel_rfl⟩
theorem e148:FO 148 (Tryz.f148,B148):=⟨fun _ _ _ _=>by kernel_rfl,Tryz.func148,Tryz.call148,by kernel_rfl⟩
theorem e149:FO 149 (Tryz.f149,B149):=⟨fun _ _ _ _=>by kernel_rfl,Tryz.func149,Tryz.call149,by kernel_rfl⟩
theorem e150:FO 150 (Tryz.f150,B150):=⟨fun _ _ _ _=>by kernel_rfl,Tryz.func150,Tryz.call150,by kernel_rfl⟩
theorem e151:FO 151 (Tryz.f151,B151):=⟨fun _ _ _ _=>by kernel_rfl,Tryz.func151,Tryz.call151,by kernel_rfl⟩
theorem e152:FO 152 (Tryz.f152,B152):=⟨fun _ _ _ _=>by kernel_rfl,Tryz.func152,Tryz.call152,by kernel_rfl⟩
theorem e153:FO 153 (Tryz.f153,B153):=⟨fun _ _ _ _=>by kernel_rfl,Tryz.func153,Tryz.call153,by kernel_rfl⟩
theorem e154:FO 154 (Tryz.f154,B154):=⟨fun _ _ _ _=>by kernel_rfl,Tryz.func154,Tryz.call154,by kernel_rfl⟩
theorem e155:FO 155 (Tryz.f155,B155):=⟨fun _ _ _ _=>by kernel_rfl,Tryz.func155,Tryz.call155,by kernel_rfl⟩
theorem e156:FO 156 (Tryz.f156,B156):=⟨fun _ _ _ _=>by kernel_rfl,Tryz.func156,Tryz.call156,by kernel_rfl⟩
theorem e157:FO 157 (Tryz.f157,B157):=⟨fun _ _ _ _=>by kernel_rfl,Tryz.func157,Tryz.call157,by kernel_rfl⟩
theorem e158:FO 158 (Tryz.f158,B158):=⟨fun _ _ _ _=>by kernel_rfl,Tryz.func158,Tryz.call158,by kernel_rfl⟩
theorem e159:FO 159 (Tryz.f159,B159):=⟨fun _ _ _ _=>by kernel_rfl,Tryz.func159,Tryz.call159,by kernel_rfl⟩
theorem e160:FO 160 (Tryz.f160,B160):=⟨fun _ _ _ _=>by kernel_rfl,Tryz.func160,Tryz.call160,by kernel_rfl⟩
theorem e161:FO 161 (Tryz.f161,B161):=⟨fun _ _ _ _=>by kernel_rfl,Tryz.func161,Tryz.call161,by kernel_rfl⟩
theorem e162:FO 162 (Tryz.f162,B162):=⟨fun _ _ _ _=>by kernel_rfl,Tryz.func162,Tryz.call162,by kernel_rfl⟩
theorem e163:FO 163 (Tryz.f163,B163):=⟨fun _ _ _ _=>by kernel_rfl,Tryz.func163,Tryz.call163,by kernel_rfl⟩
theorem e164:FO 164 (Tryz.f164,B164):=⟨fun _ _ _ _=>by kernel_rfl,Tryz.func164,Tryz.call164,by kernel_rfl⟩
theorem e165:FO 165 (Tryz.f165,B165):=⟨fun _ _ _ _=>by kernel_rfl,Tryz.func165,Tryz.call165,by kernel_rfl⟩
theorem e167:FO 167 (Tryz.f167,B167):=⟨fun _ _ _ _=>by kernel_rfl,Tryz.func167,Tryz.call167,by kernel_rfl⟩
theorem e168:FO 168 (Tryz.f168,B168):=⟨fun _ _ _ _=>by kernel_rfl,Tryz.func168,Tryz.call168,by kernel_rfl⟩
theorem e169:FO 169 (Tryz.f169,B169):=⟨fun _ _ _ _=>by kernel_rfl,Tryz.func169,Tryz.call169,by kernel_rfl⟩
theorem e170:FO 170 (Tryz.f170,B170):=⟨fun _ _ _ _=>by kernel_rfl,Tryz.func170,Tryz.call170,by kernel_rfl⟩
theorem e173:FO 173 (Tryz.f173,B173):=⟨fun _ _ _ _=>by kernel_rfl,Tryz.func173,Tryz.call173,by kernel_rfl⟩
theorem e174:FO 174 (Tryz.f174,B174):=⟨fun _ _ _ _=>by kernel_rfl,Tryz.func174,Tryz.call174,by kernel_rfl⟩
theorem e175:FO 175 (Tryz.f175,B175):=⟨fun _ _ _ _=>by kernel_rfl,Tryz.func175,Tryz.call175,by kernel_rfl⟩
theorem e176:FO 176 (Tryz.f176,B176):=⟨fun _ _ _ _=>by kernel_rfl,Tryz.func176,Tryz.call176,by kernel_rfl⟩
theorem e177:FO 177 (Tryz.f177,B177):=⟨fun _ _ _ _=>by kernel_rfl,Tryz.func177,Tryz.call177,by kernel_rfl⟩
theorem e178:FO 178 (Tryz.f178,B178):=⟨fun _ _ _ _=>by kernel_rfl,Tryz.func178,Tryz.call178,by kernel_rfl⟩
theorem e179:FO 179 (Tryz.f179,B179):=⟨fun _ _ _ _=>by kernel_rfl,Tryz.func179,Tryz.call179,by kernel_rfl⟩
theorem e180:FO 180 (Tryz.f180,B180):=⟨fun _ _ _ _=>by kernel_rfl,Tryz.func180,Tryz.call180,by kernel_rfl⟩
theorem e181:FO 181 (Tryz.f181,B181):=⟨fun _ _ _ _=>by kernel_rfl,Tryz.func181,Tryz.call181,by kernel_rfl⟩
theorem e182:FO 182 (Tryz.f182,B182):=⟨fun _ _ _ _=>by kernel_rfl,Tryz.func182,Tryz.call182,by kernel_rfl⟩
theorem e183:FO 183 (Tryz.f183,B183):=⟨fun _ _ _ _=>by kernel_rfl,Tryz.func183,Tryz.call183,by kernel_rfl⟩
theorem e184:FO 184 (Tryz.f184,B184):=⟨fun _ _ _ _=>by kernel_rfl,Tryz.func184,Tryz.call184,by kernel_rfl⟩
theorem e185:FO 185 (Tryz.f185,B185):=⟨fun _ _ _ _=>by kernel_rfl,Tryz.func185,Tryz.call185,by kernel_rfl⟩
theorem e186:FO 186 (Tryz.f186,B186):=⟨fun _ _ _ _=>by kernel_rfl,Tryz.func186,Tryz.call186,by kernel_rfl⟩
theorem e187:FO 187 (Tryz.f187,B187):=⟨fun _ _ _ _=>by kernel_rfl,Tryz.func187,Tryz.call187,by kernel_rfl⟩
theorem e188:FO 188 (Tryz.f188,B188):=⟨fun _ _ _ _=>by kernel_rfl,Tryz.func188,Tryz.call188,by kernel_rfl⟩
theorem e189:FO 189 (Tryz.f189,B189):=⟨fun _ _ _ _=>by kernel_rfl,Tryz.func189,Tryz.call189,by kernel_rfl⟩
theorem e190:FO 190 (Tryz.f190,B190):=⟨fun _ _ _ _=>by kernel_rfl,Tryz.func190,Tryz.call190,by kernel_rfl⟩
theorem e191:FO 191 (Tryz.f191,B191):=⟨fun _ _ _ _=>by kernel_rfl,Tryz.func191,Tryz.call191,by kernel_rfl⟩
theorem e192:FO 192 (Tryz.f192,B192):=⟨fun _ _ _ _=>by kernel_rfl,Tryz.func192,Tryz.call192,by kernel_rfl⟩
theorem e193:FO 193 (Tryz.f193,B193):=⟨fun _ _ _ _=>by kernel_rfl,Tryz.func193,Tryz.call193,by kernel_rfl⟩
theorem e194:FO 194 (Tryz.f194,B194):=⟨fun _ _ _ _=>by kernel_rfl,Tryz.func194,Tryz.call194,by kernel_rfl⟩
theorem e195:FO 195 (Tryz.f195,B195):=⟨fun _ _ _ _=>by kernel_rfl,Tryz.func195,Tryz.call195,by kernel_rfl⟩
theorem e196:FO 196 (Tryz.f196,B196):=⟨fun _ _ _ _=>by kernel_rfl,Tryz.func196,Tryz.call196,by kernel_rfl⟩
theorem e197:FO 197 (Tryz.f197,B197):=⟨fun _ _ _ _=>by kernel_rfl,Tryz.func197,Tryz.call197,by kernel_rfl⟩
theorem e198:FO 198 (Tryz.f198,B198):=⟨fun _ _ _ _=>by kernel_rfl,Tryz.func198,Tryz.call198,by kernel_rfl⟩
theorem e199:FO 199 (Tryz.f199,B199):=⟨fun _ _ _ _=>by kernel_rfl,Tryz.func199,Tryz.call199,by kernel_rfl⟩
theorem e200:FO 200 (Tryz.f200,B200):=⟨fun _ _ _ _=>by kernel_rfl,Tryz.func200,Tryz.call200,by kernel_rfl⟩
theorem e201:FO 201 (Tryz.f201,B201):=⟨fun _ _ _ _=>by kernel_rfl,Tryz.func201,Tryz.call201,by kernel_rfl⟩
theorem e202:FO 202 (Tryz.f202,B202):=⟨fun _ _ _ _=>by kernel_rfl,Tryz.func202,Tryz.call202,by kernel_rfl⟩
theorem e203:FO 203 (Tryz.f203,B203):=⟨fun _ _ _ _=>by kernel_rfl,Tryz.func203,Tryz.call203,by kernel_rfl⟩
theorem e204:FO 204 (Tryz.f204,B204):=⟨fun _ _ _ _=>by kernel_rfl,Tryz.func204,Tryz.call204,by kernel_rfl⟩
theorem e205:FO 205 (Tryz.f205,B205):=⟨fun _ _ _ _=>by kernel_rfl,Tryz.func205,Tryz.call205,by kernel_rfl⟩
theorem e206:FO 206 (Tryz.f206,B206):=⟨fun _ _ _ _=>by kernel_rfl,Tryz.func206,Tryz.call206,by kernel_rfl⟩
theorem e207:FO 207 (Tryz.f207,B207):=⟨fun _ _ _ _=>by kernel_rfl,Tryz.func207,Tryz.call207,by kernel_rfl⟩
theorem e209:FO 209 (Tryz.f209,B209):=⟨fun _ _ _ _=>by kernel_rfl,Tryz.func209,Tryz.call209,by kernel_rfl⟩
theorem e210:FO 210 (Tryz.f210,B210):=⟨fun _ _ _ _=>by kernel_rfl,Tryz.func210,Tryz.call210,by kernel_rfl⟩
theorem e211:FO 211 (Tryz.f211,B211):=⟨fun _ _ _ _=>by kernel_rfl,Tryz.func211,Tryz.call211,by kernel_rfl⟩
theorem e212:FO 212 (Tryz.f212,B212):=⟨fun _ _ _ _=>by kernel_rfl,Tryz.func212,Tryz.call212,by kernel_rfl⟩
theorem e213:FO 213 (Tryz.f213,B213):=⟨fun _ _ _ _=>by kernel_rfl,Tryz.func213,Tryz.call213,by kernel_rfl⟩
theorem e214:FO 214 (Tryz.f214,B214):=⟨fun _ _ _ _=>by kernel_rfl,Tryz.func214,Tryz.call214,by kernel_rfl⟩
theorem e215:FO 215 (Tryz.f215,B215):=⟨fun _ _ _ _=>by kernel_rfl,Tryz.func215,Tryz.call215,by kernel_rfl⟩
theorem e216:FO 216 (Tryz.f216,B216):=⟨fun _ _ _ _=>by kernel_rfl,Tryz.func216,Tryz.call216,by kernel_rfl⟩
theorem e217:FO 217 (Tryz.f217,B217):=⟨fun _ _ _ _=>by kernel_rfl,Tryz.func217,Tryz.call217,by kernel_rfl⟩
theorem e218:FO 218 (Tryz.f218,B218):=⟨fun _ _ _ _=>by kernel_rfl,Tryz.func218,Tryz.call218,by kernel_rfl⟩
theorem e219:FO 219 (Tryz.f219,B219):=⟨fun _ _ _ _=>by kernel_rfl,Tryz.func219,Tryz.call219,by kernel_rfl⟩
theorem e220:FO 220 (Tryz.f220,B220):=⟨fun _ _ _ _=>by kernel_rfl,Tryz.func220,Tryz.call220,by kernel_rfl⟩
theorem e221:FO 221 (Tryz.f221,B221):=⟨fun _ _ _ _=>by kernel_rfl,Tryz.func221,Tryz.call221,by kernel_rfl⟩
theorem e222:FO 222 (Tryz.f222,B222):=⟨fun _ _ _ _=>by kernel_rfl,Tryz.func222,Tryz.call222,by kernel_rfl⟩
theorem e223:FO 223 (Tryz.f223,B223):=⟨fun _ _ _ _=>by kernel_rfl,Tryz.func223,Tryz.call223,by kernel_rfl⟩
theorem e224:FO 224 (Tryz.f224,B224):=⟨fun _ _ _ _=>by kernel_rfl,Tryz.func224,Tryz.call224,by kernel_rfl⟩
theorem e225:FO 225 (Tryz.f225,B225):=⟨fun _ _ _ _=>by kernel_rfl,Tryz.func225,Tryz.call225,by kernel_rfl⟩
theorem e226:FO 226 (Tryz.f226,B226):=⟨fun _ _ _ _=>by kernel_rfl,Tryz.func226,Tryz.call226,by kernel_rfl⟩
theorem e227:FO 227 (Tryz.f227,B227):=⟨fun _ _ _ _=>by kernel_rfl,Tryz.func227,Tryz.call227,by kernel_rfl⟩
theorem e228:FO 228 (Tryz.f228,B228):=⟨fun _ _ _ _=>by kernel_rfl,Tryz.func228,Tryz.call228,by kernel_rfl⟩
theorem e229:FO 229 (Tryz.f229,B229):=⟨fun _ _ _ _=>by kernel_rfl,Tryz.func229,Tryz.call229,by kernel_rfl⟩
theorem e230:FO 230 (Tryz.f230,B230):=⟨fun _ _ _ _=>by kernel_rfl,Tryz.func230,Tryz.call230,by kernel_rfl⟩
theorem e231:FO 231 (Tryz.f231,B231):=⟨fun _ _ _ _=>by kernel_rfl,Tryz.func231,Tryz.call231,by kernel_rfl⟩
theorem e232:FO 232 (Tryz.f232,B232):=⟨fun _ _ _ _=>by kernel_rfl,Tryz.func232,Tryz.call232,by kernel_rfl⟩
theorem e233:FO 233 (Tryz.f233,B233):=⟨fun _ _ _ _=>by kernel_rfl,Tryz.func233,Tryz.call233,by kernel_rfl⟩
theorem e234:FO 234 (Tryz.f234,B234):=⟨fun _ _ _ _=>by kernel_rfl,Tryz.func234,Tryz.call234,by kernel_rfl⟩
theorem e235:FO 235 (Tryz.f235,B235):=⟨fun _ _ _ _=>by kernel_rfl,Tryz.func235,Tryz.call235,by kernel_rfl⟩
theorem e236:FO 236 (Tryz.f236,B236):=⟨fun _ _ _ _=>by kernel_rfl,Tryz.func236,Tryz.call236,by kernel_rfl⟩
theorem l0:LO d0:=fun _ _ _ _=>by kernel_rfl
theorem l1:LO d1:=fun _ _ _ _=>by kernel_rfl
theorem l2:LO d2:=fun _ _ _ _=>by kernel_rfl
theorem l3:LO d3:=fun _ _ _ _=>by kernel_rfl
theorem l4:LO d4:=fun _ _ _ _=>by kernel_rfl
theorem l5:LO d5:=fun _ _ _ _=>by kernel_rfl
theorem l6:LO d6:=fun _ _ _ _=>by kernel_rfl
theorem l7:LO d7:=fun _ _ _ _=>by kernel_rfl
theorem l8:LO d8:=fun _ _ _ _=>by kernel_rfl
theorem l9:LO d9:=fun _ _ _ _=>by kernel_rfl
theorem l10:LO d10:=fun _ _ _ _=>by kernel_rfl
theorem l11:LO d11:=fun _ _ _ _=>by kernel_rfl
theorem l12:LO d12:=fun _ _ _ _=>by kernel_rfl
theorem l13:LO d13:=fun _ _ _ _=>by kernel_rfl
theorem l14:LO d14:=fun _ _ _ _=>by kernel_rfl
theorem l15:LO d15:=fun _ _ _ _=>by kernel_rfl
theorem l16:LO d16:=fun _ _ _ _=>by kernel_rfl
theorem l17:LO d17:=fun _ _ _ _=>by kernel_rfl
theorem l18:LO d18:=fun _ _ _ _=>by kernel_rfl
theorem l19:LO d19:=fun _ _ _ _=>by kernel_rfl
theorem l20:LO d20:=fun _ _ _ _=>by kernel_rfl
theorem l21:LO d21:=fun _ _ _ _=>by kernel_rfl
theorem l22:LO d22:=fun _ _ _ _=>by kernel_rfl
theorem l23:LO d23:=fun _ _ _ _=>by kernel_rfl
theorem l24:LO d24:=fun _ _ _ _=>by kernel_rfl
theorem l25:LO d25:=fun _ _ _ _=>by kernel_rfl
theorem l26:LO d26:=fun _ _ _ _=>by kernel_rfl
theorem l27:LO d27:=fun _ _ _ _=>by kernel_rfl
theorem l28:LO d28:=fun _ _ _ _=>by kernel_rfl
theorem l29:LO d29:=fun _ _ _ _=>by kernel_rfl
theorem l30:LO d30:=fun _ _ _ _=>by kernel_rfl
theorem l31:LO d31:=fun _ _ _ _=>by kernel_rfl
theorem l32:LO d32:=fun _ _ _ _=>by kernel_rfl
theorem l33:LO d33:=fun _ _ _ _=>by kernel_rfl
theorem l34:LO d34:=fun _ _ _ _=>by kernel_rfl
theorem l35:LO d35:=fun _ _ _ _=>by kernel_rfl
theorem l36:LO d36:=fun _ _ _ _=>by kernel_rfl
theorem l37:LO d37:=fun _ _ _ _=>by kernel_rfl
theorem l38:LO d38:=fun _ _ _ _=>by kernel_rfl
theorem l39:LO d39:=fun _ _ _ _=>by kernel_rfl
theorem l40:LO d40:=fun _ _ _ _=>by kernel_rfl
theorem l41:LO d41:=fun _ _ _ _=>by kernel_rfl
theorem l42:LO d42:=fun _ _ _ _=>by kernel_rfl
theorem l43:LO d43:=fun _ _ _ _=>by kernel_rfl
theorem l44:LO d44:=fun _ _ _ _=>by kernel_rfl
theorem l45:LO d45:=fun _ _ _ _=>by kernel_rfl
theorem l46:LO d46:=fun _ _ _ _=>by kernel_rfl
theorem l47:LO d47:=fun _ _ _ _=>by kernel_rfl
theorem l48:LO d48:=fun _ _ _ _=>by kernel_rfl
theorem l49:LO d49:=fun _ _ _ _=>by kernel_rfl
theorem l50:LO d50:=fun _ _ _ _=>by kernel_rfl
theorem l51:LO d51:=fun _ _ _ _=>by kernel_rfl
theorem l52:LO d52:=fun _ _ _ _=>by kernel_rfl
theorem l53:LO d53:=fun _ _ _ _=>by kernel_rfl
theorem l54:LO d54:=fun _ _ _ _=>by kernel_rfl
theorem l55:LO d55:=fun _ _ _ _=>by kernel_rfl
theorem l56:LO d56:=fun _ _ _ _=>by kernel_rfl
theorem l57:LO d57:=fun _ _ _ _=>by kernel_rfl
theorem l58:LO d58:=fun _ _ _ _=>by kernel_rfl
theorem l59:LO d59:=fun _ _ _ _=>by kernel_rfl
theorem l60:LO d60:=fun _ _ _ _=>by kernel_rfl
theorem l61:LO d61:=fun _ _ _ _=>by kernel_rfl
theorem l62:LO d62:=fun _ _ _ _=>by kernel_rfl
theorem l63:LO d63:=fun _ _ _ _=>by kernel_rfl
theorem rtabF_all {f:Nat} {e:Func×Body}:rtabF f=some e->FO f e:=(rN (rN (rN (rN (rN (rN (rN (rL e6) (rL e7)) (rN (rL e29) (rL e30))) (rN (rN (rL e31) (rL e33)) (rN (rL e37) (rL e66)))) (rN (rN (rN (rL e67) (rL e70)) (rN (rL e75) (rL e76))) (rN (rN (rL e77) (rL e78)) (rN (rL e79) (rN (rL e94) (rL e96)))))) (rN (rN (rN (rN (rL e97) (rL e98)) (rN (rL e99) (rL e100))) (rN (rN (rL e101) (rL e102)) (rN (rL e103) (rN (rL e104) (rL e112))))) (rN (rN (rN (rL e113) (rL e116)) (rN (rL e117) (rL e118))) (rN (rN (rL e119) (rL e120)) (rN (rL e121) (rN (rL e122) (rL e123))))))) (rN (rN (rN (rN (rN (rL e124) (rL e125)) (rN (rL e126) (rL e127))) (rN (rN (rL e128) (rL e129)) (rN (rL e130) (rL e131)))) (rN (rN (rN (rL e132) (rL e133)) (rN (rL e134) (rL e136))) (rN (rN (rL e137) (rL e140)) (rN (rL e141) (rN (rL e142) (rL e143)))))) (rN (rN (rN (rN (rL e144) (rL e145)) (rN (rL e146) (rL e147))) (rN (rN (rL e148) (rL e149)) (rN (rL e150) (rN (rL e151) (rL e152))))) (rN (rN (rN (rL e153) (rL e154)) (rN (rL e155) (rL e156))) (rN (rN (rL e157) (rL e158)) (rN (rL e159) (rN (rL e160) (rL e161)))))))) (rN (rN (rN (rN (rN (rN (rL e162) (rL e163)) (rN (rL e164) (rL e165))) (rN (rN (rL e167) (rL e168)) (rN (rL e169) (rL e170)))) (rN (rN (rN (rL e173) (rL e174)) (rN (rL e175) (rL e176))) (rN (rN (rL e177) (rL e178)) (rN (rL e179) (rN (rL e180) (rL e181)))))) (rN (rN (rN (rN (rL e182) (rL e183)) (rN (rL e184) (rL e185))) (rN (rN (rL e186) (rL e187)) (rN (rL e188) (rN (rL e189) (rL e190))))) (rN (rN (rN (rL e191) (rL e192)) (rN (rL e193) (rL e194))) (rN (rN (rL e195) (rL e196)) (rN (rL e197) (rN (rL e198) (rL e199))))))) (rN (rN (rN (rN (rN (rL e200) (rL e201)) (rN (rL e202) (rL e203))) (rN (rN (rL e204) (rL e205)) (rN (rL e206) (rN (rL e207) (rL e209))))) (rN (rN (rN (rL e210) (rL e211)) (rN (rL e212) (rL e213))) (rN (rN (rL e214) (rL e215)) (rN (rL e216) (rN (rL e217) (rL e218)))))) (rN (rN (rN (rN (rL e219) (rL e220)) (rN (rL e221) (rL e222))) (rN (rN (rL e223) (rL e224)) (rN (rL e225) (rN (rL e226) (rL e227))))) (rN (rN (rN (rL e228) (rL e229)) (rN (rL e230) (rL e231))) (rN (rN (rL e232) (rL e233)) (rN (rL e234) (rN (rL e235) (rL e236)))))))))
theorem rtabL_ok {f:Nat} {e:(Code×Cx)×Body}:rtabL f=some e->LO e:=(rN (rN (rN (rN (rN (rN (rL (R:=fun _=>LO) l0) (rL (R:=fun _=>LO) l1)) (rN (rL (R:=fun _=>LO) l2) (rL (R:=fun _=>LO) l3))) (rN (rN (rL (R:=fun _=>LO) l4) (rL (R:=fun _=>LO) l5)) (rN (rL (R:=fun _=>LO) l6) (rL (R:=fun _=>LO) l7)))) (rN (rN (rN (rL (R:=fun _=>LO) l8) (rL (R:=fun _=>LO) l9)) (rN (rL (R:=fun _=>LO) l10) (rL (R:=fun _=>LO) l11))) (rN (rN (rL (R:=fun _=>LO) l12) (rL (R:=fun _=>LO) l13)) (rN (rL (R:=fun _=>LO) l14) (rL (R:=fun _=>LO) l15))))) (rN (rN (rN (rN (rL (R:=fun _=>LO) l16) (rL (R:=fun _=>LO) l17)) (rN (rL (R:=fun _=>LO) l18) (rL (R:=fun _=>LO) l19))) (rN (rN (rL (R:=fun _=>LO) l20) (rL (R:=fun _=>LO) l21)) (rN (rL (R:=fun _=>LO) l22) (rL (R:=fun _=>LO) l23)))) (rN (rN (rN (rL (R:=fun _=>LO) l24) (rL (R:=fun _=>LO) l25)) (rN (rL (R:=fun _=>LO) l26) (rL (R:=fun _=>LO) l27))) (rN (rN (rL (R:=fun _=>LO) l28) (rL (R:=fun _=>LO) l29)) (rN (rL (R:=fun _=>LO) l30) (rL (R:=fun _=>LO) l31)))))) (rN (rN (rN (rN (rN (rL (R:=fun _=>LO) l32) (rL (R:=fun _=>LO) l33)) (rN (rL (R:=fun _=>LO) l34) (rL (R:=fun _=>LO) l35))) (rN (rN (rL (R:=fun _=>LO) l36) (rL (R:=fun _=>LO) l37)) (rN (rL (R:=fun _=>LO) l38) (rL (R:=fun _=>LO) l39)))) (rN (rN (rN (rL (R:=fun _=>LO) l40) (rL (R:=fun _=>LO) l41)) (rN (rL (R:=fun _=>LO) l42) (rL (R:=fun _=>LO) l43))) (rN (rN (rL (R:=fun _=>LO) l44) (rL (R:=fun _=>LO) l45)) (rN (rL (R:=fun _=>LO) l46) (rL (R:=fun _=>LO) l47))))) (rN (rN (rN (rN (rL (R:=fun _=>LO) l48) (rL (R:=fun _=>LO) l49)) (rN (rL (R:=fun _=>LO) l50) (rL (R:=fun _=>LO) l51))) (rN (rN (rL (R:=fun _=>LO) l52) (rL (R:=fun _=>LO) l53)) (rN (rL (R:=fun _=>LO) l54) (rL (R:=fun _=>LO) l55)))) (rN (rN (rN (rL (R:=fun _=>LO) l56) (rL (R:=fun _=>LO) l57)) (rN (rL (R:=fun _=>LO) l58) (rL (R:=fun _=>LO) l59))) (rN (rN (rL (R:=fun _=>LO) l60) (rL (R:=fun _=>LO) l61)) (rN (rL (R:=fun _=>LO) l62) (rL (R:=fun _=>LO) l63)))))))
theorem rtab_ok:TabsOk rtab tyTab:=⟨fun h=>(rtabF_all h).1,rtabL_ok⟩
theorem rtabF_fn {f:Nat} {e:Func×Body} (h:rtabF f=some e):Tryz.prog.funcs[f]? = some e.1∧HasBody Tryz.prog f∧okF y e.1=true:=(rtabF_all h).2
end
end Go.Gx
end
