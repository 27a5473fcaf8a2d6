/- Models of functions with their proofs, by program (gen/xt.py), and plain laws, in one text. Conditions: none. -/
import Derived.Test.YtfbkplemadmbfaaGreatDoorZRJu5
import Derived.Test.YtfbkplemadmbfaaGreatDoorZRJu1
import Derived.RecoverIn
import Derived.DefersIn
import Derived.Lib.Bytealg
import Derived.Test.YtfbkplemadmbfaaGreatDoorZRJu2
set_option linter.unusedVariables false
set_option linter.unusedSimpArgs false
set_option maxHeartbeats 4000000
set_option maxRecDepth 20000
section
set_option maxRecDepth 100000
namespace Go.Gx
open Go Go.Sx Go.Proofs
noncomputable section
abbrev y:=tyTab
def i (n:Nat):GV:= .int .i64 (.ofNat n)
def bC (q:Bool) (f t:RS):RS:=Bool.casesOn (motive:=fun _=>RS) q f t
def K (c:CH) (f:Nat) (us:List GV) (H:GH) (k:GV->GH->RS):RS:=kOR (c f us H) k
def bn (op:BinOp) (T:Nat) (v u:GV) (k:GV->RS):RS:=ob (vBin y op T v u) k
def ld (T:Nat) (v:GV) (H:GH) (k:GV->RS):RS:=ob (vLoad y T v H) k
def fd (T n:Nat) (v:GV) (k:GV->RS):RS:=ob (vField y T n v) k
def pt (T n:Nat) (v:GV) (k:GV->RS):RS:=ob (vPart y T n v) k
def ix (T:Nat) (v u:GV) (k:GV->RS):RS:=ob (vIndex y T v u) k
def ln (T:Nat) (v:GV) (k:GV->RS):RS:=ob (vLen y T v) k
def ex (n:Nat) (v:GV) (k:GV->RS):RS:=ob (vExt n v) k
def bd (T:Nat) (l:List (Nat×GV)) (k:GV->RS):RS:=ob (vBuild y T l) k
theorem rN {α:Type} {f n:Nat} {x y:Option α} {e:α} {R:Prop} (hx:x=some e->R) (hy:y=some e->R):tN f n x y=some e->R:=by
 unfold tN
 cases Nat.blt f n
 ·exact hy
 ·exact hx
theorem rL {α:Type} {f n:Nat} {x e:α} {R:Nat->α->Prop} (h:R n x):tL f n x=some e->R f e:=by
 intro he
 unfold tL at he
 cases hb:Nat.beq f n with
 |false=>rw[hb]at he;cases he
 |true=>rw[hb]at he;cases he;rw[Nat.eq_of_beq_eq_true hb];exact h
def B10 (c:CH) (ql:QH) (us:List GV) (H:GH):RS:=U0 us (bd 38 [(0,(i 2))] fun t1=>
 K c 28 [t1,(i 2)] H fun t2 h3=>
 kOR (vAlloc y 25 h3) fun t4 h5=>
 kOR (vStore y 25 t4 t2 h5) fun t6 h7=>
 kOR (vBuildS y 22 6 [(0,(i 0)),(1,(.int .i64 (.negSucc 0))),(2,(i 0)),(3,(i 0)),(4,(i 3)),(5,(i 0))] h7) fun t8 h9=>
 kOR (vBuildS y 22 6 [(0,(i 1)),(1,(i 0)),(2,(i 0)),(3,(i 0)),(4,(i 2)),(5,(i 1))] h9) fun t10 h11=>
 kOR (vBuildS y 30 2 [(0,t8),(1,t10)] h11) fun t12 h13=>
 K c 38 [] h13 fun t14 h15=>
 ob (some ()) fun _=>
 K c 30 [t14] h15 fun t16 h17=>
 ob (some ()) fun _=>
 ld 25 t4 h17 fun t18=>
 ob (Option.casesOn (motive:=fun _=>Option (Option (Nat×Nat))) (ob (GV.asP t4) fun p=>some p.1) (some none) fun k20=>ob (GH.ver h17 k20) fun k21=>vck h15 k20 k21 (vck h13 k20 k21 (some (some (k20,k21))))) fun e19=>
 kOR (vBuildS y 51 6 [(0,(.int .u32 (.ofNat 1))),(1,(.int .u32 (.ofNat 1))),(2,(.int .u32 (.ofNat 2))),(3,(.int .u32 (.ofNat 2))),(4,(.int .u32 (.ofNat 1))),(5,(.int .u32 (.ofNat 1)))] h17) fun t22 h23=>
 ob (pck h23 e19 (some ())) fun _=>
 K c 37 [t16,t18,(i 1),t12,t22] h23 fun t24 h25=>
 ob (some ()) fun _=>
 ex 0 t24 fun t26=>
 ex 1 t24 fun t27=>
 kOR (vAlloc y 58 h25) fun t28 h29=>
 ob (pck h29 e19 (some ())) fun _=>
 kOR (vStore y 58 t28 t26 h29) fun t30 h31=>
 ob (some ()) fun _=>
 bn .eql 42 t27 (i 0) fun t32=>
 kOR (rG t32 true h31 (ob (vLoad y 25 t4 h31) fun g33=>some (g33,h31))) fun t34 h35=>
 kOR (rG t32 true h35 (ob (vField y 58 2 t28) fun g36=>some (g36,h35))) fun t37 h38=>
 kOR (rG t32 true h38 (ob (vLoad y 30 t37 h38) fun g39=>some (g39,h38))) fun t40 h41=>
 kOR (rG t32 true h41 (kOR (c 13 [t34,t40] h41) orK)) fun t42 h43=>
 ob (vPick t32 t42 (.bool false)) fun t44=>
 kOR (rG t44 true h43 (ob (vLoad y 25 t4 h43) fun g45=>some (g45,h43))) fun t46 h47=>
 kOR (rG t44 true h47 (some (t12,h47))) fun t48 h49=>
 kOR (rG t44 true h49 (kOR (c 17 [t46,t48] h49) orK)) fun t50 h51=>
 kOR (rG t44 true h51 (ob (vBin y .eql 26 t50 (.int .u32 (.ofNat 2))) fun g52=>some (g52,h51))) fun t53 h54=>
 ob (vPick t44 t53 (.bool false)) fun t55=>
 kOR (rG t55 true h54 (ob (vField y 58 0 t28) fun g56=>some (g56,h54))) fun t57 h58=>
 kOR (rG t55 true h58 (ob (vLoad y 51 t57 h58) fun g59=>some (g59,h58))) fun t60 h61=>
 kOR (rG t55 true h61 (ob (vLen y 51 t60) fun g62=>some (g62,h61))) fun t63 h64=>
 kOR (rG t55 true h64 (ob (vBin y .eql 3 t63 (i 5)) fun g65=>some (g65,h64))) fun t66 h67=>
 ob (vPick t55 t66 (.bool false)) fun t68=>
 kOR (rG t68 true h67 (ob (vField y 58 2 t28) fun g69=>some (g69,h67))) fun t70 h71=>
 kOR (rG t68 true h71 (ob (vLoad y 30 t70 h71) fun g72=>some (g72,h71))) fun t73 h74=>
 kOR (rG t68 true h74 (ob (vIndex y 30 t73 (i 0)) fun g75=>some (g75,h74))) fun t76 h77=>
 kOR (rG t68 true h77 (ob (vLoad y 22 t76 h77) fun g78=>some (g78,h77))) fun t79 h80=>
 kOR (rG t68 true h80 (kOR (vBuildS y 22 6 [(0,(i 0)),(1,(.int .i64 (.negSucc 0))),(2,(i 0)),(3,(i 1)),(4,(i 0)),(5,(i 0))] h80) orK)) fun t81 h82=>
 kOR (rG t68 true h82 (kOR (c 39 [t79,t81] h82) orK)) fun t83 h84=>
 ob (vPick t68 t83 (.bool false)) fun t85=>
 kOR (rG t85 true h84 (ob (vField y 58 2 t28) fun g86=>some (g86,h84))) fun t87 h88=>
 kOR (rG t85 true h88 (ob (vLoad y 30 t87 h88) fun g89=>some (g89,h88))) fun t90 h91=>
 kOR (rG t85 true h91 (ob (vIndex y 30 t90 (i 1)) fun g92=>some (g92,h91))) fun t93 h94=>
 kOR (rG t85 true h94 (ob (vLoad y 22 t93 h94) fun g95=>some (g95,h94))) fun t96 h97=>
 kOR (rG t85 true h97 (kOR (vBuildS y 22 6 [(0,(i 1)),(1,(i 0)),(2,(i 0)),(3,(i 1)),(4,(i 0)),(5,(i 0))] h97) orK)) fun t98 h99=>
 kOR (rG t85 true h99 (kOR (c 39 [t96,t98] h99) orK)) fun t100 h101=>
 ob (vPick t85 t100 (.bool false)) fun t102=>
 oR [t102] h101)
def B11 (c:CH) (ql:QH) (us:List GV) (H:GH):RS:=U1 us fun x1=>
 kOR (vBox x1 H) fun t2 h3=>
 ld 25 t2 h3 fun t4=>
 K c 40 [t4] h3 fun t5 h6=>
 oR [t5] h6
def B17 (c:CH) (ql:QH) (us:List GV) (H:GH):RS:=U2 us fun x1 x2=>
 kOR (vBox x1 H) fun t3 h4=>
 ld 25 t3 h4 fun t5=>
 K c 42 [t5,x2] h4 fun t6 h7=>
 ob (vUn .not t6) fun t8=>
 ob (GV.asB t8) fun q9=>jn (bC q9 (oN [x2] h7) (oR [(.int .u32 (.ofNat 0))] h7)) fun vs10 h11=>U1 vs10 fun a12=>ln 30 a12 fun t13=>
 jn (nB 0 (ql 0 [(.int .u32 (.ofNat 0)),a12,t13,(i 0)] h11)) fun vs14 h15=>U1 vs14 fun a16=>oR [a16] h15
def L0 (c:CH) (ql:QH) (us:List GV) (H:GH):RS:=U4 us fun a17 a18 a19 a20=>jn (bn .lss 3 a20 a19 fun t21=>
 ob (GV.asB t21) fun q22=>jn (bC q22 (oX 0 [a17] H) (oN [a17,a18,a19,a20] H)) fun vs23 h24=>U4 vs23 fun a25 a26 a27 a28=>jn (nB 1 (ix 30 a26 a28 fun t29=>
 ld 22 t29 h24 fun t30=>
 ix 22 t30 (i 5) fun t31=>
 ld 3 t31 h24 fun t32=>
 ob (vConv y 3 26 t32) fun t33=>
 bn .shl 26 t33 a28 fun t34=>
 bn .or 26 a25 t34 fun t35=>
 oN [t35,a26,a27,a28] h24)) fun vs36 h37=>U4 vs36 fun a38 a39 a40 a41=>bn .add 3 a41 (i 1) fun t42=>
 oN [a38,a39,a40,t42] h37) (ql 0)
def B30 (c:CH) (ql:QH) (us:List GV) (H:GH):RS:=U1 us fun x1=>
 kOR (vAlloc y 48 H) fun t2 h3=>
 K c 67 [x1] h3 fun t4 h5=>
 ex 0 t4 fun t6=>
 ex 1 t4 fun t7=>
 ex 2 t4 fun t8=>
 kOR (vAlloc y 48 h5) fun t9 h10=>
 kOR (vStore y 48 t9 t6 h10) fun t11 h12=>
 ld 48 t9 h12 fun t13=>
 kOR (vStore y 48 t2 t13 h12) fun t14 h15=>
 ob (ob (vLoad y 48 t2 h15) fun r16=>some [r16]) fun vs17=>oR vs17 h15
def B37 (c:CH) (ql:QH) (us:List GV) (H:GH):RS:=U5 us fun x1 x2 x3 x4 x5=>
 kOR (vBox x1 H) fun t6 h7=>
 kOR (vBox x2 h7) fun t8 h9=>
 kOR (vAlloc y 58 h9) fun t10 h11=>
 ld 48 t6 h11 fun t12=>
 ld 25 t8 h11 fun t13=>
 ln 51 x5 fun t14=>
 K c 75 [t12,t13,x3,x4,t14] h11 fun t15 h16=>
 bn .neq 42 t15 (i 0) fun t17=>
 ob (GV.asB t17) fun q18=>jn (bC q18 (oN [x3,x4,x5,t6,t8,t10] h16) (bd 58 [] fun t19=>
 kOR (vStore y 58 t10 t19 h16) fun t20 h21=>
 ob (ob (vLoad y 58 t10 h21) fun r22=>some [r22,t15]) fun vs23=>oR vs23 h21)) fun vs24 h25=>U6 vs24 fun a26 a27 a28 a29 a30 a31=>ld 48 a29 h25 fun t32=>
 ld 25 a30 h25 fun t33=>
 K c 76 [t32,t33,a26,(.fn 77 [] [])] h25 fun t34 h35=>
 K c 78 [t34,a27,a28] h35 fun t36 h37=>
 ex 0 t36 fun t38=>
 ex 1 t36 fun t39=>
 kOR (vStore y 58 a31 t38 h37) fun t40 h41=>
 ob (ob (vLoad y 58 a31 h41) fun r42=>some [r42,t39]) fun vs43=>oR vs43 h41
def B38 (c:CH) (ql:QH) (us:List GV) (H:GH):RS:=U0 us (oR [(.str 62612022078668281795505554093363622559854195865949253215105900396045672359969877880166549174032343132993734957765569202214538907514566311350427701009544032694847337705793280154083690688451269616688782133795410379376928705130345296445151552924450334836917827234573469831105668184247309683323748037249326305257450566500613104582596739355858495108587194514699348039550352061107652063950585699432193800786308390540153052463342825471615451497403378237530695269756800903089344746135921082798862585170912282432061314226997690214573863871773160495090950365393003392302336199511227963345777762340303723847551010267882950244475187531638497589816884840746003832656122559568072415127281877587919955134951848720898362784721630179183632514071187737718801766045181382178059597531935953865739058317213402067112106178269539818406468794623567714368406699984352401615611648009540554670638379077003046691601651659503488023036016650041344236444492625067110609540290467946795853434537583557082408411183186533670519462632865144031819183310381452310956185194634675703732849182713820334837695243446565596654286740386031565011357996399800921820918955437335624617843094112596863701508946442457135114386851122925397296113071978999231011209672540734656076492347048890983156526043032785285927167596865683405763291449118335047510792439178363711784660496025932951555546329846668545661249500619781993860494368395467151808107769959479474456951167188694307489519361853029722953071634727739222067984252267479508130870821814111526873691367656719627636282162632229619012164283959600299915921951610829461135327475232013270964287406921117221047932843602716792612622967992944 679)] H)
def B39 (c:CH) (ql:QH) (us:List GV) (H:GH):RS:=U2 us fun x1 x2=>
 ln 22 x1 fun t3=>
 ln 22 x2 fun t4=>
 bn .neq 3 t3 t4 fun t5=>
 ob (GV.asB t5) fun q6=>jn (bC q6 (oN [x1,x2] H) (oR [(.bool false)] H)) fun vs7 h8=>U2 vs7 fun a9 a10=>jn (nB 0 (ql 1 [a9,a10,(i 0)] h8)) fun vs11 h12=>U0 vs11 (oR [(.bool true)] h12)
def L1 (c:CH) (ql:QH) (us:List GV) (H:GH):RS:=U3 us fun a13 a14 a15=>jn (ln 22 a13 fun t16=>
 bn .lss 3 a15 t16 fun t17=>
 ob (GV.asB t17) fun q18=>jn (bC q18 (oX 0 [] H) (oN [a13,a14,a15] H)) fun vs19 h20=>U3 vs19 fun a21 a22 a23=>jn (nB 1 (ix 22 a21 a23 fun t24=>
 ld 3 t24 h20 fun t25=>
 ix 22 a22 a23 fun t26=>
 ld 3 t26 h20 fun t27=>
 bn .neq 3 t25 t27 fun t28=>
 ob (GV.asB t28) fun q29=>jn (bC q29 (oN [a21,a22,a23] h20) (oR [(.bool false)] h20)) fun vs30 h31=>U3 vs30 fun a32 a33 a34=>oN [a32,a33,a34] h31)) fun vs35 h36=>U3 vs35 fun a37 a38 a39=>bn .add 3 a39 (i 1) fun t40=>
 oN [a37,a38,t40] h36) (ql 1)
def B40 (c:CH) (ql:QH) (us:List GV) (H:GH):RS:=U1 us fun x1=>
 kOR (vBox x1 H) fun t2 h3=>
 ld 25 t2 h3 fun t4=>
 K c 32 [t4] h3 fun t5 h6=>
 ob (vUn .not t5) fun t7=>
 ob (GV.asB t7) fun q8=>jn (bC q8 (oN [t2] h6) (oR [(.bool false)] h6)) fun vs9 h10=>U1 vs9 fun a11=>ld 25 a11 h10 fun t12=>
 K c 79 [t12,(i 0)] h10 fun t13 h14=>
 ln 22 t13 fun t15=>
 jn (nB 0 (ql 2 [t13,t15,(i 0)] h14)) fun vs16 h17=>U0 vs16 (oR [(.bool true)] h17)
def L2 (c:CH) (ql:QH) (us:List GV) (H:GH):RS:=U3 us fun a18 a19 a20=>jn (bn .lss 3 a20 a19 fun t21=>
 ob (GV.asB t21) fun q22=>jn (bC q22 (oX 0 [] H) (oN [a18,a19,a20] H)) fun vs23 h24=>U3 vs23 fun a25 a26 a27=>jn (nB 1 (ix 22 a25 a27 fun t28=>
 ld 3 t28 h24 fun t29=>
 bn .lss 3 t29 (i 0) fun t30=>
 ob (GV.asB t30) fun q31=>jn (bC q31 (oN [a25,a26,a27] h24) (oR [(.bool false)] h24)) fun vs32 h33=>U3 vs32 fun a34 a35 a36=>oN [a34,a35,a36] h33)) fun vs37 h38=>U3 vs37 fun a39 a40 a41=>bn .add 3 a41 (i 1) fun t42=>
 oN [a39,a40,t42] h38) (ql 2)
def B42 (c:CH) (ql:QH) (us:List GV) (H:GH):RS:=U2 us fun x1 x2=>
 kOR (vBox x1 H) fun t3 h4=>
 ld 25 t3 h4 fun t5=>
 K c 11 [t5] h4 fun t6 h7=>
 kOR (rG t6 true h7 (ob (vLoad y 25 t3 h7) fun g8=>some (g8,h7))) fun t9 h10=>
 kOR (rG t6 true h10 (some (x2,h10))) fun t11 h12=>
 kOR (rG t6 true h12 (ob (vField y 25 0 t3) fun g13=>some (g13,h12))) fun t14 h15=>
 kOR (rG t6 true h15 (ob (vLoad y 22 t14 h15) fun g16=>some (g16,h15))) fun t17 h18=>
 kOR (rG t6 true h18 (ob (vLen y 22 t17) fun g19=>some (g19,h18))) fun t20 h21=>
 kOR (rG t6 true h21 (kOR (vBuildS y 22 6 [(0,t20),(1,(.int .i64 (.negSucc 0))),(2,(i 1)),(3,(i 1)),(4,(i 3)),(5,(i 1))] h21) orK)) fun t22 h23=>
 kOR (rG t6 true h23 (kOR (c 82 [t9,t11,t22] h23) orK)) fun t24 h25=>
 ob (vPick t6 t24 (.bool false)) fun t26=>
 oR [t26] h25
def B67 (c:CH) (ql:QH) (us:List GV) (H:GH):RS:=U1 us fun x1=>
 kOR (vAlloc y 48 H) fun t2 h3=>
 K c 94 [x1] h3 fun t4 h5=>
 ex 0 t4 fun t6=>
 ex 1 t4 fun t7=>
 ex 2 t4 fun t8=>
 bn .neq 42 t8 (i 0) fun t9=>
 ob (GV.asB t9) fun q10=>jn (bC q10 (oN [x1,t2,t6] h5) (bd 48 [] fun t11=>
 kOR (vStore y 48 t2 t11 h5) fun t12 h13=>
 ob (ob (vLoad y 48 t2 h13) fun r14=>some [r14,t7,t8]) fun vs15=>oR vs15 h13)) fun vs16 h17=>U3 vs16 fun a18 a19 a20=>bd 115 [(0,a18),(1,a20)] fun t21=>
 bd 117 [(0,t21)] fun t22=>
 kOR (vBox t22 h17) fun t23 h24=>
 K c 95 [(.fn 96 [t23] [])] h24 fun t25 h26=>
 ex 0 t25 fun t27=>
 ex 1 t25 fun t28=>
 bn .neq 42 t28 (i 0) fun t29=>
 ob (GV.asB t29) fun q30=>jn (bC q30 (oN [a19,t23] h26) (bd 48 [] fun t31=>
 kOR (vStore y 48 a19 t31 h26) fun t32 h33=>
 ob (ob (vLoad y 48 a19 h33) fun r34=>some [r34,t27,t28]) fun vs35=>oR vs35 h33)) fun vs36 h37=>U2 vs36 fun a38 a39=>ob (GV.nilck a39) fun t40=>
 fd 117 1 t40 fun t41=>
 fd 48 1 t41 fun t42=>
 ld 45 t42 h37 fun t43=>
 ln 45 t43 fun t44=>
 bn .eql 3 t44 (i 0) fun t45=>
 ob (GV.asB t45) fun q46=>jn (bC q46 (oN [a38,a39] h37) (bd 48 [] fun t47=>
 kOR (vStore y 48 a38 t47 h37) fun t48 h49=>
 ob (ob (vLoad y 48 a38 h49) fun r50=>some [r50,(i 0),(i 3)]) fun vs51=>oR vs51 h49)) fun vs52 h53=>U2 vs52 fun a54 a55=>ob (GV.nilck a55) fun t56=>
 fd 117 1 t56 fun t57=>
 ld 48 t57 h53 fun t58=>
 K c 97 [t58] h53 fun t59 h60=>
 bn .neq 42 t59 (i 0) fun t61=>
 ob (GV.asB t61) fun q62=>jn (bC q62 (oN [a54,a55] h60) (bd 48 [] fun t63=>
 kOR (vStore y 48 a54 t63 h60) fun t64 h65=>
 ob (ob (vLoad y 48 a54 h65) fun r66=>some [r66,(i 0),t59]) fun vs67=>oR vs67 h65)) fun vs68 h69=>U2 vs68 fun a70 a71=>ob (GV.nilck a71) fun t72=>
 fd 117 1 t72 fun t73=>
 ld 48 t73 h69 fun t74=>
 kOR (vStore y 48 a70 t74 h69) fun t75 h76=>
 ob (ob (vLoad y 48 a70 h76) fun r77=>some [r77,(i 0),(i 0)]) fun vs78=>oR vs78 h76
def B75 (c:CH) (ql:QH) (us:List GV) (H:GH):RS:=U5 us fun x1 x2 x3 x4 x5=>
 kOR (vBox x1 H) fun t6 h7=>
 kOR (vBox x2 h7) fun t8 h9=>
 ld 48 t6 h9 fun t10=>
 ld 25 t8 h9 fun t11=>
 K c 98 [t10,t11,x4] h9 fun t12 h13=>
 bn .neq 42 t12 (i 0) fun t14=>
 ob (GV.asB t14) fun q15=>jn (bC q15 (oN [x3,x5] h13) (oR [t12] h13)) fun vs16 h17=>U2 vs16 fun a18 a19=>K c 99 [a18] h17 fun t20 h21=>
 ob (vUn .not t20) fun t22=>
 ob (GV.asB t22) fun q23=>jn (bC q23 (oN [a19] h21) (oR [(i 12)] h21)) fun vs24 h25=>U1 vs24 fun a26=>bn .gtr 3 a26 (i 4096) fun t27=>
 ob (GV.asB t27) fun q28=>jn (bC q28 (oN [] h25) (oR [(i 3)] h25)) fun vs29 h30=>U0 vs29 (oR [(i 0)] h30)
def B76 (c:CH) (ql:QH) (us:List GV) (H:GH):RS:=U4 us fun x1 x2 x3 x4=>
 kOR (vBox x1 H) fun t5 h6=>
 kOR (vBox x2 h6) fun t7 h8=>
 kOR (vAlloc y 96 h8) fun t9 h10=>
 ld 48 t5 h10 fun t11=>
 ob (Option.casesOn (motive:=fun _=>Option (Option (Nat×Nat))) (ob (GV.asP t5) fun p=>some p.1) (some none) fun k13=>ob (GH.ver h10 k13) fun k14=>some (some (k13,k14))) fun e12=>
 ld 25 t7 h10 fun t15=>
 ob (Option.casesOn (motive:=fun _=>Option (Option (Nat×Nat))) (ob (GV.asP t7) fun p=>some p.1) (some none) fun k17=>ob (GH.ver h10 k17) fun k18=>some (some (k17,k18))) fun e16=>
 K c 100 [t11,t15] h10 fun t19 h20=>
 ob (some ()) fun _=>
 ld 25 t7 h20 fun t21=>
 ob (Option.casesOn (motive:=fun _=>Option (Option (Nat×Nat))) (ob (GV.asP t7) fun p=>some p.1) (some none) fun k23=>ob (GH.ver h20 k23) fun k24=>vck h10 k23 k24 (some (some (k23,k24)))) fun e22=>
 K c 101 [t21] h20 fun t25 h26=>
 ob (some ()) fun _=>
 ld 25 t7 h26 fun t27=>
 ob (Option.casesOn (motive:=fun _=>Option (Option (Nat×Nat))) (ob (GV.asP t7) fun p=>some p.1) (some none) fun k29=>ob (GH.ver h26 k29) fun k30=>vck h20 k29 k30 (vck h10 k29 k30 (some (some (k29,k30))))) fun e28=>
 K c 102 [t27] h26 fun t31 h32=>
 ob (some ()) fun _=>
 bd 96 [(0,t19),(1,t25),(2,x3),(3,t31),(4,x4)] fun t33=>
 kOR (vStore y 96 t9 t33 h32) fun t34 h35=>
 ob (some ()) fun _=>
 ob (ob (vLoad y 96 t9 h35) fun r36=>some [r36]) fun vs37=>oR vs37 h35
def B77 (c:CH) (ql:QH) (us:List GV) (H:GH):RS:=U3 us fun x1 x2 x3=>
 kOR (vBox x3 H) fun t4 h5=>
 oR [] h5
def B78 (c:CH) (ql:QH) (us:List GV) (H:GH):RS:=U3 us fun x1 x2 x3=>
 kOR (vBox x1 H) fun t4 h5=>
 kOR (vBox x3 h5) fun t6 h7=>
 kOR (vAlloc y 58 h7) fun t8 h9=>
 ld 96 t4 h9 fun t10=>
 ld 51 t6 h9 fun t11=>
 ln 51 t11 fun t12=>
 K c 103 [t10,x2,t12,(.fn 104 [] [t4,t6])] h9 fun t13 h14=>
 ex 0 t13 fun t15=>
 ex 1 t13 fun t16=>
 kOR (vStore y 58 t8 t15 h14) fun t17 h18=>
 ob (ob (vLoad y 58 t8 h18) fun r19=>some [r19,t16]) fun vs20=>oR vs20 h18
def B79 (c:CH) (ql:QH) (us:List GV) (H:GH):RS:=U2 us fun x1 x2=>
 kOR (vBox x1 H) fun t3 h4=>
 fd 25 1 t3 fun t5=>
 ld 23 t5 h4 fun t6=>
 ln 23 t6 fun t7=>
 kOR (vMake y 22 t7 t7 h4) fun t8 h9=>
 ln 22 t8 fun t10=>
 jn (nB 0 (ql 3 [x2,t3,t8,t10,(i 0)] h9)) fun vs11 h12=>U3 vs11 fun a13 a14 a15=>ix 22 a15 a13 fun t16=>
 kOR (vStore y 3 t16 (i 0) h12) fun t17 h18=>
 kOR (vBuildS y 22 1 [(0,a13)] h18) fun t19 h20=>
 jn (nB 2 (ql 4 [a14,a15,t19] h20)) fun vs21 h22=>U1 vs21 fun a23=>oR [a23] h22
def L3 (c:CH) (ql:QH) (us:List GV) (H:GH):RS:=U5 us fun a24 a25 a26 a27 a28=>jn (bn .lss 3 a28 a27 fun t29=>
 ob (GV.asB t29) fun q30=>jn (bC q30 (oX 0 [a24,a25,a26] H) (oN [a24,a25,a26,a27,a28] H)) fun vs31 h32=>U5 vs31 fun a33 a34 a35 a36 a37=>jn (nB 1 (ix 22 a35 a37 fun t38=>
 kOR (vStore y 3 t38 (.int .i64 (.negSucc 0)) h32) fun t39 h40=>
 oN [a33,a34,a35,a36,a37] h40)) fun vs41 h42=>U5 vs41 fun a43 a44 a45 a46 a47=>bn .add 3 a47 (i 1) fun t48=>
 oN [a43,a44,a45,a46,t48] h42) (ql 3)
def L4 (c:CH) (ql:QH) (us:List GV) (H:GH):RS:=U3 us fun a49 a50 a51=>jn (ln 22 a51 fun t52=>
 bn .gtr 3 t52 (i 0) fun t53=>
 ob (GV.asB t53) fun q54=>jn (bC q54 (oX 2 [a50] H) (oN [a49,a50,a51] H)) fun vs55 h56=>U3 vs55 fun a57 a58 a59=>jn (nB 3 (ix 22 a59 (i 0) fun t60=>
 ld 3 t60 h56 fun t61=>
 ob (vSlice y 22 a59 (some (i 1)) none h56) fun t62=>
 fd 25 1 a57 fun t63=>
 ld 23 t63 h56 fun t64=>
 ix 23 t64 t61 fun t65=>
 ld 84 t65 h56 fun t66=>
 ln 84 t66 fun t67=>
 jn (nB 4 (ql 5 [a57,a58,t62,t61,t66,t67,(i 0)] h56)) fun vs68 h69=>U3 vs68 fun a70 a71 a72=>oN [a70,a71,a72] h69)) fun vs73 h74=>U3 vs73 fun a75 a76 a77=>oN [a75,a76,a77] h74) (ql 4)
def L5 (c:CH) (ql:QH) (us:List GV) (H:GH):RS:=U7 us fun a78 a79 a80 a81 a82 a83 a84=>jn (bn .lss 3 a84 a83 fun t85=>
 ob (GV.asB t85) fun q86=>jn (bC q86 (oX 4 [a78,a79,a80] H) (oN [a78,a79,a80,a81,a82,a83,a84] H)) fun vs87 h88=>U7 vs87 fun a89 a90 a91 a92 a93 a94 a95=>jn (nB 5 (ix 84 a93 a95 fun t96=>
 ld 87 t96 h88 fun t97=>
 kOR (vAlloc y 87 h88) fun t98 h99=>
 kOR (vStore y 87 t98 t97 h99) fun t100 h101=>
 fd 87 0 t98 fun t102=>
 ld 3 t102 h101 fun t103=>
 ix 22 a90 t103 fun t104=>
 ld 3 t104 h101 fun t105=>
 bn .lss 3 t105 (i 0) fun t106=>
 ob (GV.asB t106) fun q107=>jn (bC q107 (oN [a89,a90,a91,a92,a93,a94,a95] h101) (fd 87 0 t98 fun t108=>
 ld 3 t108 h101 fun t109=>
 ix 22 a90 a92 fun t110=>
 ld 3 t110 h101 fun t111=>
 bn .add 3 t111 (i 1) fun t112=>
 ix 22 a90 t109 fun t113=>
 kOR (vStore y 3 t113 t112 h101) fun t114 h115=>
 fd 87 0 t98 fun t116=>
 ld 3 t116 h115 fun t117=>
 kOR (vBuildS y 22 1 [(0,t117)] h115) fun t118 h119=>
 kOR (vApp y 22 22 a91 t118 h119) fun t120 h121=>
 oN [a89,a90,t120,a92,a93,a94,a95] h121)) fun vs122 h123=>U7 vs122 fun a124 a125 a126 a127 a128 a129 a130=>oN [a124,a125,a126,a127,a128,a129,a130] h123)) fun vs131 h132=>U7 vs131 fun a133 a134 a135 a136 a137 a138 a139=>bn .add 3 a139 (i 1) fun t140=>
 oN [a133,a134,a135,a136,a137,a138,t140] h132) (ql 5)
def B82 (c:CH) (ql:QH) (us:List GV) (H:GH):RS:=U3 us fun x1 x2 x3=>
 kOR (vBox x1 H) fun t4 h5=>
 ln 30 x2 fun t6=>
 fd 25 0 t4 fun t7=>
 ld 22 t7 h5 fun t8=>
 ln 22 t8 fun t9=>
 bn .neq 3 t6 t9 fun t10=>
 ob (GV.asB t10) fun q11=>jn (bC q11 (oN [x2,x3,t4] h5) (oR [(.bool false)] h5)) fun vs12 h13=>U3 vs12 fun a14 a15 a16=>ln 30 a14 fun t17=>
 jn (nB 0 (ql 6 [a15,a16,a14,t17,(i 0)] h13)) fun vs18 h19=>U0 vs18 (oR [(.bool true)] h19)
def L6 (c:CH) (ql:QH) (us:List GV) (H:GH):RS:=U5 us fun a20 a21 a22 a23 a24=>jn (bn .lss 3 a24 a23 fun t25=>
 ob (GV.asB t25) fun q26=>jn (bC q26 (oX 0 [] H) (oN [a20,a21,a22,a23,a24] H)) fun vs27 h28=>U5 vs27 fun a29 a30 a31 a32 a33=>jn (nB 1 (ix 30 a31 a33 fun t34=>
 ld 22 t34 h28 fun t35=>
 ln 22 t35 fun t36=>
 ln 22 a29 fun t37=>
 bn .neq 3 t36 t37 fun t38=>
 ob (GV.asB t38) fun q39=>jn (bC q39 (oN [a29,a30,a33,t35,a31,a32,a33] h28) (oR [(.bool false)] h28)) fun vs40 h41=>U7 vs40 fun a42 a43 a44 a45 a46 a47 a48=>ln 22 a45 fun t49=>
 jn (nB 2 (ql 7 [a42,a43,a44,a46,a47,a48,a45,t49,(i 0)] h41)) fun vs50 h51=>U5 vs50 fun a52 a53 a54 a55 a56=>oN [a52,a53,a54,a55,a56] h51)) fun vs57 h58=>U5 vs57 fun a59 a60 a61 a62 a63=>bn .add 3 a63 (i 1) fun t64=>
 oN [a59,a60,a61,a62,t64] h58) (ql 6)
def L7 (c:CH) (ql:QH) (us:List GV) (H:GH):RS:=U9 us fun a65 a66 a67 a68 a69 a70 a71 a72 a73=>jn (bn .lss 3 a73 a72 fun t74=>
 ob (GV.asB t74) fun q75=>jn (bC q75 (oX 2 [a65,a66,a68,a69,a70] H) (oN [a65,a66,a67,a68,a69,a70,a71,a72,a73] H)) fun vs76 h77=>U9 vs76 fun a78 a79 a80 a81 a82 a83 a84 a85 a86=>jn (nB 3 (ix 22 a84 a86 fun t87=>
 ld 3 t87 h77 fun t88=>
 ix 22 a78 a86 fun t89=>
 ld 3 t89 h77 fun t90=>
 bn .eql 3 t90 (.int .i64 (.negSucc 0)) fun t91=>
 ob (GV.asB t91) fun q92=>jn (bC q92 (oN [a78,a79,a80,t88,(i 0),t90,a81,a82,a83,a84,a85,a86] h77) (fd 25 1 a79 fun t93=>
 ld 23 t93 h77 fun t94=>
 ix 23 t94 a80 fun t95=>
 ld 84 t95 h77 fun t96=>
 ln 84 t96 fun t97=>
 bn .sub 3 t97 (i 1) fun t98=>
 oN [a78,a79,a80,t88,(.int .i64 (.negSucc 0)),t98,a81,a82,a83,a84,a85,a86] h77)) fun vs99 h100=>U12 vs99 fun a101 a102 a103 a104 a105 a106 a107 a108 a109 a110 a111 a112=>bn .lss 3 a104 a105 fun t113=>
 kOR (rG t113 false h100 (some (a104,h100))) fun t114 h115=>
 kOR (rG t113 false h115 (some (a106,h115))) fun t116 h117=>
 kOR (rG t113 false h117 (ob (vBin y .gtr 3 t114 t116) fun g118=>some (g118,h117))) fun t119 h120=>
 ob (vPick t113 (.bool true) t119) fun t121=>
 ob (GV.asB t121) fun q122=>jn (bC q122 (oN [a101,a102,a103,a107,a108,a109,a110,a111,a112] h120) (oR [(.bool false)] h120)) fun vs123 h124=>U9 vs123 fun a125 a126 a127 a128 a129 a130 a131 a132 a133=>oN [a125,a126,a127,a128,a129,a130,a131,a132,a133] h124)) fun vs134 h135=>U9 vs134 fun a136 a137 a138 a139 a140 a141 a142 a143 a144=>bn .add 3 a144 (i 1) fun t145=>
 oN [a136,a137,a138,a139,a140,a141,a142,a143,t145] h135) (ql 7)
def B94 (c:CH) (ql:QH) (us:List GV) (H:GH):RS:=U1 us fun x1=>
 ln 9 x1 fun t2=>
 bn .gtr 3 t2 (i 16384) fun t3=>
 ob (GV.asB t3) fun q4=>jn (bC q4 (oN [x1] H) (oR [.snil,(i 0),(i 3)] H)) fun vs5 h6=>U1 vs5 fun a7=>K c 112 [a7,(i 0)] h6 fun t8 h9=>
 jn (nB 0 (ql 8 [a7,.snil,t8] h9)) fun vs10 h11=>U1 vs10 fun a12=>oR [a12,(i 0),(i 0)] h11
def L8 (c:CH) (ql:QH) (us:List GV) (H:GH):RS:=U3 us fun a13 a14 a15=>jn (ln 9 a13 fun t16=>
 bn .lss 3 a15 t16 fun t17=>
 ob (GV.asB t17) fun q18=>jn (bC q18 (oX 0 [a14] H) (oN [a13,a14,a15] H)) fun vs19 h20=>U3 vs19 fun a21 a22 a23=>jn (nB 1 (ln 109 a22 fun t24=>
 bn .eql 3 t24 (i 4096) fun t25=>
 ob (GV.asB t25) fun q26=>jn (bC q26 (oN [a21,a22,a23] h20) (oR [.snil,a23,(i 3)] h20)) fun vs27 h28=>U3 vs27 fun a29 a30 a31=>K c 113 [a29,a31] h28 fun t32 h33=>
 ex 0 t32 fun t34=>
 ex 1 t32 fun t35=>
 kOR (vAlloc y 136 h33) fun t36 h37=>
 kOR (vStore y 136 t36 t34 h37) fun t38 h39=>
 bn .neq 42 t35 (i 0) fun t40=>
 ob (GV.asB t40) fun q41=>jn (bC q41 (oN [a29,a30,t36] h39) (oR [.snil,a31,t35] h39)) fun vs42 h43=>U3 vs42 fun a44 a45 a46=>ld 136 a46 h43 fun t47=>
 kOR (vBuildS y 109 1 [(0,t47)] h43) fun t48 h49=>
 kOR (vApp y 109 109 a45 t48 h49) fun t50 h51=>
 fd 136 2 a46 fun t52=>
 ld 3 t52 h51 fun t53=>
 K c 112 [a44,t53] h51 fun t54 h55=>
 oN [a44,t50,t54] h55)) fun vs56 h57=>U3 vs56 fun a58 a59 a60=>oN [a58,a59,a60] h57) (ql 8)
def B96 (c:CH) (ql:QH) (us:List GV) (H:GH):RS:=U1 us fun x1=>
 ob (GV.nilck x1) fun t2=>
 fd 117 0 t2 fun t3=>
 K c 116 [t3,(.str 30787916450984560 7)] H fun t4 h5=>
 K c 117 [x1,.snil] h5 fun t6 h7=>
 ob (GV.nilck x1) fun t8=>
 fd 117 1 t8 fun t9=>
 fd 48 0 t9 fun t10=>
 kOR (vStore y 9 t10 t6 h7) fun t11 h12=>
 ob (GV.nilck x1) fun t13=>
 fd 117 0 t13 fun t14=>
 K c 116 [t14,(.str 59 1)] h12 fun t15 h16=>
 K c 118 [x1,(.str 7496054 3),(i 6),(.fn 119 [x1] [])] h16 fun t17 h18=>
 K c 118 [x1,(.str 1701606770 4),(i 12),(.fn 120 [x1] [])] h18 fun t19 h20=>
 ob (GV.nilck x1) fun t21=>
 fd 117 0 t21 fun t22=>
 K c 121 [t22] h20 fun t23 h24=>
 ob (vUn .not t23) fun t25=>
 ob (GV.asB t25) fun q26=>jn (bC q26 (oN [] h24) (ob (GV.nilck x1) fun t27=>
 fd 117 0 t27 fun t28=>
 K c 122 [t28,(i 4)] h24 fun t29 h30=>
 oN [] h30)) fun vs31 h32=>U0 vs31 (oR [] h32)
def B97 (c:CH) (ql:QH) (us:List GV) (H:GH):RS:=U1 us fun x1=>
 kOR (vBox x1 H) fun t2 h3=>
 fd 48 1 t2 fun t4=>
 ld 45 t4 h3 fun t5=>
 ln 45 t5 fun t6=>
 bn .eql 3 t6 (i 0) fun t7=>
 kOR (rG t7 false h3 (ob (vField y 48 1 t2) fun g8=>some (g8,h3))) fun t9 h10=>
 kOR (rG t7 false h10 (ob (vLoad y 45 t9 h10) fun g11=>some (g11,h10))) fun t12 h13=>
 kOR (rG t7 false h13 (ob (vLen y 45 t12) fun g14=>some (g14,h13))) fun t15 h16=>
 kOR (rG t7 false h16 (ob (vBin y .gtr 3 t15 (i 6)) fun g17=>some (g17,h16))) fun t18 h19=>
 ob (vPick t7 (.bool true) t18) fun t20=>
 kOR (rG t20 false h19 (ob (vField y 48 2 t2) fun g21=>some (g21,h19))) fun t22 h23=>
 kOR (rG t20 false h23 (ob (vLoad y 46 t22 h23) fun g24=>some (g24,h23))) fun t25 h26=>
 kOR (rG t20 false h26 (ob (vLen y 46 t25) fun g27=>some (g27,h26))) fun t28 h29=>
 kOR (rG t20 false h29 (ob (vBin y .gtr 3 t28 (i 12)) fun g30=>some (g30,h29))) fun t31 h32=>
 ob (vPick t20 (.bool true) t31) fun t33=>
 ob (GV.asB t33) fun q34=>jn (bC q34 (oN [t2] h32) (oR [(i 3)] h32)) fun vs35 h36=>U1 vs35 fun a37=>ld 48 a37 h36 fun t38=>
 K c 123 [t38] h36 fun t39 h40=>
 ob (vUn .not t39) fun t41=>
 ob (GV.asB t41) fun q42=>jn (bC q42 (oN [a37] h40) (oR [(i 5)] h40)) fun vs43 h44=>U1 vs43 fun a45=>fd 48 1 a45 fun t46=>
 ld 45 t46 h44 fun t47=>
 ln 45 t47 fun t48=>
 jn (nB 0 (ql 9 [a45,t47,t48,(i 0)] h44)) fun vs49 h50=>U1 vs49 fun a51=>fd 48 2 a51 fun t52=>
 ld 46 t52 h50 fun t53=>
 ln 46 t53 fun t54=>
 jn (nB 2 (ql 10 [a51,t53,t54,(i 0)] h50)) fun vs55 h56=>U1 vs55 fun a57=>ld 48 a57 h56 fun t58=>
 K c 126 [t58] h56 fun t59 h60=>
 fd 48 2 a57 fun t61=>
 ld 46 t61 h60 fun t62=>
 ln 46 t62 fun t63=>
 jn (nB 4 (ql 11 [t59,t62,t63,(i 0)] h60)) fun vs64 h65=>U0 vs64 (oR [(i 0)] h65)
def L9 (c:CH) (ql:QH) (us:List GV) (H:GH):RS:=U4 us fun a66 a67 a68 a69=>jn (bn .lss 3 a69 a68 fun t70=>
 ob (GV.asB t70) fun q71=>jn (bC q71 (oX 0 [a66] H) (oN [a66,a67,a68,a69] H)) fun vs72 h73=>U4 vs72 fun a74 a75 a76 a77=>jn (nB 1 (ix 45 a75 a77 fun t78=>
 ld 103 t78 h73 fun t79=>
 kOR (vAlloc y 103 h73) fun t80 h81=>
 kOR (vStore y 103 t80 t79 h81) fun t82 h83=>
 ld 103 t80 h83 fun t84=>
 K c 124 [t84] h83 fun t85 h86=>
 ob (vUn .not t85) fun t87=>
 ob (GV.asB t87) fun q88=>jn (bC q88 (oN [a74,a75,a76,a77] h86) (oR [(i 2)] h86)) fun vs89 h90=>U4 vs89 fun a91 a92 a93 a94=>oN [a91,a92,a93,a94] h90)) fun vs95 h96=>U4 vs95 fun a97 a98 a99 a100=>bn .add 3 a100 (i 1) fun t101=>
 oN [a97,a98,a99,t101] h96) (ql 9)
def L10 (c:CH) (ql:QH) (us:List GV) (H:GH):RS:=U4 us fun a102 a103 a104 a105=>jn (bn .lss 3 a105 a104 fun t106=>
 ob (GV.asB t106) fun q107=>jn (bC q107 (oX 2 [a102] H) (oN [a102,a103,a104,a105] H)) fun vs108 h109=>U4 vs108 fun a110 a111 a112 a113=>jn (nB 3 (ix 46 a111 a113 fun t114=>
 ld 152 t114 h109 fun t115=>
 kOR (vAlloc y 152 h109) fun t116 h117=>
 kOR (vStore y 152 t116 t115 h117) fun t118 h119=>
 ld 152 t116 h119 fun t120=>
 fd 48 1 a110 fun t121=>
 ld 45 t121 h119 fun t122=>
 ln 45 t122 fun t123=>
 K c 125 [t120,t123] h119 fun t124 h125=>
 ob (vUn .not t124) fun t126=>
 ob (GV.asB t126) fun q127=>jn (bC q127 (oN [a110,a111,a112,a113] h125) (oR [(i 7)] h125)) fun vs128 h129=>U4 vs128 fun a130 a131 a132 a133=>oN [a130,a131,a132,a133] h129)) fun vs134 h135=>U4 vs134 fun a136 a137 a138 a139=>bn .add 3 a139 (i 1) fun t140=>
 oN [a136,a137,a138,t140] h135) (ql 10)
def L11 (c:CH) (ql:QH) (us:List GV) (H:GH):RS:=U4 us fun a141 a142 a143 a144=>jn (bn .lss 3 a144 a143 fun t145=>
 ob (GV.asB t145) fun q146=>jn (bC q146 (oX 4 [] H) (oN [a141,a142,a143,a144] H)) fun vs147 h148=>U4 vs147 fun a149 a150 a151 a152=>jn (nB 5 (ix 46 a150 a152 fun t153=>
 ld 152 t153 h148 fun t154=>
 kOR (vAlloc y 152 h148) fun t155 h156=>
 kOR (vStore y 152 t155 t154 h156) fun t157 h158=>
 ld 152 t155 h158 fun t159=>
 K c 127 [t159,a149] h158 fun t160 h161=>
 ob (vUn .not t160) fun t162=>
 ob (GV.asB t162) fun q163=>jn (bC q163 (oN [a149,a150,a151,a152] h161) (oR [(i 6)] h161)) fun vs164 h165=>U4 vs164 fun a166 a167 a168 a169=>oN [a166,a167,a168,a169] h165)) fun vs170 h171=>U4 vs170 fun a172 a173 a174 a175=>bn .add 3 a175 (i 1) fun t176=>
 oN [a172,a173,a174,t176] h171) (ql 11)
def B98 (c:CH) (ql:QH) (us:List GV) (H:GH):RS:=U3 us fun x1 x2 x3=>
 kOR (vBox x1 H) fun t4 h5=>
 kOR (vBox x2 h5) fun t6 h7=>
 ld 48 t4 h7 fun t8=>
 ld 25 t6 h7 fun t9=>
 K c 128 [t8,t9] h7 fun t10 h11=>
 bn .neq 42 t10 (i 0) fun t12=>
 ob (GV.asB t12) fun q13=>jn (bC q13 (oN [x3,t4,t6] h11) (oR [t10] h11)) fun vs14 h15=>U3 vs14 fun a16 a17 a18=>ld 48 a17 h15 fun t19=>
 ld 25 a18 h15 fun t20=>
 K c 130 [t19,t20] h15 fun t21 h22=>
 K c 129 [t21,a16] h22 fun t23 h24=>
 ob (vUn .not t23) fun t25=>
 ob (GV.asB t25) fun q26=>jn (bC q26 (oN [] h24) (oR [(i 10)] h24)) fun vs27 h28=>U0 vs27 (oR [(i 0)] h28)
def B99 (c:CH) (ql:QH) (us:List GV) (H:GH):RS:=U1 us fun x1=>
 bn .geq 3 x1 (i 1) fun t2=>
 kOR (rG t2 true H (some (x1,H))) fun t3 h4=>
 kOR (rG t2 true h4 (ob (vBin y .leq 3 t3 (i 4)) fun g5=>some (g5,h4))) fun t6 h7=>
 ob (vPick t2 t6 (.bool false)) fun t8=>
 oR [t8] h7
def B100 (c:CH) (ql:QH) (us:List GV) (H:GH):RS:=U2 us fun x1 x2=>
 kOR (vBox x1 H) fun t3 h4=>
 kOR (vBox x2 h4) fun t5 h6=>
 ld 48 t3 h6 fun t7=>
 ob (Option.casesOn (motive:=fun _=>Option (Option (Nat×Nat))) (ob (GV.asP t3) fun p=>some p.1) (some none) fun k9=>ob (GH.ver h6 k9) fun k10=>some (some (k9,k10))) fun e8=>
 ld 48 t3 h6 fun t11=>
 ob (Option.casesOn (motive:=fun _=>Option (Option (Nat×Nat))) (ob (GV.asP t3) fun p=>some p.1) (some none) fun k13=>ob (GH.ver h6 k13) fun k14=>some (some (k13,k14))) fun e12=>
 ld 25 t5 h6 fun t15=>
 ob (Option.casesOn (motive:=fun _=>Option (Option (Nat×Nat))) (ob (GV.asP t5) fun p=>some p.1) (some none) fun k17=>ob (GH.ver h6 k17) fun k18=>some (some (k17,k18))) fun e16=>
 K c 131 [t11,t15] h6 fun t19 h20=>
 ob (pck h20 e8 (some ())) fun _=>
 ld 48 t3 h20 fun t21=>
 ob (Option.casesOn (motive:=fun _=>Option (Option (Nat×Nat))) (ob (GV.asP t3) fun p=>some p.1) (some none) fun k23=>ob (GH.ver h20 k23) fun k24=>vck h6 k23 k24 (some (some (k23,k24)))) fun e22=>
 ld 25 t5 h20 fun t25=>
 ob (Option.casesOn (motive:=fun _=>Option (Option (Nat×Nat))) (ob (GV.asP t5) fun p=>some p.1) (some none) fun k27=>ob (GH.ver h20 k27) fun k28=>vck h6 k27 k28 (some (some (k27,k28)))) fun e26=>
 K c 130 [t21,t25] h20 fun t29 h30=>
 ob (pck h30 e8 (some ())) fun _=>
 bd 163 [(0,t7),(1,t19),(2,t29)] fun t31=>
 kOR (vBox t31 h30) fun t32 h33=>
 ob (some ()) fun _=>
 oR [t32] h33
def B101 (c:CH) (ql:QH) (us:List GV) (H:GH):RS:=U1 us fun x1=>
 kOR (vBox x1 H) fun t2 h3=>
 fd 25 1 t2 fun t4=>
 ld 23 t4 h3 fun t5=>
 ln 23 t5 fun t6=>
 kOR (vMake y 93 t6 t6 h3) fun t7 h8=>
 fd 25 1 t2 fun t9=>
 ld 23 t9 h8 fun t10=>
 ln 23 t10 fun t11=>
 jn (nB 0 (ql 12 [t7,t10,t11,(i 0)] h8)) fun vs12 h13=>U1 vs12 fun a14=>oR [a14] h13
def L12 (c:CH) (ql:QH) (us:List GV) (H:GH):RS:=U4 us fun a15 a16 a17 a18=>jn (bn .lss 3 a18 a17 fun t19=>
 ob (GV.asB t19) fun q20=>jn (bC q20 (oX 0 [a15] H) (oN [a15,a16,a17,a18] H)) fun vs21 h22=>U4 vs21 fun a23 a24 a25 a26=>jn (nB 1 (ix 23 a24 a26 fun t27=>
 ld 84 t27 h22 fun t28=>
 ln 84 t28 fun t29=>
 jn (nB 2 (ql 13 [a23,a26,a24,a25,a26,t28,t29,(i 0)] h22)) fun vs30 h31=>U4 vs30 fun a32 a33 a34 a35=>oN [a32,a33,a34,a35] h31)) fun vs36 h37=>U4 vs36 fun a38 a39 a40 a41=>bn .add 3 a41 (i 1) fun t42=>
 oN [a38,a39,a40,t42] h37) (ql 12)
def L13 (c:CH) (ql:QH) (us:List GV) (H:GH):RS:=U8 us fun a43 a44 a45 a46 a47 a48 a49 a50=>jn (bn .lss 3 a50 a49 fun t51=>
 ob (GV.asB t51) fun q52=>jn (bC q52 (oX 2 [a43,a45,a46,a47] H) (oN [a43,a44,a45,a46,a47,a48,a49,a50] H)) fun vs53 h54=>U8 vs53 fun a55 a56 a57 a58 a59 a60 a61 a62=>jn (nB 3 (ix 84 a60 a62 fun t63=>
 ld 87 t63 h54 fun t64=>
 kOR (vAlloc y 87 h54) fun t65 h66=>
 kOR (vStore y 87 t65 t64 h66) fun t67 h68=>
 ix 93 a55 a56 fun t69=>
 ld 26 t69 h68 fun t70=>
 fd 87 0 t65 fun t71=>
 ld 3 t71 h68 fun t72=>
 bn .shl 26 (.int .u32 (.ofNat 1)) t72 fun t73=>
 bn .or 26 t70 t73 fun t74=>
 ix 93 a55 a56 fun t75=>
 kOR (vStore y 26 t75 t74 h68) fun t76 h77=>
 oN [a55,a56,a57,a58,a59,a60,a61,a62] h77)) fun vs78 h79=>U8 vs78 fun a80 a81 a82 a83 a84 a85 a86 a87=>bn .add 3 a87 (i 1) fun t88=>
 oN [a80,a81,a82,a83,a84,a85,a86,t88] h79) (ql 13)
def B102 (c:CH) (ql:QH) (us:List GV) (H:GH):RS:=U1 us fun x1=>
 kOR (vBox x1 H) fun t2 h3=>
 fd 25 0 t2 fun t4=>
 ld 22 t4 h3 fun t5=>
 ln 22 t5 fun t6=>
 bn .shl 26 (.int .u32 (.ofNat 1)) t6 fun t7=>
 bn .sub 26 t7 (.int .u32 (.ofNat 1)) fun t8=>
 oR [t8] h3
def B103 (c:CH) (ql:QH) (us:List GV) (H:GH):RS:=U4 us fun x1 x2 x3 x4=>
 kOR (vBox x1 H) fun t5 h6=>
 kOR (vAlloc y 58 h6) fun t7 h8=>
 kOR (vAlloc y 58 h8) fun t9 h10=>
 K c 132 [x2] h10 fun t11 h12=>
 fd 96 0 t5 fun t13=>
 ld 92 t13 h12 fun t14=>
 ob (Option.casesOn (motive:=fun _=>Option (Option (Nat×Nat))) (ob (GV.asP t13) fun p=>some p.1) (some none) fun k16=>ob (GH.ver h12 k16) fun k17=>some (some (k16,k17))) fun e15=>
 K c 133 [t14,t11] h12 fun t18 h19=>
 ob (some ()) fun _=>
 fd 96 3 t5 fun t20=>
 ld 26 t20 h19 fun t21=>
 ob (Option.casesOn (motive:=fun _=>Option (Option (Nat×Nat))) (ob (GV.asP t20) fun p=>some p.1) (some none) fun k23=>ob (GH.ver h19 k23) fun k24=>vck h12 k23 k24 (some (some (k23,k24)))) fun e22=>
 bn .and 26 t18 t21 fun t25=>
 K c 134 [t25] h19 fun t26 h27=>
 kOR (vAlloc y 56 h27) fun t28 h29=>
 kOR (vStore y 56 t28 t26 h29) fun t30 h31=>
 fd 96 4 t5 fun t32=>
 ld 94 t32 h31 fun t33=>
 ld 56 t28 h31 fun t34=>
 ob (GV.asF t33) fun p37=>kOR (c p37.1 (p37.2.1++[t11,t25,t34]++p37.2.2) h31) fun t35 h36=>
 fd 58 1 t9 fun t38=>
 ld 51 t38 h36 fun t39=>
 kOR (vBuildS y 51 1 [(0,t25)] h36) fun t40 h41=>
 kOR (vApp y 51 51 t39 t40 h41) fun t42 h43=>
 fd 58 1 t9 fun t44=>
 kOR (vStore y 51 t44 t42 h43) fun t45 h46=>
 jn (nB 0 (ql 14 [t11,x4,t5,t7,t9,t25,t28,x3,(i 0)] h46)) fun vs47 h48=>U4 vs47 fun a49 a50 a51 a52=>ld 56 a52 h48 fun t53=>
 ob (Option.casesOn (motive:=fun _=>Option (Option (Nat×Nat))) (ob (GV.asP a52) fun p=>some p.1) (some none) fun k55=>ob (GH.ver h48 k55) fun k56=>some (some (k55,k56))) fun e54=>
 fd 58 2 a51 fun t57=>
 kOR (vStore y 30 t57 a49 h48) fun t58 h59=>
 ob (pck h59 e54 (some ())) fun _=>
 fd 58 3 a51 fun t60=>
 kOR (vStore y 56 t60 t53 h59) fun t61 h62=>
 ob (some ()) fun _=>
 ld 58 a51 h62 fun t63=>
 kOR (vStore y 58 a50 t63 h62) fun t64 h65=>
 ob (ob (vLoad y 58 a50 h65) fun r66=>some [r66,(i 0)]) fun vs67=>oR vs67 h65
def L14 (c:CH) (ql:QH) (us:List GV) (H:GH):RS:=U9 us fun a68 a69 a70 a71 a72 a73 a74 a75 a76=>jn (bn .lss 3 a76 a75 fun t77=>
 ob (GV.asB t77) fun q78=>jn (bC q78 (oX 0 [a68,a71,a72,a74] H) (oN [a68,a69,a70,a71,a72,a73,a74,a75,a76] H)) fun vs79 h80=>U9 vs79 fun a81 a82 a83 a84 a85 a86 a87 a88 a89=>jn (nB 1 (ob (GV.asF a82) fun p92=>kOR (c p92.1 (p92.2.1++[a89,a86]++p92.2.2) h80) fun t90 h91=>
 ex 0 t90 fun t93=>
 ex 1 t90 fun t94=>
 ob (vUn .not t94) fun t95=>
 ob (GV.asB t95) fun q96=>jn (bC q96 (oN [a81,a82,a83,a84,a85,a86,a87,t93,a88,a89] h91) (oX 0 [a81,a84,a85,a87] h91)) fun vs97 h98=>U10 vs97 fun a99 a100 a101 a102 a103 a104 a105 a106 a107 a108=>fd 96 1 a101 fun t109=>
 ld 93 t109 h98 fun t110=>
 fd 96 2 a101 fun t111=>
 ld 3 t111 h98 fun t112=>
 K c 135 [t110,t112,a104,a106] h98 fun t113 h114=>
 ob (vUn .not t113) fun t115=>
 ob (GV.asB t115) fun q116=>jn (bC q116 (oN [a99,a100,a101,a102,a103,a105,a106,a107,a108] h114) (bd 58 [] fun t117=>
 kOR (vStore y 58 a102 t117 h114) fun t118 h119=>
 ob (ob (vLoad y 58 a102 h119) fun r120=>some [r120,(i 11)]) fun vs121=>oR vs121 h119)) fun vs122 h123=>U9 vs122 fun a124 a125 a126 a127 a128 a129 a130 a131 a132=>fd 96 0 a126 fun t133=>
 ld 92 t133 h123 fun t134=>
 K c 136 [t134,a124,a130] h123 fun t135 h136=>
 fd 96 0 a126 fun t137=>
 ld 92 t137 h136 fun t138=>
 ob (Option.casesOn (motive:=fun _=>Option (Option (Nat×Nat))) (ob (GV.asP t137) fun p=>some p.1) (some none) fun k140=>ob (GH.ver h136 k140) fun k141=>some (some (k140,k141))) fun e139=>
 K c 133 [t138,t135] h136 fun t142 h143=>
 ob (some ()) fun _=>
 fd 96 3 a126 fun t144=>
 ld 26 t144 h143 fun t145=>
 ob (Option.casesOn (motive:=fun _=>Option (Option (Nat×Nat))) (ob (GV.asP t144) fun p=>some p.1) (some none) fun k147=>ob (GH.ver h143 k147) fun k148=>vck h136 k147 k148 (some (some (k147,k148)))) fun e146=>
 bn .and 26 t142 t145 fun t149=>
 ld 56 a129 h143 fun t150=>
 K c 137 [t150,a130,t149] h143 fun t151 h152=>
 ex 0 t151 fun t153=>
 ex 1 t151 fun t154=>
 kOR (vStore y 56 a129 t153 h152) fun t155 h156=>
 fd 96 4 a126 fun t157=>
 ld 94 t157 h156 fun t158=>
 ld 56 a129 h156 fun t159=>
 ob (GV.asF t158) fun p162=>kOR (c p162.1 (p162.2.1++[t135,t149,t159]++p162.2.2) h156) fun t160 h161=>
 fd 58 0 a128 fun t163=>
 ld 51 t163 h161 fun t164=>
 kOR (vBuildS y 51 1 [(0,a130)] h161) fun t165 h166=>
 kOR (vApp y 51 51 t164 t165 h166) fun t167 h168=>
 fd 58 0 a128 fun t169=>
 kOR (vStore y 51 t169 t167 h168) fun t170 h171=>
 fd 58 1 a128 fun t172=>
 ld 51 t172 h171 fun t173=>
 kOR (vBuildS y 51 1 [(0,t149)] h171) fun t174 h175=>
 kOR (vApp y 51 51 t173 t174 h175) fun t176 h177=>
 fd 58 1 a128 fun t178=>
 kOR (vStore y 51 t178 t176 h177) fun t179 h180=>
 oN [t135,a125,a126,a127,a128,t149,a129,a131,a132] h180)) fun vs181 h182=>U9 vs181 fun a183 a184 a185 a186 a187 a188 a189 a190 a191=>bn .add 3 a191 (i 1) fun t192=>
 oN [a183,a184,a185,a186,a187,a188,a189,a190,t192] h182) (ql 14)
def B104 (c:CH) (ql:QH) (us:List GV) (H:GH):RS:=U4 us fun x1 x2 x3 x4=>
 fd 96 1 x3 fun t5=>
 ld 93 t5 H fun t6=>
 fd 96 2 x3 fun t7=>
 ld 3 t7 H fun t8=>
 ld 51 x4 H fun t9=>
 ix 51 t9 x1 fun t10=>
 ld 26 t10 H fun t11=>
 K c 105 [t6,t8,x2,t11] H fun t12 h13=>
 bn .neq 26 x2 (.int .u32 (.ofNat 0)) fun t14=>
 oR [t12,t14] h13
def B112 (c:CH) (ql:QH) (us:List GV) (H:GH):RS:=U2 us fun x1 x2=>
 jn (nB 0 (ql 15 [x1,x2] H)) fun vs3 h4=>U1 vs3 fun a5=>oR [a5] h4
def L15 (c:CH) (ql:QH) (us:List GV) (H:GH):RS:=U2 us fun a6 a7=>jn (ln 9 a6 fun t8=>
 bn .lss 3 a7 t8 fun t9=>
 ob (GV.asB t9) fun q10=>jn (bC q10 (oX 0 [a7] H) (oN [a6,a7] H)) fun vs11 h12=>U2 vs11 fun a13 a14=>jn (nB 1 (ob (vAt y 9 a13 a14) fun t15=>
 jn (nB 2 (bn .eql 5 t15 (.int .u8 (.ofNat 32)) fun t16=>
 ob (GV.asB t16) fun q17=>jn (bC q17 (bn .eql 5 t15 (.int .u8 (.ofNat 9)) fun t18=>
 ob (GV.asB t18) fun q19=>jn (bC q19 (bn .eql 5 t15 (.int .u8 (.ofNat 10)) fun t20=>
 ob (GV.asB t20) fun q21=>jn (bC q21 (bn .eql 5 t15 (.int .u8 (.ofNat 13)) fun t22=>
 oN [a13,a14,t15,t22] h12) (oN [a13,a14,t15,t20] h12)) fun vs23 h24=>U4 vs23 fun a25 a26 a27 a28=>oN [a25,a26,a27,a28] h24) (oN [a13,a14,t15,t18] h12)) fun vs29 h30=>U4 vs29 fun a31 a32 a33 a34=>oN [a31,a32,a33,a34] h30) (oN [a13,a14,t15,t16] h12)) fun vs35 h36=>U4 vs35 fun a37 a38 a39 a40=>ob (GV.asB a40) fun q41=>jn (bC q41 (bn .eql 5 a39 (.int .u8 (.ofNat 35)) fun t43=>
 ob (GV.asB t43) fun q44=>jn (bC q44 (oR [a38] h36) (jn (nB 3 (ql 16 [a37,a38] h36)) fun vs45 h46=>U2 vs45 fun a47 a48=>oN [a47,a48] h46)) fun vs49 h50=>U2 vs49 fun a51 a52=>oN [a51,a52] h50) (bn .add 3 a38 (i 1) fun t42=>
 oN [a37,t42] h36)) fun vs53 h54=>U2 vs53 fun a55 a56=>oN [a55,a56] h54)) fun vs57 h58=>U2 vs57 fun a59 a60=>oN [a59,a60] h58)) fun vs61 h62=>U2 vs61 fun a63 a64=>oN [a63,a64] h62) (ql 15)
def L16 (c:CH) (ql:QH) (us:List GV) (H:GH):RS:=U2 us fun a65 a66=>jn (ln 9 a65 fun t67=>
 bn .lss 3 a66 t67 fun t68=>
 kOR (rG t68 true H (some (a65,H))) fun t69 h70=>
 kOR (rG t68 true h70 (some (a66,h70))) fun t71 h72=>
 kOR (rG t68 true h72 (ob (vAt y 9 t69 t71) fun g73=>some (g73,h72))) fun t74 h75=>
 kOR (rG t68 true h75 (ob (vBin y .neq 5 t74 (.int .u8 (.ofNat 10))) fun g76=>some (g76,h75))) fun t77 h78=>
 ob (vPick t68 t77 (.bool false)) fun t79=>
 ob (GV.asB t79) fun q80=>jn (bC q80 (oX 3 [a65,a66] h78) (oN [a65,a66] h78)) fun vs81 h82=>U2 vs81 fun a83 a84=>jn (nB 4 (bn .add 3 a84 (i 1) fun t85=>
 oN [a83,t85] h82)) fun vs86 h87=>U2 vs86 fun a88 a89=>oN [a88,a89] h87) (ql 16)
def B113 (c:CH) (ql:QH) (us:List GV) (H:GH):RS:=U2 us fun x1 x2=>
 kOR (vBox x1 H) fun t3 h4=>
 kOR (vBox x2 h4) fun t5 h6=>
 kOR (vAlloc y 136 h6) fun t7 h8=>
 ld 9 t3 h8 fun t9=>
 ld 3 t5 h8 fun t10=>
 ob (vAt y 9 t9 t10) fun t11=>
 jn (nB 0 (K c 141 [t11] h8 fun t12 h13=>
 ob (GV.asB t12) fun q14=>jn (bC q14 (K c 143 [t11] h13 fun t38 h39=>
 ob (GV.asB t38) fun q40=>jn (bC q40 (oN [t3,t5,t7] h39) (ob (GV.asF (.fn 140 [] [t5,t3])) fun p43=>kOR (c p43.1 (p43.2.1++[(.fn 143 [] [])]++p43.2.2) h39) fun t41 h42=>
 ld 9 t3 h42 fun t44=>
 ld 3 t5 h42 fun t45=>
 ob (vSlice y 9 t44 (some t45) (some t41) h42) fun t46=>
 K c 144 [t46] h42 fun t47 h48=>
 ex 0 t47 fun t49=>
 ex 1 t47 fun t50=>
 ob (vUn .not t50) fun t51=>
 ob (GV.asB t51) fun q52=>jn (bC q52 (oN [t5,t7,t41,t49] h48) (bd 136 [] fun t53=>
 kOR (vStore y 136 t7 t53 h48) fun t54 h55=>
 ob (ob (vLoad y 136 t7 h55) fun r56=>some [r56,(i 2)]) fun vs57=>oR vs57 h55)) fun vs58 h59=>U4 vs58 fun a60 a61 a62 a63=>ld 3 a60 h59 fun t64=>
 bd 136 [(0,(i 2)),(1,t64),(2,a62),(3,a63)] fun t65=>
 kOR (vStore y 136 a61 t65 h59) fun t66 h67=>
 ob (ob (vLoad y 136 a61 h67) fun r68=>some [r68,(i 0)]) fun vs69=>oR vs69 h67)) fun vs70 h71=>U3 vs70 fun a72 a73 a74=>oN [a72,a73,a74] h71) (ob (GV.asF (.fn 140 [] [t5,t3])) fun p17=>kOR (c p17.1 (p17.2.1++[(.fn 142 [] [])]++p17.2.2) h13) fun t15 h16=>
 ld 3 t5 h16 fun t18=>
 bn .sub 3 t15 t18 fun t19=>
 bn .gtr 3 t19 (i 24) fun t20=>
 ob (GV.asB t20) fun q21=>jn (bC q21 (oN [t5,t7,t15] h16) (bd 136 [] fun t22=>
 kOR (vStore y 136 t7 t22 h16) fun t23 h24=>
 ob (ob (vLoad y 136 t7 h24) fun r25=>some [r25,(i 5)]) fun vs26=>oR vs26 h24)) fun vs27 h28=>U3 vs27 fun a29 a30 a31=>ld 3 a29 h28 fun t32=>
 bd 136 [(0,(i 1)),(1,t32),(2,a31)] fun t33=>
 kOR (vStore y 136 a30 t33 h28) fun t34 h35=>
 ob (ob (vLoad y 136 a30 h35) fun r36=>some [r36,(i 0)]) fun vs37=>oR vs37 h35)) fun vs75 h76=>U3 vs75 fun a77 a78 a79=>oN [a77,a78,a79] h76)) fun vs80 h81=>U3 vs80 fun a82 a83 a84=>ld 9 a82 h81 fun t85=>
 ld 3 a83 h81 fun t86=>
 ob (vSlice y 9 t85 (some t86) none h81) fun t87=>
 K c 145 [t87] h81 fun t88 h89=>
 bn .eql 3 t88 (i 0) fun t90=>
 ob (GV.asB t90) fun q91=>jn (bC q91 (oN [a83,a84,t88] h89) (bd 136 [] fun t92=>
 kOR (vStore y 136 a84 t92 h89) fun t93 h94=>
 ob (ob (vLoad y 136 a84 h94) fun r95=>some [r95,(i 4)]) fun vs96=>oR vs96 h94)) fun vs97 h98=>U3 vs97 fun a99 a100 a101=>ld 3 a99 h98 fun t102=>
 ld 3 a99 h98 fun t103=>
 bn .add 3 t103 a101 fun t104=>
 bd 136 [(0,(i 3)),(1,t102),(2,t104)] fun t105=>
 kOR (vStore y 136 a100 t105 h98) fun t106 h107=>
 ob (ob (vLoad y 136 a100 h107) fun r108=>some [r108,(i 0)]) fun vs109=>oR vs109 h107
def B116 (c:CH) (ql:QH) (us:List GV) (H:GH):RS:=U2 us fun x1 x2=>
 K c 146 [x1,x2] H fun t3 h4=>
 ob (vUn .not t3) fun t5=>
 ob (GV.asB t5) fun q6=>jn (bC q6 (oN [] h4) (K c 122 [x1,(i 4)] h4 fun t7 h8=>
 oN [] h8)) fun vs9 h10=>U0 vs9 (oR [] h10)
def B117 (c:CH) (ql:QH) (us:List GV) (H:GH):RS:=U2 us fun x1 x2=>
 ob (GV.nilck x1) fun t3=>
 fd 117 0 t3 fun t4=>
 K c 147 [t4] H fun t5 h6=>
 ob (GV.nilck x1) fun t7=>
 fd 117 0 t7 fun t8=>
 K c 148 [t8] h6 fun t9 h10=>
 bn .neq 3 t9 (i 1) fun t11=>
 kOR (rG t11 false h10 (some (t5,h10))) fun t12 h13=>
 kOR (rG t11 false h13 (kOR (c 149 [t12] h13) orK)) fun t14 h15=>
 kOR (rG t11 false h15 (ob (vUn .not t14) fun g16=>some (g16,h15))) fun t17 h18=>
 ob (vPick t11 (.bool true) t17) fun t19=>
 ob (GV.asB t19) fun q20=>jn (bC q20 (oN [x1,x2,t5] h18) (ob (GV.nilck x1) fun t21=>
 fd 117 0 t21 fun t22=>
 K c 122 [t22,(i 4)] h18 fun t23 h24=>
 oN [x1,x2,t5] h24)) fun vs25 h26=>U3 vs25 fun a27 a28 a29=>ln 113 a28 fun t30=>
 jn (nB 0 (ql 17 [a27,a29,a28,t30,(i 0)] h26)) fun vs31 h32=>U2 vs31 fun a33 a34=>ob (GV.nilck a33) fun t35=>
 fd 117 0 t35 fun t36=>
 K c 150 [t36] h32 fun t37 h38=>
 oR [a34] h38
def L17 (c:CH) (ql:QH) (us:List GV) (H:GH):RS:=U5 us fun a39 a40 a41 a42 a43=>jn (bn .lss 3 a43 a42 fun t44=>
 ob (GV.asB t44) fun q45=>jn (bC q45 (oX 0 [a39,a40] H) (oN [a39,a40,a41,a42,a43] H)) fun vs46 h47=>U5 vs46 fun a48 a49 a50 a51 a52=>jn (nB 1 (ix 113 a50 a52 fun t53=>
 ld 9 t53 h47 fun t54=>
 bn .eql 9 t54 a49 fun t55=>
 ob (GV.asB t55) fun q56=>jn (bC q56 (oN [a48,a49,a50,a51,a52] h47) (ob (GV.nilck a48) fun t57=>
 fd 117 0 t57 fun t58=>
 K c 122 [t58,(i 5)] h47 fun t59 h60=>
 oN [a48,a49,a50,a51,a52] h60)) fun vs61 h62=>U5 vs61 fun a63 a64 a65 a66 a67=>oN [a63,a64,a65,a66,a67] h62)) fun vs68 h69=>U5 vs68 fun a70 a71 a72 a73 a74=>bn .add 3 a74 (i 1) fun t75=>
 oN [a70,a71,a72,a73,t75] h69) (ql 17)
def B118 (c:CH) (ql:QH) (us:List GV) (H:GH):RS:=U4 us fun x1 x2 x3 x4=>
 jn (nB 0 (ql 18 [x1,x2,x3,x4,(i 0)] H)) fun vs5 h6=>U0 vs5 (oR [] h6)
def L18 (c:CH) (ql:QH) (us:List GV) (H:GH):RS:=U5 us fun a7 a8 a9 a10 a11=>jn (ob (GV.nilck a7) fun t12=>
 fd 117 0 t12 fun t13=>
 K c 147 [t13] H fun t14 h15=>
 bn .eql 9 t14 a8 fun t16=>
 ob (GV.asB t16) fun q17=>jn (bC q17 (oX 0 [] h15) (oN [a7,a8,a9,a10,a11] h15)) fun vs18 h19=>U5 vs18 fun a20 a21 a22 a23 a24=>jn (nB 1 (bn .eql 3 a24 a22 fun t25=>
 ob (GV.asB t25) fun q26=>jn (bC q26 (oN [a20,a21,a22,a23,a24] h19) (ob (GV.nilck a20) fun t27=>
 fd 117 0 t27 fun t28=>
 K c 122 [t28,(i 3)] h19 fun t29 h30=>
 oN [a20,a21,a22,a23,a24] h30)) fun vs31 h32=>U5 vs31 fun a33 a34 a35 a36 a37=>ob (GV.nilck a33) fun t38=>
 fd 117 0 t38 fun t39=>
 K c 150 [t39] h32 fun t40 h41=>
 ob (GV.asF a36) fun p44=>kOR (c p44.1 (p44.2.1++[]++p44.2.2) h41) fun t42 h43=>
 oN [a33,a34,a35,a36,a37] h43)) fun vs45 h46=>U5 vs45 fun a47 a48 a49 a50 a51=>bn .add 3 a51 (i 1) fun t52=>
 oN [a47,a48,a49,a50,t52] h46) (ql 18)
def B119 (c:CH) (ql:QH) (us:List GV) (H:GH):RS:=U1 us fun x1=>
 ob (GV.nilck x1) fun t2=>
 fd 117 0 t2 fun t3=>
 fd 115 2 t3 fun t4=>
 ld 113 t4 H fun t5=>
 K c 117 [x1,t5] H fun t6 h7=>
 bd 103 [(0,t6)] fun t8=>
 kOR (vAlloc y 103 h7) fun t9 h10=>
 kOR (vStore y 103 t9 t8 h10) fun t11 h12=>
 ob (GV.nilck x1) fun t13=>
 fd 117 0 t13 fun t14=>
 K c 116 [t14,(.str 58 1)] h12 fun t15 h16=>
 jn (nB 0 (ob (GV.nilck x1) fun t17=>
 fd 117 0 t17 fun t18=>
 K c 146 [t18,(.str 1819242338 4)] h16 fun t19 h20=>
 ob (GV.asB t19) fun q21=>jn (bC q21 (ob (GV.nilck x1) fun t25=>
 fd 117 0 t25 fun t26=>
 K c 146 [t26,(.str 1953656688 4)] h20 fun t27 h28=>
 ob (GV.asB t27) fun q29=>jn (bC q29 (fd 103 1 t9 fun t33=>
 kOR (vStore y 3 t33 (i 1) h28) fun t34 h35=>
 K c 151 [x1,(i 0),(i 4096)] h35 fun t36 h37=>
 fd 103 2 t9 fun t38=>
 kOR (vStore y 3 t38 t36 h37) fun t39 h40=>
 ob (GV.nilck x1) fun t41=>
 fd 117 0 t41 fun t42=>
 K c 116 [t42,(.str 11822 2)] h40 fun t43 h44=>
 K c 152 [x1,t9] h44 fun t45 h46=>
 oN [x1,t9] h46) (fd 103 1 t9 fun t30=>
 kOR (vStore y 3 t30 (i 3) h28) fun t31 h32=>
 oN [x1,t9] h32)) fun vs47 h48=>U2 vs47 fun a49 a50=>oN [a49,a50] h48) (fd 103 1 t9 fun t22=>
 kOR (vStore y 3 t22 (i 2) h20) fun t23 h24=>
 oN [x1,t9] h24)) fun vs51 h52=>U2 vs51 fun a53 a54=>oN [a53,a54] h52)) fun vs55 h56=>U2 vs55 fun a57 a58=>ob (GV.nilck a57) fun t59=>
 fd 117 0 t59 fun t60=>
 K c 116 [t60,(.str 59 1)] h56 fun t61 h62=>
 ob (GV.nilck a57) fun t63=>
 fd 117 0 t63 fun t64=>
 fd 115 2 t64 fun t65=>
 ld 113 t65 h62 fun t66=>
 ob (Option.casesOn (motive:=fun _=>Option (Option (Nat×Nat))) (ob (GV.asP t65) fun p=>some p.1) (some none) fun k68=>ob (GH.ver h62 k68) fun k69=>some (some (k68,k69))) fun e67=>
 fd 103 0 a58 fun t70=>
 ld 9 t70 h62 fun t71=>
 ob (Option.casesOn (motive:=fun _=>Option (Option (Nat×Nat))) (ob (GV.asP t70) fun p=>some p.1) (some none) fun k73=>ob (GH.ver h62 k73) fun k74=>some (some (k73,k74))) fun e72=>
 kOR (vBuildS y 113 1 [(0,t71)] h62) fun t75 h76=>
 ob (pck h76 e67 (some ())) fun _=>
 kOR (vApp y 113 113 t66 t75 h76) fun t77 h78=>
 ob (some ()) fun _=>
 ob (GV.nilck a57) fun t79=>
 fd 117 0 t79 fun t80=>
 fd 115 2 t80 fun t81=>
 kOR (vStore y 113 t81 t77 h78) fun t82 h83=>
 ob (some ()) fun _=>
 ob (GV.nilck a57) fun t84=>
 fd 117 1 t84 fun t85=>
 fd 48 1 t85 fun t86=>
 ld 45 t86 h83 fun t87=>
 ob (Option.casesOn (motive:=fun _=>Option (Option (Nat×Nat))) (ob (GV.asP t86) fun p=>some p.1) (some none) fun k89=>ob (GH.ver h83 k89) fun k90=>some (some (k89,k90))) fun e88=>
 ld 103 a58 h83 fun t91=>
 ob (Option.casesOn (motive:=fun _=>Option (Option (Nat×Nat))) (ob (GV.asP a58) fun p=>some p.1) (some none) fun k93=>ob (GH.ver h83 k93) fun k94=>some (some (k93,k94))) fun e92=>
 kOR (vBuildS y 45 1 [(0,t91)] h83) fun t95 h96=>
 ob (pck h96 e88 (some ())) fun _=>
 kOR (vApp y 45 45 t87 t95 h96) fun t97 h98=>
 ob (some ()) fun _=>
 ob (GV.nilck a57) fun t99=>
 fd 117 1 t99 fun t100=>
 fd 48 1 t100 fun t101=>
 kOR (vStore y 45 t101 t97 h98) fun t102 h103=>
 ob (some ()) fun _=>
 oR [] h103
def B120 (c:CH) (ql:QH) (us:List GV) (H:GH):RS:=U1 us fun x1=>
 ob (GV.nilck x1) fun t2=>
 fd 117 2 t2 fun t3=>
 ld 113 t3 H fun t4=>
 K c 117 [x1,t4] H fun t5 h6=>
 bd 152 [(0,t5)] fun t7=>
 kOR (vAlloc y 152 h6) fun t8 h9=>
 kOR (vStore y 152 t8 t7 h9) fun t10 h11=>
 ob (GV.nilck x1) fun t12=>
 fd 117 2 t12 fun t13=>
 ld 113 t13 h11 fun t14=>
 ob (Option.casesOn (motive:=fun _=>Option (Option (Nat×Nat))) (ob (GV.asP t13) fun p=>some p.1) (some none) fun k16=>ob (GH.ver h11 k16) fun k17=>some (some (k16,k17))) fun e15=>
 fd 152 0 t8 fun t18=>
 ld 9 t18 h11 fun t19=>
 ob (Option.casesOn (motive:=fun _=>Option (Option (Nat×Nat))) (ob (GV.asP t18) fun p=>some p.1) (some none) fun k21=>ob (GH.ver h11 k21) fun k22=>some (some (k21,k22))) fun e20=>
 kOR (vBuildS y 113 1 [(0,t19)] h11) fun t23 h24=>
 ob (pck h24 e15 (some ())) fun _=>
 kOR (vApp y 113 113 t14 t23 h24) fun t25 h26=>
 ob (some ()) fun _=>
 ob (GV.nilck x1) fun t27=>
 fd 117 2 t27 fun t28=>
 kOR (vStore y 113 t28 t25 h26) fun t29 h30=>
 ob (some ()) fun _=>
 ob (GV.nilck x1) fun t31=>
 fd 117 0 t31 fun t32=>
 K c 116 [t32,(.str 58 1)] h30 fun t33 h34=>
 ob (GV.nilck x1) fun t35=>
 fd 117 0 t35 fun t36=>
 K c 153 [t36] h34 fun t37 h38=>
 fd 152 1 t8 fun t39=>
 kOR (vStore y 149 t39 t37 h38) fun t40 h41=>
 ob (GV.nilck x1) fun t42=>
 fd 117 0 t42 fun t43=>
 K c 116 [t43,(.str 15917 2)] h41 fun t44 h45=>
 jn (nB 0 (ql 19 [x1,t8] h45)) fun vs46 h47=>U2 vs46 fun a48 a49=>ob (GV.nilck a48) fun t50=>
 fd 117 0 t50 fun t51=>
 K c 116 [t51,(.str 59 1)] h47 fun t52 h53=>
 ob (GV.nilck a48) fun t54=>
 fd 117 1 t54 fun t55=>
 fd 48 2 t55 fun t56=>
 ld 46 t56 h53 fun t57=>
 ob (Option.casesOn (motive:=fun _=>Option (Option (Nat×Nat))) (ob (GV.asP t56) fun p=>some p.1) (some none) fun k59=>ob (GH.ver h53 k59) fun k60=>some (some (k59,k60))) fun e58=>
 ld 152 a49 h53 fun t61=>
 ob (Option.casesOn (motive:=fun _=>Option (Option (Nat×Nat))) (ob (GV.asP a49) fun p=>some p.1) (some none) fun k63=>ob (GH.ver h53 k63) fun k64=>some (some (k63,k64))) fun e62=>
 kOR (vBuildS y 46 1 [(0,t61)] h53) fun t65 h66=>
 ob (pck h66 e58 (some ())) fun _=>
 kOR (vApp y 46 46 t57 t65 h66) fun t67 h68=>
 ob (some ()) fun _=>
 ob (GV.nilck a48) fun t69=>
 fd 117 1 t69 fun t70=>
 fd 48 2 t70 fun t71=>
 kOR (vStore y 46 t71 t67 h68) fun t72 h73=>
 ob (some ()) fun _=>
 oR [] h73
def L19 (c:CH) (ql:QH) (us:List GV) (H:GH):RS:=U2 us fun a74 a75=>jn (jn (nB 1 (ob (GV.nilck a74) fun t76=>
 fd 117 0 t76 fun t77=>
 K c 154 [t77] H fun t78 h79=>
 bd 186 [(0,t78)] fun t80=>
 kOR (vAlloc y 186 h79) fun t81 h82=>
 kOR (vStore y 186 t81 t80 h82) fun t83 h84=>
 ob (GV.nilck a74) fun t85=>
 fd 117 0 t85 fun t86=>
 K c 116 [t86,(.str 15674 2)] h84 fun t87 h88=>
 ob (GV.nilck a74) fun t89=>
 fd 117 0 t89 fun t90=>
 K c 153 [t90] h88 fun t91 h92=>
 fd 186 1 t81 fun t93=>
 kOR (vStore y 149 t93 t91 h92) fun t94 h95=>
 fd 152 2 a75 fun t96=>
 ld 150 t96 h95 fun t97=>
 ld 186 t81 h95 fun t98=>
 kOR (vBuildS y 150 1 [(0,t98)] h95) fun t99 h100=>
 kOR (vApp y 150 150 t97 t99 h100) fun t101 h102=>
 fd 152 2 a75 fun t103=>
 kOR (vStore y 150 t103 t101 h102) fun t104 h105=>
 ob (GV.nilck a74) fun t106=>
 fd 117 0 t106 fun t107=>
 K c 146 [t107,(.str 44 1)] h105 fun t108 h109=>
 ob (vUn .not t108) fun t110=>
 ob (GV.asB t110) fun q111=>jn (bC q111 (oN [a74,a75] h109) (oX 0 [a74,a75] h109)) fun vs112 h113=>U2 vs112 fun a114 a115=>oN [a114,a115] h113)) fun vs116 h117=>U2 vs116 fun a118 a119=>oN [a118,a119] h117) (ql 19)
def B121 (c:CH) (ql:QH) (us:List GV) (H:GH):RS:=U1 us fun x1=>
 ob (GV.nilck x1) fun t2=>
 fd 115 1 t2 fun t3=>
 ld 109 t3 H fun t4=>
 ln 109 t4 fun t5=>
 bn .eql 3 t5 (i 0) fun t6=>
 oR [t6] H
def B122 (c:CH) (ql:QH) (us:List GV) (H:GH):RS:=U2 us fun x1 x2=>
 ob (GV.nilck x1) fun t3=>
 fd 115 0 t3 fun t4=>
 ld 9 t4 H fun t5=>
 ln 9 t5 fun t6=>
 ob (GV.nilck x1) fun t7=>
 fd 115 1 t7 fun t8=>
 ld 109 t8 H fun t9=>
 ln 109 t9 fun t10=>
 bn .gtr 3 t10 (i 0) fun t11=>
 ob (GV.asB t11) fun q12=>jn (bC q12 (oN [x2,t6] H) (ob (GV.nilck x1) fun t13=>
 fd 115 1 t13 fun t14=>
 ld 109 t14 H fun t15=>
 ix 109 t15 (i 0) fun t16=>
 fd 136 1 t16 fun t17=>
 ld 3 t17 H fun t18=>
 oN [x2,t18] H)) fun vs19 h20=>U2 vs19 fun a21 a22=>bd 140 [(0,a22),(1,a21)] fun t23=>
 none
def B123 (c:CH) (ql:QH) (us:List GV) (H:GH):RS:=U1 us fun x1=>
 kOR (vBox x1 H) fun t2 h3=>
 fd 48 0 t2 fun t4=>
 ld 9 t4 h3 fun t5=>
 K c 149 [t5] h3 fun t6 h7=>
 ob (vUn .not t6) fun t8=>
 ob (GV.asB t8) fun q9=>jn (bC q9 (oN [t2] h7) (oR [(.bool false)] h7)) fun vs10 h11=>U1 vs10 fun a12=>kOR (vMakeMap h11) fun t13 h14=>
 fd 48 1 a12 fun t15=>
 ld 45 t15 h14 fun t16=>
 ln 45 t16 fun t17=>
 jn (nB 0 (ql 20 [a12,t13,t16,t17,(i 0)] h14)) fun vs18 h19=>U1 vs18 fun a20=>kOR (vMakeMap h19) fun t21 h22=>
 fd 48 2 a20 fun t23=>
 ld 46 t23 h22 fun t24=>
 ln 46 t24 fun t25=>
 jn (nB 2 (ql 21 [t21,t24,t25,(i 0)] h22)) fun vs26 h27=>U0 vs26 (oR [(.bool true)] h27)
def L20 (c:CH) (ql:QH) (us:List GV) (H:GH):RS:=U5 us fun a28 a29 a30 a31 a32=>jn (bn .lss 3 a32 a31 fun t33=>
 ob (GV.asB t33) fun q34=>jn (bC q34 (oX 0 [a28] H) (oN [a28,a29,a30,a31,a32] H)) fun vs35 h36=>U5 vs35 fun a37 a38 a39 a40 a41=>jn (nB 1 (ix 45 a39 a41 fun t42=>
 ld 103 t42 h36 fun t43=>
 kOR (vAlloc y 103 h36) fun t44 h45=>
 kOR (vStore y 103 t44 t43 h45) fun t46 h47=>
 fd 103 0 t44 fun t48=>
 ld 9 t48 h47 fun t49=>
 K c 149 [t49] h47 fun t50 h51=>
 ob (vUn .not t50) fun t52=>
 kOR (rG t52 false h51 (some (a38,h51))) fun t53 h54=>
 kOR (rG t52 false h54 (ob (vField y 103 0 t44) fun g55=>some (g55,h54))) fun t56 h57=>
 kOR (rG t52 false h57 (ob (vLoad y 9 t56 h57) fun g58=>some (g58,h57))) fun t59 h60=>
 kOR (rG t52 false h60 (ob (vLook y 187 false t53 t59 h60) fun g61=>some (g61,h60))) fun t62 h63=>
 ob (vPick t52 (.bool true) t62) fun t64=>
 ob (GV.asB t64) fun q65=>jn (bC q65 (oN [a37,a38,t44,a39,a40,a41] h63) (oR [(.bool false)] h63)) fun vs66 h67=>U6 vs66 fun a68 a69 a70 a71 a72 a73=>fd 103 0 a70 fun t74=>
 ld 9 t74 h67 fun t75=>
 kOR (vMapUp y 187 a69 t75 (.bool true) h67) fun t76 h77=>
 oN [a68,a69,a71,a72,a73] h77)) fun vs78 h79=>U5 vs78 fun a80 a81 a82 a83 a84=>bn .add 3 a84 (i 1) fun t85=>
 oN [a80,a81,a82,a83,t85] h79) (ql 20)
def L21 (c:CH) (ql:QH) (us:List GV) (H:GH):RS:=U4 us fun a86 a87 a88 a89=>jn (bn .lss 3 a89 a88 fun t90=>
 ob (GV.asB t90) fun q91=>jn (bC q91 (oX 2 [] H) (oN [a86,a87,a88,a89] H)) fun vs92 h93=>U4 vs92 fun a94 a95 a96 a97=>jn (nB 3 (ix 46 a95 a97 fun t98=>
 ld 152 t98 h93 fun t99=>
 kOR (vAlloc y 152 h93) fun t100 h101=>
 kOR (vStore y 152 t100 t99 h101) fun t102 h103=>
 fd 152 0 t100 fun t104=>
 ld 9 t104 h103 fun t105=>
 K c 149 [t105] h103 fun t106 h107=>
 ob (vUn .not t106) fun t108=>
 kOR (rG t108 false h107 (some (a94,h107))) fun t109 h110=>
 kOR (rG t108 false h110 (ob (vField y 152 0 t100) fun g111=>some (g111,h110))) fun t112 h113=>
 kOR (rG t108 false h113 (ob (vLoad y 9 t112 h113) fun g114=>some (g114,h113))) fun t115 h116=>
 kOR (rG t108 false h116 (ob (vLook y 187 false t109 t115 h116) fun g117=>some (g117,h116))) fun t118 h119=>
 ob (vPick t108 (.bool true) t118) fun t120=>
 ob (GV.asB t120) fun q121=>jn (bC q121 (oN [a94,t100,a95,a96,a97] h119) (oR [(.bool false)] h119)) fun vs122 h123=>U5 vs122 fun a124 a125 a126 a127 a128=>fd 152 0 a125 fun t129=>
 ld 9 t129 h123 fun t130=>
 kOR (vMapUp y 187 a124 t130 (.bool true) h123) fun t131 h132=>
 oN [a124,a126,a127,a128] h132)) fun vs133 h134=>U4 vs133 fun a135 a136 a137 a138=>bn .add 3 a138 (i 1) fun t139=>
 oN [a135,a136,a137,t139] h134) (ql 21)
def B124 (c:CH) (ql:QH) (us:List GV) (H:GH):RS:=U1 us fun x1=>
 kOR (vBox x1 H) fun t2 h3=>
 fd 103 1 t2 fun t4=>
 ld 3 t4 h3 fun t5=>
 K c 155 [t5] h3 fun t6 h7=>
 ob (vUn .not t6) fun t8=>
 ob (GV.asB t8) fun q9=>jn (bC q9 (oN [t2] h7) (oR [(.bool false)] h7)) fun vs10 h11=>U1 vs10 fun a12=>fd 103 1 a12 fun t13=>
 ld 3 t13 h11 fun t14=>
 bn .neq 3 t14 (i 1) fun t15=>
 ob (GV.asB t15) fun q16=>jn (bC q16 (oN [a12] h11) (fd 103 2 a12 fun t17=>
 ld 3 t17 h11 fun t18=>
 bn .eql 3 t18 (i 0) fun t19=>
 kOR (rG t19 true h11 (ob (vField y 103 3 a12) fun g20=>some (g20,h11))) fun t21 h22=>
 kOR (rG t19 true h22 (ob (vLoad y 3 t21 h22) fun g23=>some (g23,h22))) fun t24 h25=>
 kOR (rG t19 true h25 (ob (vBin y .eql 3 t24 (i 0)) fun g26=>some (g26,h25))) fun t27 h28=>
 ob (vPick t19 t27 (.bool false)) fun t29=>
 kOR (rG t29 true h28 (ob (vField y 103 4 a12) fun g30=>some (g30,h28))) fun t31 h32=>
 kOR (rG t29 true h32 (ob (vLoad y 3 t31 h32) fun g33=>some (g33,h32))) fun t34 h35=>
 kOR (rG t29 true h35 (ob (vBin y .eql 3 t34 (i 0)) fun g36=>some (g36,h35))) fun t37 h38=>
 ob (vPick t29 t37 (.bool false)) fun t39=>
 kOR (rG t39 true h38 (ob (vField y 103 5 a12) fun g40=>some (g40,h38))) fun t41 h42=>
 kOR (rG t39 true h42 (ob (vLoad y 3 t41 h42) fun g43=>some (g43,h42))) fun t44 h45=>
 kOR (rG t39 true h45 (ob (vBin y .eql 3 t44 (i 0)) fun g46=>some (g46,h45))) fun t47 h48=>
 ob (vPick t39 t47 (.bool false)) fun t49=>
 oR [t49] h48)) fun vs50 h51=>U1 vs50 fun a52=>fd 103 2 a52 fun t53=>
 ld 3 t53 h51 fun t54=>
 K c 156 [t54,(i 0),(i 4096)] h51 fun t55 h56=>
 ob (vUn .not t55) fun t57=>
 kOR (rG t57 false h56 (ob (vField y 103 4 a52) fun g58=>some (g58,h56))) fun t59 h60=>
 kOR (rG t57 false h60 (ob (vLoad y 3 t59 h60) fun g61=>some (g61,h60))) fun t62 h63=>
 kOR (rG t57 false h63 (kOR (c 156 [t62,(i 0),(i 255)] h63) orK)) fun t64 h65=>
 kOR (rG t57 false h65 (ob (vUn .not t64) fun g66=>some (g66,h65))) fun t67 h68=>
 ob (vPick t57 (.bool true) t67) fun t69=>
 kOR (rG t69 false h68 (ob (vField y 103 5 a52) fun g70=>some (g70,h68))) fun t71 h72=>
 kOR (rG t69 false h72 (ob (vLoad y 3 t71 h72) fun g73=>some (g73,h72))) fun t74 h75=>
 kOR (rG t69 false h75 (kOR (c 156 [t74,(i 0),(i 255)] h75) orK)) fun t76 h77=>
 kOR (rG t69 false h77 (ob (vUn .not t76) fun g78=>some (g78,h77))) fun t79 h80=>
 ob (vPick t69 (.bool true) t79) fun t81=>
 ob (GV.asB t81) fun q82=>jn (bC q82 (oN [a52] h80) (oR [(.bool false)] h80)) fun vs83 h84=>U1 vs83 fun a85=>fd 103 4 a85 fun t86=>
 ld 3 t86 h84 fun t87=>
 bn .eql 3 t87 (i 0) fun t88=>
 kOR (rG t88 true h84 (ob (vField y 103 5 a85) fun g89=>some (g89,h84))) fun t90 h91=>
 kOR (rG t88 true h91 (ob (vLoad y 3 t90 h91) fun g92=>some (g92,h91))) fun t93 h94=>
 kOR (rG t88 true h94 (ob (vBin y .eql 3 t93 (i 0)) fun g95=>some (g95,h94))) fun t96 h97=>
 ob (vPick t88 t96 (.bool false)) fun t98=>
 ob (GV.asB t98) fun q99=>jn (bC q99 (oN [a85] h97) (fd 103 3 a85 fun t100=>
 ld 3 t100 h97 fun t101=>
 K c 156 [t101,(i 0),(i 4096)] h97 fun t102 h103=>
 oR [t102] h103)) fun vs104 h105=>U1 vs104 fun a106=>fd 103 4 a106 fun t107=>
 ld 3 t107 h105 fun t108=>
 bn .eql 3 t108 (i 0) fun t109=>
 kOR (rG t109 false h105 (ob (vField y 103 5 a106) fun g110=>some (g110,h105))) fun t111 h112=>
 kOR (rG t109 false h112 (ob (vLoad y 3 t111 h112) fun g113=>some (g113,h112))) fun t114 h115=>
 kOR (rG t109 false h115 (ob (vBin y .eql 3 t114 (i 0)) fun g116=>some (g116,h115))) fun t117 h118=>
 ob (vPick t109 (.bool true) t117) fun t119=>
 kOR (rG t119 true h118 (ob (vField y 103 3 a106) fun g120=>some (g120,h118))) fun t121 h122=>
 kOR (rG t119 true h122 (ob (vLoad y 3 t121 h122) fun g123=>some (g123,h122))) fun t124 h125=>
 kOR (rG t119 true h125 (kOR (c 156 [t124,(.int .i64 (.negSucc 4095)),(i 4096)] h125) orK)) fun t126 h127=>
 ob (vPick t119 t126 (.bool false)) fun t128=>
 oR [t128] h127
def B125 (c:CH) (ql:QH) (us:List GV) (H:GH):RS:=U2 us fun x1 x2=>
 kOR (vBox x1 H) fun t3 h4=>
 fd 152 2 t3 fun t5=>
 ld 150 t5 h4 fun t6=>
 ln 150 t6 fun t7=>
 bn .eql 3 t7 (i 0) fun t8=>
 kOR (rG t8 false h4 (ob (vField y 152 2 t3) fun g9=>some (g9,h4))) fun t10 h11=>
 kOR (rG t8 false h11 (ob (vLoad y 150 t10 h11) fun g12=>some (g12,h11))) fun t13 h14=>
 kOR (rG t8 false h14 (ob (vLen y 150 t13) fun g15=>some (g15,h14))) fun t16 h17=>
 kOR (rG t8 false h17 (ob (vBin y .gtr 3 t16 (i 6)) fun g18=>some (g18,h17))) fun t19 h20=>
 ob (vPick t8 (.bool true) t19) fun t21=>
 kOR (rG t21 false h20 (ob (vField y 152 1 t3) fun g22=>some (g22,h20))) fun t23 h24=>
 kOR (rG t21 false h24 (ob (vLoad y 149 t23 h24) fun g25=>some (g25,h24))) fun t26 h27=>
 kOR (rG t21 false h27 (some (x2,h27))) fun t28 h29=>
 kOR (rG t21 false h29 (kOR (c 157 [t26,t28] h29) orK)) fun t30 h31=>
 kOR (rG t21 false h31 (ob (vUn .not t30) fun g32=>some (g32,h31))) fun t33 h34=>
 ob (vPick t21 (.bool true) t33) fun t35=>
 ob (GV.asB t35) fun q36=>jn (bC q36 (oN [x2,t3] h34) (oR [(.bool false)] h34)) fun vs37 h38=>U2 vs37 fun a39 a40=>kOR (vMakeMap h38) fun t41 h42=>
 fd 152 2 a40 fun t43=>
 ld 150 t43 h42 fun t44=>
 ln 150 t44 fun t45=>
 jn (nB 0 (ql 22 [a39,t41,t44,t45,(i 0)] h42)) fun vs46 h47=>U0 vs46 (oR [(.bool true)] h47)
def L22 (c:CH) (ql:QH) (us:List GV) (H:GH):RS:=U5 us fun a48 a49 a50 a51 a52=>jn (bn .lss 3 a52 a51 fun t53=>
 ob (GV.asB t53) fun q54=>jn (bC q54 (oX 0 [] H) (oN [a48,a49,a50,a51,a52] H)) fun vs55 h56=>U5 vs55 fun a57 a58 a59 a60 a61=>jn (nB 1 (ix 150 a59 a61 fun t62=>
 ld 186 t62 h56 fun t63=>
 kOR (vAlloc y 186 h56) fun t64 h65=>
 kOR (vStore y 186 t64 t63 h65) fun t66 h67=>
 fd 186 0 t64 fun t68=>
 ld 3 t68 h67 fun t69=>
 bn .sub 3 a57 (i 1) fun t70=>
 K c 156 [t69,(i 0),t70] h67 fun t71 h72=>
 ob (vUn .not t71) fun t73=>
 kOR (rG t73 false h72 (some (a58,h72))) fun t74 h75=>
 kOR (rG t73 false h75 (ob (vField y 186 0 t64) fun g76=>some (g76,h75))) fun t77 h78=>
 kOR (rG t73 false h78 (ob (vLoad y 3 t77 h78) fun g79=>some (g79,h78))) fun t80 h81=>
 kOR (rG t73 false h81 (ob (vLook y 189 false t74 t80 h81) fun g82=>some (g82,h81))) fun t83 h84=>
 ob (vPick t73 (.bool true) t83) fun t85=>
 kOR (rG t85 false h84 (ob (vField y 186 1 t64) fun g86=>some (g86,h84))) fun t87 h88=>
 kOR (rG t85 false h88 (ob (vLoad y 149 t87 h88) fun g89=>some (g89,h88))) fun t90 h91=>
 kOR (rG t85 false h91 (some (a57,h91))) fun t92 h93=>
 kOR (rG t85 false h93 (kOR (c 157 [t90,t92] h93) orK)) fun t94 h95=>
 kOR (rG t85 false h95 (ob (vUn .not t94) fun g96=>some (g96,h95))) fun t97 h98=>
 ob (vPick t85 (.bool true) t97) fun t99=>
 ob (GV.asB t99) fun q100=>jn (bC q100 (oN [a57,a58,t64,a59,a60,a61] h98) (oR [(.bool false)] h98)) fun vs101 h102=>U6 vs101 fun a103 a104 a105 a106 a107 a108=>fd 186 0 a105 fun t109=>
 ld 3 t109 h102 fun t110=>
 kOR (vMapUp y 189 a104 t110 (.bool true) h102) fun t111 h112=>
 oN [a103,a104,a106,a107,a108] h112)) fun vs113 h114=>U5 vs113 fun a115 a116 a117 a118 a119=>bn .add 3 a119 (i 1) fun t120=>
 oN [a115,a116,a117,a118,t120] h114) (ql 22)
def B126 (c:CH) (ql:QH) (us:List GV) (H:GH):RS:=U1 us fun x1=>
 kOR (vBox x1 H) fun t2 h3=>
 fd 48 1 t2 fun t4=>
 ld 45 t4 h3 fun t5=>
 ln 45 t5 fun t6=>
 kOR (vMake y 22 t6 t6 h3) fun t7 h8=>
 fd 48 1 t2 fun t9=>
 ld 45 t9 h8 fun t10=>
 ln 45 t10 fun t11=>
 jn (nB 0 (ql 23 [t7,t10,t11,(i 0)] h8)) fun vs12 h13=>U1 vs12 fun a14=>oR [a14] h13
def L23 (c:CH) (ql:QH) (us:List GV) (H:GH):RS:=U4 us fun a15 a16 a17 a18=>jn (bn .lss 3 a18 a17 fun t19=>
 ob (GV.asB t19) fun q20=>jn (bC q20 (oX 0 [a15] H) (oN [a15,a16,a17,a18] H)) fun vs21 h22=>U4 vs21 fun a23 a24 a25 a26=>jn (nB 1 (ix 45 a24 a26 fun t27=>
 ld 103 t27 h22 fun t28=>
 kOR (vAlloc y 103 h22) fun t29 h30=>
 kOR (vStore y 103 t29 t28 h30) fun t31 h32=>
 fd 103 1 t29 fun t33=>
 ld 3 t33 h32 fun t34=>
 ix 22 a23 a26 fun t35=>
 kOR (vStore y 3 t35 t34 h32) fun t36 h37=>
 oN [a23,a24,a25,a26] h37)) fun vs38 h39=>U4 vs38 fun a40 a41 a42 a43=>bn .add 3 a43 (i 1) fun t44=>
 oN [a40,a41,a42,t44] h39) (ql 23)
def B127 (c:CH) (ql:QH) (us:List GV) (H:GH):RS:=U2 us fun x1 x2=>
 kOR (vBox x1 H) fun t3 h4=>
 fd 152 1 t3 fun t5=>
 ld 149 t5 h4 fun t6=>
 K c 158 [t6,x2,(.bool false)] h4 fun t7 h8=>
 ex 0 t7 fun t9=>
 ex 1 t7 fun t10=>
 bn .neq 3 t9 (i 2) fun t11=>
 ob (GV.asB t11) fun q12=>jn (bC q12 (oN [x2,t3] h8) (oR [(.bool false)] h8)) fun vs13 h14=>U2 vs13 fun a15 a16=>fd 152 2 a16 fun t17=>
 ld 150 t17 h14 fun t18=>
 ln 150 t18 fun t19=>
 jn (nB 0 (ql 24 [a15,t18,t19,(i 0)] h14)) fun vs20 h21=>U0 vs20 (oR [(.bool true)] h21)
def L24 (c:CH) (ql:QH) (us:List GV) (H:GH):RS:=U4 us fun a22 a23 a24 a25=>jn (bn .lss 3 a25 a24 fun t26=>
 ob (GV.asB t26) fun q27=>jn (bC q27 (oX 0 [] H) (oN [a22,a23,a24,a25] H)) fun vs28 h29=>U4 vs28 fun a30 a31 a32 a33=>jn (nB 1 (ix 150 a31 a33 fun t34=>
 ld 186 t34 h29 fun t35=>
 kOR (vAlloc y 186 h29) fun t36 h37=>
 kOR (vStore y 186 t36 t35 h37) fun t38 h39=>
 fd 186 1 t36 fun t40=>
 ld 149 t40 h39 fun t41=>
 K c 158 [t41,a30,(.bool false)] h39 fun t42 h43=>
 ex 0 t42 fun t44=>
 ex 1 t42 fun t45=>
 fd 186 0 t36 fun t46=>
 ld 3 t46 h43 fun t47=>
 ix 22 a30 t47 fun t48=>
 ld 3 t48 h43 fun t49=>
 bn .neq 3 t44 t49 fun t50=>
 ob (GV.asB t50) fun q51=>jn (bC q51 (oN [a30,a31,a32,a33] h43) (oR [(.bool false)] h43)) fun vs52 h53=>U4 vs52 fun a54 a55 a56 a57=>oN [a54,a55,a56,a57] h53)) fun vs58 h59=>U4 vs58 fun a60 a61 a62 a63=>bn .add 3 a63 (i 1) fun t64=>
 oN [a60,a61,a62,t64] h59) (ql 24)
def B128 (c:CH) (ql:QH) (us:List GV) (H:GH):RS:=U2 us fun x1 x2=>
 kOR (vBox x1 H) fun t3 h4=>
 kOR (vBox x2 h4) fun t5 h6=>
 ld 48 t3 h6 fun t7=>
 K c 159 [t7] h6 fun t8 h9=>
 ob (vUn .not t8) fun t10=>
 ob (GV.asB t10) fun q11=>jn (bC q11 (oN [t3,t5] h9) (oR [(i 8)] h9)) fun vs12 h13=>U2 vs12 fun a14 a15=>ld 25 a15 h13 fun t16=>
 K c 32 [t16] h13 fun t17 h18=>
 ob (vUn .not t17) fun t19=>
 ob (GV.asB t19) fun q20=>jn (bC q20 (oN [a14,a15] h18) (oR [(i 1)] h18)) fun vs21 h22=>U2 vs21 fun a23 a24=>fd 48 1 a23 fun t25=>
 ld 45 t25 h22 fun t26=>
 ln 45 t26 fun t27=>
 jn (nB 0 (ql 25 [a24,t26,t27,(i 0)] h22)) fun vs28 h29=>U0 vs28 (oR [(i 0)] h29)
def L25 (c:CH) (ql:QH) (us:List GV) (H:GH):RS:=U4 us fun a30 a31 a32 a33=>jn (bn .lss 3 a33 a32 fun t34=>
 ob (GV.asB t34) fun q35=>jn (bC q35 (oX 0 [] H) (oN [a30,a31,a32,a33] H)) fun vs36 h37=>U4 vs36 fun a38 a39 a40 a41=>jn (nB 1 (ix 45 a39 a41 fun t42=>
 ld 103 t42 h37 fun t43=>
 kOR (vAlloc y 103 h37) fun t44 h45=>
 kOR (vStore y 103 t44 t43 h45) fun t46 h47=>
 fd 103 1 t44 fun t48=>
 ld 3 t48 h47 fun t49=>
 bn .neq 3 t49 (i 1) fun t50=>
 ob (GV.asB t50) fun q51=>jn (bC q51 (oN [a38,t44,a39,a40,a41] h47) (oX 1 [a38,a39,a40,a41] h47)) fun vs52 h53=>U5 vs52 fun a54 a55 a56 a57 a58=>ld 103 a55 h53 fun t59=>
 ld 25 a54 h53 fun t60=>
 K c 160 [t59,t60,(i 0)] h53 fun t61 h62=>
 ex 0 t61 fun t63=>
 ex 1 t61 fun t64=>
 bn .lss 3 t64 t63 fun t65=>
 kOR (rG t65 false h62 (some (t64,h62))) fun t66 h67=>
 kOR (rG t65 false h67 (some (t63,h67))) fun t68 h69=>
 kOR (rG t65 false h69 (ob (vBin y .sub 3 t66 t68) fun g70=>some (g70,h69))) fun t71 h72=>
 kOR (rG t65 false h72 (ob (vBin y .add 3 t71 (i 1)) fun g73=>some (g73,h72))) fun t74 h75=>
 kOR (rG t65 false h75 (ob (vBin y .gtr 3 t74 (i 4096)) fun g76=>some (g76,h75))) fun t77 h78=>
 ob (vPick t65 (.bool true) t77) fun t79=>
 ob (GV.asB t79) fun q80=>jn (bC q80 (oN [a54,a56,a57,a58] h78) (oR [(i 9)] h78)) fun vs81 h82=>U4 vs81 fun a83 a84 a85 a86=>oN [a83,a84,a85,a86] h82)) fun vs87 h88=>U4 vs87 fun a89 a90 a91 a92=>bn .add 3 a92 (i 1) fun t93=>
 oN [a89,a90,a91,t93] h88) (ql 25)
def B129 (c:CH) (ql:QH) (us:List GV) (H:GH):RS:=U2 us fun x1 x2=>
 ln 30 x2 fun t3=>
 ln 158 x1 fun t4=>
 bn .neq 3 t3 t4 fun t5=>
 ob (GV.asB t5) fun q6=>jn (bC q6 (oN [x1,x2] H) (oR [(.bool false)] H)) fun vs7 h8=>U2 vs7 fun a9 a10=>ln 158 a9 fun t11=>
 jn (nB 0 (ql 26 [a10,a9,t11,(i 0)] h8)) fun vs12 h13=>U0 vs12 (oR [(.bool true)] h13)
def L26 (c:CH) (ql:QH) (us:List GV) (H:GH):RS:=U4 us fun a14 a15 a16 a17=>jn (bn .lss 3 a17 a16 fun t18=>
 ob (GV.asB t18) fun q19=>jn (bC q19 (oX 0 [] H) (oN [a14,a15,a16,a17] H)) fun vs20 h21=>U4 vs20 fun a22 a23 a24 a25=>jn (nB 1 (ix 158 a23 a25 fun t26=>
 ld 193 t26 h21 fun t27=>
 ix 30 a22 a25 fun t28=>
 ld 22 t28 h21 fun t29=>
 K c 161 [t27,t29] h21 fun t30 h31=>
 ob (vUn .not t30) fun t32=>
 ob (GV.asB t32) fun q33=>jn (bC q33 (oN [a22,a23,a24,a25] h31) (oR [(.bool false)] h31)) fun vs34 h35=>U4 vs34 fun a36 a37 a38 a39=>oN [a36,a37,a38,a39] h35)) fun vs40 h41=>U4 vs40 fun a42 a43 a44 a45=>bn .add 3 a45 (i 1) fun t46=>
 oN [a42,a43,a44,t46] h41) (ql 26)
def B130 (c:CH) (ql:QH) (us:List GV) (H:GH):RS:=U2 us fun x1 x2=>
 kOR (vBox x1 H) fun t3 h4=>
 kOR (vBox x2 h4) fun t5 h6=>
 fd 25 0 t5 fun t7=>
 ld 22 t7 h6 fun t8=>
 ln 22 t8 fun t9=>
 kOR (vMake y 158 t9 t9 h6) fun t10 h11=>
 ln 158 t10 fun t12=>
 jn (nB 0 (ql 27 [t3,t5,t10,t12,(i 0)] h11)) fun vs13 h14=>U1 vs13 fun a15=>oR [a15] h14
def L27 (c:CH) (ql:QH) (us:List GV) (H:GH):RS:=U5 us fun a16 a17 a18 a19 a20=>jn (bn .lss 3 a20 a19 fun t21=>
 ob (GV.asB t21) fun q22=>jn (bC q22 (oX 0 [a18] H) (oN [a16,a17,a18,a19,a20] H)) fun vs23 h24=>U5 vs23 fun a25 a26 a27 a28 a29=>jn (nB 1 (fd 48 1 a25 fun t30=>
 ld 45 t30 h24 fun t31=>
 ln 45 t31 fun t32=>
 kOR (vMake y 193 t32 t32 h24) fun t33 h34=>
 ix 158 a27 a29 fun t35=>
 kOR (vStore y 193 t35 t33 h34) fun t36 h37=>
 fd 48 1 a25 fun t38=>
 ld 45 t38 h37 fun t39=>
 ln 45 t39 fun t40=>
 jn (nB 2 (ql 28 [a25,a26,a27,a29,a28,a29,t39,t40,(i 0)] h37)) fun vs41 h42=>U5 vs41 fun a43 a44 a45 a46 a47=>oN [a43,a44,a45,a46,a47] h42)) fun vs48 h49=>U5 vs48 fun a50 a51 a52 a53 a54=>bn .add 3 a54 (i 1) fun t55=>
 oN [a50,a51,a52,a53,t55] h49) (ql 27)
def L28 (c:CH) (ql:QH) (us:List GV) (H:GH):RS:=U9 us fun a56 a57 a58 a59 a60 a61 a62 a63 a64=>jn (bn .lss 3 a64 a63 fun t65=>
 ob (GV.asB t65) fun q66=>jn (bC q66 (oX 2 [a56,a57,a58,a60,a61] H) (oN [a56,a57,a58,a59,a60,a61,a62,a63,a64] H)) fun vs67 h68=>U9 vs67 fun a69 a70 a71 a72 a73 a74 a75 a76 a77=>jn (nB 3 (ix 45 a75 a77 fun t78=>
 ld 103 t78 h68 fun t79=>
 kOR (vAlloc y 103 h68) fun t80 h81=>
 kOR (vStore y 103 t80 t79 h81) fun t82 h83=>
 ix 158 a71 a72 fun t84=>
 ld 193 t84 h83 fun t85=>
 ob (Option.casesOn (motive:=fun _=>Option (Option (Nat×Nat))) (ob (GV.asP t84) fun p=>some p.1) (some none) fun k87=>ob (GH.ver h83 k87) fun k88=>some (some (k87,k88))) fun e86=>
 ix 158 a71 a72 fun t89=>
 ld 193 t89 h83 fun t90=>
 ob (Option.casesOn (motive:=fun _=>Option (Option (Nat×Nat))) (ob (GV.asP t89) fun p=>some p.1) (some none) fun k92=>ob (GH.ver h83 k92) fun k93=>some (some (k92,k93))) fun e91=>
 ld 103 t80 h83 fun t94=>
 ob (Option.casesOn (motive:=fun _=>Option (Option (Nat×Nat))) (ob (GV.asP t80) fun p=>some p.1) (some none) fun k96=>ob (GH.ver h83 k96) fun k97=>some (some (k96,k97))) fun e95=>
 ld 25 a70 h83 fun t98=>
 ob (Option.casesOn (motive:=fun _=>Option (Option (Nat×Nat))) (ob (GV.asP a70) fun p=>some p.1) (some none) fun k100=>ob (GH.ver h83 k100) fun k101=>some (some (k100,k101))) fun e99=>
 K c 160 [t94,t98,a72] h83 fun t102 h103=>
 ob (pck h103 e91 (pck h103 e86 (some ()))) fun _=>
 ex 0 t102 fun t104=>
 ex 1 t102 fun t105=>
 ix 193 t85 a77 fun t106=>
 ix 123 t106 (i 0) fun t107=>
 kOR (vStore y 3 t107 t104 h103) fun t108 h109=>
 ob (some ()) fun _=>
 ix 193 t90 a77 fun t110=>
 ix 123 t110 (i 1) fun t111=>
 kOR (vStore y 3 t111 t105 h109) fun t112 h113=>
 ob (some ()) fun _=>
 oN [a69,a70,a71,a72,a73,a74,a75,a76,a77] h113)) fun vs114 h115=>U9 vs114 fun a116 a117 a118 a119 a120 a121 a122 a123 a124=>bn .add 3 a124 (i 1) fun t125=>
 oN [a116,a117,a118,a119,a120,a121,a122,a123,t125] h115) (ql 28)
def B131 (c:CH) (ql:QH) (us:List GV) (H:GH):RS:=U2 us fun x1 x2=>
 kOR (vBox x1 H) fun t3 h4=>
 kOR (vBox x2 h4) fun t5 h6=>
 ld 48 t3 h6 fun t7=>
 ob (Option.casesOn (motive:=fun _=>Option (Option (Nat×Nat))) (ob (GV.asP t3) fun p=>some p.1) (some none) fun k9=>ob (GH.ver h6 k9) fun k10=>some (some (k9,k10))) fun e8=>
 ld 25 t5 h6 fun t11=>
 ob (Option.casesOn (motive:=fun _=>Option (Option (Nat×Nat))) (ob (GV.asP t5) fun p=>some p.1) (some none) fun k13=>ob (GH.ver h6 k13) fun k14=>some (some (k13,k14))) fun e12=>
 fd 25 1 t5 fun t15=>
 ld 23 t15 h6 fun t16=>
 ob (Option.casesOn (motive:=fun _=>Option (Option (Nat×Nat))) (ob (GV.asP t15) fun p=>some p.1) (some none) fun k18=>ob (GH.ver h6 k18) fun k19=>some (some (k18,k19))) fun e17=>
 ln 23 t16 fun t20=>
 kOR (vMake y 30 t20 t20 h6) fun t21 h22=>
 ob (pck h22 e12 (pck h22 e8 (some ()))) fun _=>
 bd 196 [(0,t7),(1,t11),(3,t21)] fun t23=>
 kOR (vBox t23 h22) fun t24 h25=>
 ob (some ()) fun _=>
 fd 25 1 t5 fun t26=>
 ld 23 t26 h25 fun t27=>
 ln 23 t27 fun t28=>
 jn (nB 0 (ql 29 [t5,t24,t27,t28,(i 0)] h25)) fun vs29 h30=>U1 vs29 fun a31=>oR [a31] h30
def L29 (c:CH) (ql:QH) (us:List GV) (H:GH):RS:=U5 us fun a32 a33 a34 a35 a36=>jn (bn .lss 3 a36 a35 fun t37=>
 ob (GV.asB t37) fun q38=>jn (bC q38 (oX 0 [a33] H) (oN [a32,a33,a34,a35,a36] H)) fun vs39 h40=>U5 vs39 fun a41 a42 a43 a44 a45=>jn (nB 1 (ix 23 a43 a45 fun t46=>
 ld 84 t46 h40 fun t47=>
 ob (GV.nilck a42) fun t48=>
 fd 196 2 t48 fun t49=>
 ld 3 t49 h40 fun t50=>
 fd 25 0 a41 fun t51=>
 ld 22 t51 h40 fun t52=>
 ix 22 t52 a45 fun t53=>
 ld 3 t53 h40 fun t54=>
 ob (vMax t50 t54) fun t55=>
 ob (GV.nilck a42) fun t56=>
 fd 196 2 t56 fun t57=>
 kOR (vStore y 3 t57 t55 h40) fun t58 h59=>
 ln 84 t47 fun t60=>
 jn (nB 2 (ql 30 [a41,a42,a45,a43,a44,a45,t47,t60,(i 0)] h59)) fun vs61 h62=>U5 vs61 fun a63 a64 a65 a66 a67=>oN [a63,a64,a65,a66,a67] h62)) fun vs68 h69=>U5 vs68 fun a70 a71 a72 a73 a74=>bn .add 3 a74 (i 1) fun t75=>
 oN [a70,a71,a72,a73,t75] h69) (ql 29)
def L30 (c:CH) (ql:QH) (us:List GV) (H:GH):RS:=U9 us fun a76 a77 a78 a79 a80 a81 a82 a83 a84=>jn (bn .lss 3 a84 a83 fun t85=>
 ob (GV.asB t85) fun q86=>jn (bC q86 (oX 2 [a76,a77,a79,a80,a81] H) (oN [a76,a77,a78,a79,a80,a81,a82,a83,a84] H)) fun vs87 h88=>U9 vs87 fun a89 a90 a91 a92 a93 a94 a95 a96 a97=>jn (nB 3 (ix 84 a95 a97 fun t98=>
 ld 87 t98 h88 fun t99=>
 kOR (vAlloc y 87 h88) fun t100 h101=>
 kOR (vStore y 87 t100 t99 h101) fun t102 h103=>
 ob (GV.nilck a90) fun t104=>
 fd 196 3 t104 fun t105=>
 ld 30 t105 h103 fun t106=>
 ob (Option.casesOn (motive:=fun _=>Option (Option (Nat×Nat))) (ob (GV.asP t105) fun p=>some p.1) (some none) fun k108=>ob (GH.ver h103 k108) fun k109=>some (some (k108,k109))) fun e107=>
 ob (GV.nilck a90) fun t110=>
 fd 196 3 t110 fun t111=>
 ld 30 t111 h103 fun t112=>
 ob (Option.casesOn (motive:=fun _=>Option (Option (Nat×Nat))) (ob (GV.asP t111) fun p=>some p.1) (some none) fun k114=>ob (GH.ver h103 k114) fun k115=>some (some (k114,k115))) fun e113=>
 ix 30 t112 a91 fun t116=>
 ld 22 t116 h103 fun t117=>
 ob (Option.casesOn (motive:=fun _=>Option (Option (Nat×Nat))) (ob (GV.asP t116) fun p=>some p.1) (some none) fun k119=>ob (GH.ver h103 k119) fun k120=>some (some (k119,k120))) fun e118=>
 ld 25 a89 h103 fun t121=>
 ob (Option.casesOn (motive:=fun _=>Option (Option (Nat×Nat))) (ob (GV.asP a89) fun p=>some p.1) (some none) fun k123=>ob (GH.ver h103 k123) fun k124=>some (some (k123,k124))) fun e122=>
 fd 87 0 t100 fun t125=>
 ld 3 t125 h103 fun t126=>
 ob (Option.casesOn (motive:=fun _=>Option (Option (Nat×Nat))) (ob (GV.asP t125) fun p=>some p.1) (some none) fun k128=>ob (GH.ver h103 k128) fun k129=>some (some (k128,k129))) fun e127=>
 K c 162 [t121,t126,a91] h103 fun t130 h131=>
 ob (pck h131 e118 (pck h131 e113 (pck h131 e107 (some ())))) fun _=>
 kOR (vBuildS y 22 1 [(0,t130)] h131) fun t132 h133=>
 ob (pck h133 e118 (pck h133 e113 (pck h133 e107 (some ())))) fun _=>
 kOR (vApp y 22 22 t117 t132 h133) fun t134 h135=>
 ob (pck h135 e107 (some ())) fun _=>
 ix 30 t106 a91 fun t136=>
 kOR (vStore y 22 t136 t134 h135) fun t137 h138=>
 ob (some ()) fun _=>
 oN [a89,a90,a91,a92,a93,a94,a95,a96,a97] h138)) fun vs139 h140=>U9 vs139 fun a141 a142 a143 a144 a145 a146 a147 a148 a149=>bn .add 3 a149 (i 1) fun t150=>
 oN [a141,a142,a143,a144,a145,a146,a147,a148,t150] h140) (ql 30)
def B132 (c:CH) (ql:QH) (us:List GV) (H:GH):RS:=U1 us fun x1=>
 ln 30 x1 fun t2=>
 kOR (vMake y 30 t2 t2 H) fun t3 h4=>
 ln 30 x1 fun t5=>
 jn (nB 0 (ql 31 [t3,x1,t5,(i 0)] h4)) fun vs6 h7=>U1 vs6 fun a8=>oR [a8] h7
def L31 (c:CH) (ql:QH) (us:List GV) (H:GH):RS:=U4 us fun a9 a10 a11 a12=>jn (bn .lss 3 a12 a11 fun t13=>
 ob (GV.asB t13) fun q14=>jn (bC q14 (oX 0 [a9] H) (oN [a9,a10,a11,a12] H)) fun vs15 h16=>U4 vs15 fun a17 a18 a19 a20=>jn (nB 1 (ix 30 a18 a20 fun t21=>
 ld 22 t21 h16 fun t22=>
 kOR (vApp y 22 22 .snil t22 h16) fun t23 h24=>
 ix 30 a17 a20 fun t25=>
 kOR (vStore y 22 t25 t23 h24) fun t26 h27=>
 oN [a17,a18,a19,a20] h27)) fun vs28 h29=>U4 vs28 fun a30 a31 a32 a33=>bn .add 3 a33 (i 1) fun t34=>
 oN [a30,a31,a32,t34] h29) (ql 31)
def B133 (c:CH) (ql:QH) (us:List GV) (H:GH):RS:=U2 us fun x1 x2=>
 kOR (vBox x1 H) fun t3 h4=>
 kOR (vBox x2 h4) fun t5 h6=>
 ld 92 t3 h6 fun t7=>
 ob (GV.nilck t7) fun t8=>
 fd 163 2 t8 fun t9=>
 ld 158 t9 h6 fun t10=>
 ln 158 t10 fun t11=>
 K c 163 [t11,(.fn 164 [] [t3,t5])] h6 fun t12 h13=>
 oR [t12] h13
def B134 (c:CH) (ql:QH) (us:List GV) (H:GH):RS:=U1 us fun x1=>
 kOR (vAlloc y 56 H) fun t2 h3=>
 bn .and 26 x1 (.int .u32 (.ofNat 16777215)) fun t4=>
 bd 56 [(4,t4)] fun t5=>
 kOR (vStore y 56 t2 t5 h3) fun t6 h7=>
 ob (ob (vLoad y 56 t2 h7) fun r8=>some [r8]) fun vs9=>oR vs9 h7
def B136 (c:CH) (ql:QH) (us:List GV) (H:GH):RS:=U3 us fun x1 x2 x3=>
 K c 132 [x2] H fun t4 h5=>
 ln 30 x2 fun t6=>
 jn (nB 0 (ql 32 [x1,x2,x3,t4,t6,(i 0)] h5)) fun vs7 h8=>U1 vs7 fun a9=>oR [a9] h8
def L32 (c:CH) (ql:QH) (us:List GV) (H:GH):RS:=U6 us fun a10 a11 a12 a13 a14 a15=>jn (bn .lss 3 a15 a14 fun t16=>
 ob (GV.asB t16) fun q17=>jn (bC q17 (oX 0 [a13] H) (oN [a10,a11,a12,a13,a14,a15] H)) fun vs18 h19=>U6 vs18 fun a20 a21 a22 a23 a24 a25=>jn (nB 1 (bn .shr 26 a22 a25 fun t26=>
 bn .and 26 t26 (.int .u32 (.ofNat 1)) fun t27=>
 bn .eql 26 t27 (.int .u32 (.ofNat 1)) fun t28=>
 ob (GV.asB t28) fun q29=>jn (bC q29 (oN [a20,a21,a22,a23,a24,a25] h19) (K c 165 [a20,a21,a25] h19 fun t30 h31=>
 K c 167 [a20,a21,a25,t30] h31 fun t32 h33=>
 ix 30 a23 a25 fun t34=>
 kOR (vStore y 22 t34 t32 h33) fun t35 h36=>
 oN [a20,a21,a22,a23,a24,a25] h36)) fun vs37 h38=>U6 vs37 fun a39 a40 a41 a42 a43 a44=>oN [a39,a40,a41,a42,a43,a44] h38)) fun vs45 h46=>U6 vs45 fun a47 a48 a49 a50 a51 a52=>bn .add 3 a52 (i 1) fun t53=>
 oN [a47,a48,a49,a50,a51,t53] h46) (ql 32)
def B137 (c:CH) (ql:QH) (us:List GV) (H:GH):RS:=U3 us fun x1 x2 x3=>
 kOR (vBox x1 H) fun t4 h5=>
 kOR (vAlloc y 56 h5) fun t6 h7=>
 ld 56 t4 h7 fun t8=>
 K c 168 [t8] h7 fun t9 h10=>
 ob (vUn .not t9) fun t11=>
 ob (GV.asB t11) fun q12=>jn (bC q12 (oN [x2,x3,t4,t6] h10) (bd 56 [] fun t13=>
 kOR (vStore y 56 t6 t13 h10) fun t14 h15=>
 ob (ob (vLoad y 56 t6 h15) fun r16=>some [r16,(i 7)]) fun vs17=>oR vs17 h15)) fun vs18 h19=>U4 vs18 fun a20 a21 a22 a23=>bn .eql 26 a20 (.int .u32 (.ofNat 0)) fun t24=>
 kOR (rG t24 false h19 (some (a20,h19))) fun t25 h26=>
 kOR (rG t24 false h26 (some (a21,h26))) fun t27 h28=>
 kOR (rG t24 false h28 (kOR (vBuildS y 51 2 [(0,t25),(1,t27)] h28) orK)) fun t29 h30=>
 kOR (rG t24 false h30 (kOR (c 169 [t29] h30) orK)) fun t31 h32=>
 kOR (rG t24 false h32 (ob (vUn .not t31) fun g33=>some (g33,h32))) fun t34 h35=>
 ob (vPick t24 (.bool true) t34) fun t36=>
 ob (GV.asB t36) fun q37=>jn (bC q37 (oN [a20,a21,a22,a23] h35) (bd 56 [] fun t38=>
 kOR (vStore y 56 a23 t38 h35) fun t39 h40=>
 ob (ob (vLoad y 56 a23 h40) fun r41=>some [r41,(i 11)]) fun vs42=>oR vs42 h40)) fun vs43 h44=>U4 vs43 fun a45 a46 a47 a48=>fd 56 0 a47 fun t49=>
 ld 3 t49 h44 fun t50=>
 bn .eql 3 t50 (i 4096) fun t51=>
 ob (GV.asB t51) fun q52=>jn (bC q52 (oN [a45,a46,a47,a48] h44) (bd 56 [] fun t53=>
 kOR (vStore y 56 a48 t53 h44) fun t54 h55=>
 ob (ob (vLoad y 56 a48 h55) fun r56=>some [r56,(i 3)]) fun vs57=>oR vs57 h55)) fun vs58 h59=>U4 vs58 fun a60 a61 a62 a63=>fd 56 0 a62 fun t64=>
 ld 3 t64 h59 fun t65=>
 bn .add 3 t65 (i 1) fun t66=>
 fd 56 0 a62 fun t67=>
 kOR (vStore y 3 t67 t66 h59) fun t68 h69=>
 fd 56 1 a62 fun t70=>
 ld 3 t70 h69 fun t71=>
 ob (Option.casesOn (motive:=fun _=>Option (Option (Nat×Nat))) (ob (GV.asP t70) fun p=>some p.1) (some none) fun k73=>ob (GH.ver h69 k73) fun k74=>some (some (k73,k74))) fun e72=>
 K c 170 [a60] h69 fun t75 h76=>
 ob (pck h76 e72 (some ())) fun _=>
 bn .add 3 t71 t75 fun t77=>
 fd 56 1 a62 fun t78=>
 kOR (vStore y 3 t78 t77 h76) fun t79 h80=>
 ob (some ()) fun _=>
 fd 56 2 a62 fun t81=>
 ld 3 t81 h80 fun t82=>
 bn .add 3 t82 (i 1) fun t83=>
 fd 56 3 a62 fun t84=>
 kOR (vStore y 3 t84 t83 h80) fun t85 h86=>
 fd 56 4 a62 fun t87=>
 ld 26 t87 h86 fun t88=>
 bn .andNot 26 t88 a60 fun t89=>
 bn .and 26 t89 a61 fun t90=>
 fd 56 4 a62 fun t91=>
 kOR (vStore y 26 t91 t90 h86) fun t92 h93=>
 fd 56 4 a62 fun t94=>
 ld 26 t94 h93 fun t95=>
 bn .eql 26 t95 (.int .u32 (.ofNat 0)) fun t96=>
 ob (GV.asB t96) fun q97=>jn (bC q97 (oN [a62,a63] h93) (fd 56 3 a62 fun t98=>
 ld 3 t98 h93 fun t99=>
 fd 56 2 a62 fun t100=>
 kOR (vStore y 3 t100 t99 h93) fun t101 h102=>
 fd 56 4 a62 fun t103=>
 kOR (vStore y 26 t103 a61 h102) fun t104 h105=>
 oN [a62,a63] h105)) fun vs106 h107=>U2 vs106 fun a108 a109=>ld 56 a108 h107 fun t110=>
 kOR (vStore y 56 a109 t110 h107) fun t111 h112=>
 ob (ob (vLoad y 56 a109 h112) fun r113=>some [r113,(i 0)]) fun vs114=>oR vs114 h112
def B140 (c:CH) (ql:QH) (us:List GV) (H:GH):RS:=U3 us fun x1 x2 x3=>
 ld 3 x2 H fun t4=>
 jn (nB 0 (ql 33 [x1,x3,t4] H)) fun vs5 h6=>U1 vs5 fun a7=>oR [a7] h6
def L33 (c:CH) (ql:QH) (us:List GV) (H:GH):RS:=U3 us fun a8 a9 a10=>jn (ld 9 a9 H fun t11=>
 ln 9 t11 fun t12=>
 bn .lss 3 a10 t12 fun t13=>
 kOR (rG t13 true H (some (a8,H))) fun t14 h15=>
 kOR (rG t13 true h15 (ob (vLoad y 9 a9 h15) fun g16=>some (g16,h15))) fun t17 h18=>
 kOR (rG t13 true h18 (some (a10,h18))) fun t19 h20=>
 kOR (rG t13 true h20 (ob (vAt y 9 t17 t19) fun g21=>some (g21,h20))) fun t22 h23=>
 kOR (rG t13 true h23 (ob (GV.asF t14) fun p24=>kOR (c p24.1 (p24.2.1++[t22]++p24.2.2) h23) orK)) fun t25 h26=>
 ob (vPick t13 t25 (.bool false)) fun t27=>
 ob (GV.asB t27) fun q28=>jn (bC q28 (oX 0 [a10] h26) (oN [a8,a9,a10] h26)) fun vs29 h30=>U3 vs29 fun a31 a32 a33=>jn (nB 1 (bn .add 3 a33 (i 1) fun t34=>
 oN [a31,a32,t34] h30)) fun vs35 h36=>U3 vs35 fun a37 a38 a39=>oN [a37,a38,a39] h36) (ql 33)
def B141 (c:CH) (ql:QH) (us:List GV) (H:GH):RS:=U1 us fun x1=>
 bn .geq 5 x1 (.int .u8 (.ofNat 97)) fun t2=>
 kOR (rG t2 true H (some (x1,H))) fun t3 h4=>
 kOR (rG t2 true h4 (ob (vBin y .leq 5 t3 (.int .u8 (.ofNat 122))) fun g5=>some (g5,h4))) fun t6 h7=>
 ob (vPick t2 t6 (.bool false)) fun t8=>
 kOR (rG t8 false h7 (some (x1,h7))) fun t9 h10=>
 kOR (rG t8 false h10 (ob (vBin y .geq 5 t9 (.int .u8 (.ofNat 65))) fun g11=>some (g11,h10))) fun t12 h13=>
 kOR (rG t8 false h13 (some (t12,h13))) fun t14 h15=>
 kOR (rG t14 true h15 (some (x1,h15))) fun t16 h17=>
 kOR (rG t14 true h17 (ob (vBin y .leq 5 t16 (.int .u8 (.ofNat 90))) fun g18=>some (g18,h17))) fun t19 h20=>
 kOR (rG t8 false h20 (ob (vPick t14 t19 (.bool false)) fun g21=>some (g21,h20))) fun t22 h23=>
 ob (vPick t8 (.bool true) t22) fun t24=>
 oR [t24] h23
def B142 (c:CH) (ql:QH) (us:List GV) (H:GH):RS:=U1 us fun x1=>
 K c 141 [x1] H fun t2 h3=>
 kOR (rG t2 false h3 (some (x1,h3))) fun t4 h5=>
 kOR (rG t2 false h5 (kOR (c 143 [t4] h5) orK)) fun t6 h7=>
 ob (vPick t2 (.bool true) t6) fun t8=>
 kOR (rG t8 false h7 (some (x1,h7))) fun t9 h10=>
 kOR (rG t8 false h10 (ob (vBin y .eql 5 t9 (.int .u8 (.ofNat 95))) fun g11=>some (g11,h10))) fun t12 h13=>
 ob (vPick t8 (.bool true) t12) fun t14=>
 oR [t14] h13
def B143 (c:CH) (ql:QH) (us:List GV) (H:GH):RS:=U1 us fun x1=>
 bn .geq 5 x1 (.int .u8 (.ofNat 48)) fun t2=>
 kOR (rG t2 true H (some (x1,H))) fun t3 h4=>
 kOR (rG t2 true h4 (ob (vBin y .leq 5 t3 (.int .u8 (.ofNat 57))) fun g5=>some (g5,h4))) fun t6 h7=>
 ob (vPick t2 t6 (.bool false)) fun t8=>
 oR [t8] h7
def B144 (c:CH) (ql:QH) (us:List GV) (H:GH):RS:=U1 us fun x1=>
 ob (vAt y 9 x1 (i 0)) fun t2=>
 bn .eql 5 t2 (.int .u8 (.ofNat 48)) fun t3=>
 kOR (rG t3 true H (some (x1,H))) fun t4 h5=>
 kOR (rG t3 true h5 (ob (vLen y 9 t4) fun g6=>some (g6,h5))) fun t7 h8=>
 kOR (rG t3 true h8 (ob (vBin y .gtr 3 t7 (i 1)) fun g9=>some (g9,h8))) fun t10 h11=>
 ob (vPick t3 t10 (.bool false)) fun t12=>
 ob (GV.asB t12) fun q13=>jn (bC q13 (oN [x1] h11) (oR [(i 0),(.bool false)] h11)) fun vs14 h15=>U1 vs14 fun a16=>ln 9 a16 fun t17=>
 jn (nB 0 (ql 34 [a16,(i 0),t17,(i 0)] h15)) fun vs18 h19=>U1 vs18 fun a20=>oR [a20,(.bool true)] h19
def L34 (c:CH) (ql:QH) (us:List GV) (H:GH):RS:=U4 us fun a21 a22 a23 a24=>jn (bn .lss 3 a24 a23 fun t25=>
 ob (GV.asB t25) fun q26=>jn (bC q26 (oX 0 [a22] H) (oN [a21,a22,a23,a24] H)) fun vs27 h28=>U4 vs27 fun a29 a30 a31 a32=>jn (nB 1 (bn .mul 3 (i 10) a30 fun t33=>
 ob (vAt y 9 a29 a32) fun t34=>
 bn .sub 5 t34 (.int .u8 (.ofNat 48)) fun t35=>
 ob (vConv y 5 3 t35) fun t36=>
 bn .add 3 t33 t36 fun t37=>
 bn .gtr 3 t37 (i 1073741824) fun t38=>
 ob (GV.asB t38) fun q39=>jn (bC q39 (oN [a29,t37,a31,a32] h28) (oR [(i 0),(.bool false)] h28)) fun vs40 h41=>U4 vs40 fun a42 a43 a44 a45=>oN [a42,a43,a44,a45] h41)) fun vs46 h47=>U4 vs46 fun a48 a49 a50 a51=>bn .add 3 a51 (i 1) fun t52=>
 oN [a48,a49,a50,t52] h47) (ql 34)
def B145 (c:CH) (ql:QH) (us:List GV) (H:GH):RS:=U1 us fun x1=>
 kOR (vBuildS y 113 9 [(0,(.str 11822 2)),(1,(.str 15917 2)),(2,(.str 15674 2)),(3,(.str 9766 2)),(4,(.str 31868 2)),(5,(.str 15677 2)),(6,(.str 15649 2)),(7,(.str 15676 2)),(8,(.str 15678 2))] H) fun t2 h3=>
 ln 113 t2 fun t4=>
 jn (nB 0 (ql 35 [x1,t2,t4,(i 0)] h3)) fun vs5 h6=>U1 vs5 fun a7=>ob (vAt y 9 a7 (i 0)) fun t8=>
 K c 174 [(.str 172099982263598878148345807877454395 15),t8] h6 fun t9 h10=>
 bn .geq 3 t9 (i 0) fun t11=>
 ob (GV.asB t11) fun q12=>jn (bC q12 (oN [] h10) (oR [(i 1)] h10)) fun vs13 h14=>U0 vs13 (oR [(i 0)] h14)
def L35 (c:CH) (ql:QH) (us:List GV) (H:GH):RS:=U4 us fun a15 a16 a17 a18=>jn (bn .lss 3 a18 a17 fun t19=>
 ob (GV.asB t19) fun q20=>jn (bC q20 (oX 0 [a15] H) (oN [a15,a16,a17,a18] H)) fun vs21 h22=>U4 vs21 fun a23 a24 a25 a26=>jn (nB 1 (ix 113 a24 a26 fun t27=>
 ld 9 t27 h22 fun t28=>
 K c 173 [a23,t28] h22 fun t29 h30=>
 ob (GV.asB t29) fun q31=>jn (bC q31 (oN [a23,a24,a25,a26] h30) (oR [(i 2)] h30)) fun vs32 h33=>U4 vs32 fun a34 a35 a36 a37=>oN [a34,a35,a36,a37] h33)) fun vs38 h39=>U4 vs38 fun a40 a41 a42 a43=>bn .add 3 a43 (i 1) fun t44=>
 oN [a40,a41,a42,t44] h39) (ql 35)
def B146 (c:CH) (ql:QH) (us:List GV) (H:GH):RS:=U2 us fun x1 x2=>
 K c 147 [x1] H fun t3 h4=>
 bn .neq 9 t3 x2 fun t5=>
 ob (GV.asB t5) fun q6=>jn (bC q6 (oN [x1] h4) (oR [(.bool false)] h4)) fun vs7 h8=>U1 vs7 fun a9=>K c 150 [a9] h8 fun t10 h11=>
 oR [(.bool true)] h11
def B147 (c:CH) (ql:QH) (us:List GV) (H:GH):RS:=U1 us fun x1=>
 ob (GV.nilck x1) fun t2=>
 fd 115 1 t2 fun t3=>
 ld 109 t3 H fun t4=>
 ln 109 t4 fun t5=>
 bn .eql 3 t5 (i 0) fun t6=>
 ob (GV.asB t6) fun q7=>jn (bC q7 (oN [x1] H) (oR [(.str 0 0)] H)) fun vs8 h9=>U1 vs8 fun a10=>ob (GV.nilck a10) fun t11=>
 fd 115 0 t11 fun t12=>
 ld 9 t12 h9 fun t13=>
 ob (GV.nilck a10) fun t14=>
 fd 115 1 t14 fun t15=>
 ld 109 t15 h9 fun t16=>
 ix 109 t16 (i 0) fun t17=>
 fd 136 1 t17 fun t18=>
 ld 3 t18 h9 fun t19=>
 ob (GV.nilck a10) fun t20=>
 fd 115 1 t20 fun t21=>
 ld 109 t21 h9 fun t22=>
 ix 109 t22 (i 0) fun t23=>
 fd 136 2 t23 fun t24=>
 ld 3 t24 h9 fun t25=>
 ob (vSlice y 9 t13 (some t19) (some t25) h9) fun t26=>
 oR [t26] h9
def B148 (c:CH) (ql:QH) (us:List GV) (H:GH):RS:=U1 us fun x1=>
 ob (GV.nilck x1) fun t2=>
 fd 115 1 t2 fun t3=>
 ld 109 t3 H fun t4=>
 ln 109 t4 fun t5=>
 bn .eql 3 t5 (i 0) fun t6=>
 ob (GV.asB t6) fun q7=>jn (bC q7 (oN [x1] H) (oR [(i 0)] H)) fun vs8 h9=>U1 vs8 fun a10=>ob (GV.nilck a10) fun t11=>
 fd 115 1 t11 fun t12=>
 ld 109 t12 h9 fun t13=>
 ix 109 t13 (i 0) fun t14=>
 fd 136 0 t14 fun t15=>
 ld 3 t15 h9 fun t16=>
 oR [t16] h9
def B149 (c:CH) (ql:QH) (us:List GV) (H:GH):RS:=U1 us fun x1=>
 ln 9 x1 fun t2=>
 bn .lss 3 t2 (i 1) fun t3=>
 kOR (rG t3 false H (some (x1,H))) fun t4 h5=>
 kOR (rG t3 false h5 (ob (vLen y 9 t4) fun g6=>some (g6,h5))) fun t7 h8=>
 kOR (rG t3 false h8 (ob (vBin y .gtr 3 t7 (i 24)) fun g9=>some (g9,h8))) fun t10 h11=>
 ob (vPick t3 (.bool true) t10) fun t12=>
 kOR (rG t12 false h11 (some (x1,h11))) fun t13 h14=>
 kOR (rG t12 false h14 (ob (vAt y 9 t13 (i 0)) fun g15=>some (g15,h14))) fun t16 h17=>
 kOR (rG t12 false h17 (kOR (c 141 [t16] h17) orK)) fun t18 h19=>
 kOR (rG t12 false h19 (ob (vUn .not t18) fun g20=>some (g20,h19))) fun t21 h22=>
 ob (vPick t12 (.bool true) t21) fun t23=>
 ob (GV.asB t23) fun q24=>jn (bC q24 (oN [x1] h22) (oR [(.bool false)] h22)) fun vs25 h26=>U1 vs25 fun a27=>ln 9 a27 fun t28=>
 jn (nB 0 (ql 36 [a27,t28,(i 0)] h26)) fun vs29 h30=>U1 vs29 fun a31=>K c 175 [a31] h30 fun t32 h33=>
 ob (vUn .not t32) fun t34=>
 oR [t34] h33
def L36 (c:CH) (ql:QH) (us:List GV) (H:GH):RS:=U3 us fun a35 a36 a37=>jn (bn .lss 3 a37 a36 fun t38=>
 ob (GV.asB t38) fun q39=>jn (bC q39 (oX 0 [a35] H) (oN [a35,a36,a37] H)) fun vs40 h41=>U3 vs40 fun a42 a43 a44=>jn (nB 1 (ob (vAt y 9 a42 a44) fun t45=>
 K c 142 [t45] h41 fun t46 h47=>
 ob (vUn .not t46) fun t48=>
 ob (GV.asB t48) fun q49=>jn (bC q49 (oN [a42,a43,a44] h47) (oR [(.bool false)] h47)) fun vs50 h51=>U3 vs50 fun a52 a53 a54=>oN [a52,a53,a54] h51)) fun vs55 h56=>U3 vs55 fun a57 a58 a59=>bn .add 3 a59 (i 1) fun t60=>
 oN [a57,a58,t60] h56) (ql 36)
def B150 (c:CH) (ql:QH) (us:List GV) (H:GH):RS:=U1 us fun x1=>
 kOR (vAlloc y 136 H) fun t2 h3=>
 ob (GV.nilck x1) fun t4=>
 fd 115 1 t4 fun t5=>
 ld 109 t5 h3 fun t6=>
 ln 109 t6 fun t7=>
 bn .eql 3 t7 (i 0) fun t8=>
 ob (GV.asB t8) fun q9=>jn (bC q9 (oN [x1,t2] h3) (K c 122 [x1,(i 4)] h3 fun t10 h11=>
 oN [x1,t2] h11)) fun vs12 h13=>U2 vs12 fun a14 a15=>ob (GV.nilck a14) fun t16=>
 fd 115 1 t16 fun t17=>
 ld 109 t17 h13 fun t18=>
 ix 109 t18 (i 0) fun t19=>
 ld 136 t19 h13 fun t20=>
 kOR (vAlloc y 136 h13) fun t21 h22=>
 kOR (vStore y 136 t21 t20 h22) fun t23 h24=>
 ob (GV.nilck a14) fun t25=>
 fd 115 1 t25 fun t26=>
 ld 109 t26 h24 fun t27=>
 ob (vSlice y 109 t27 (some (i 1)) none h24) fun t28=>
 ob (GV.nilck a14) fun t29=>
 fd 115 1 t29 fun t30=>
 kOR (vStore y 109 t30 t28 h24) fun t31 h32=>
 ld 136 t21 h32 fun t33=>
 kOR (vStore y 136 a15 t33 h32) fun t34 h35=>
 ob (ob (vLoad y 136 a15 h35) fun r36=>some [r36]) fun vs37=>oR vs37 h35
def B151 (c:CH) (ql:QH) (us:List GV) (H:GH):RS:=U3 us fun x1 x2 x3=>
 ob (GV.nilck x1) fun t4=>
 fd 117 0 t4 fun t5=>
 K c 148 [t5] H fun t6 h7=>
 bn .neq 3 t6 (i 2) fun t8=>
 ob (GV.asB t8) fun q9=>jn (bC q9 (oN [x1,x2,x3] h7) (ob (GV.nilck x1) fun t10=>
 fd 117 0 t10 fun t11=>
 K c 122 [t11,(i 4)] h7 fun t12 h13=>
 oN [x1,x2,x3] h13)) fun vs14 h15=>U3 vs14 fun a16 a17 a18=>ob (GV.nilck a16) fun t19=>
 fd 117 0 t19 fun t20=>
 fd 115 1 t20 fun t21=>
 ld 109 t21 h15 fun t22=>
 ix 109 t22 (i 0) fun t23=>
 fd 136 3 t23 fun t24=>
 ld 3 t24 h15 fun t25=>
 bn .lss 3 t25 a17 fun t26=>
 kOR (rG t26 false h15 (some (t25,h15))) fun t27 h28=>
 kOR (rG t26 false h28 (some (a18,h28))) fun t29 h30=>
 kOR (rG t26 false h30 (ob (vBin y .gtr 3 t27 t29) fun g31=>some (g31,h30))) fun t32 h33=>
 ob (vPick t26 (.bool true) t32) fun t34=>
 ob (GV.asB t34) fun q35=>jn (bC q35 (oN [a16] h33) (ob (GV.nilck a16) fun t36=>
 fd 117 0 t36 fun t37=>
 K c 122 [t37,(i 2)] h33 fun t38 h39=>
 oN [a16] h39)) fun vs40 h41=>U1 vs40 fun a42=>ob (GV.nilck a42) fun t43=>
 fd 117 0 t43 fun t44=>
 K c 150 [t44] h41 fun t45 h46=>
 pt 136 3 t45 fun t47=>
 oR [t47] h46
def B152 (c:CH) (ql:QH) (us:List GV) (H:GH):RS:=U2 us fun x1 x2=>
 ob (GV.nilck x1) fun t3=>
 fd 117 0 t3 fun t4=>
 K c 148 [t4] H fun t5 h6=>
 bn .eql 3 t5 (i 2) fun t7=>
 ob (GV.asB t7) fun q8=>jn (bC q8 (oN [x1,x2,(i 1)] h6) (K c 176 [x1] h6 fun t9 h10=>
 ob (GV.nilck x1) fun t11=>
 fd 117 0 t11 fun t12=>
 K c 146 [t12,(.str 42 1)] h10 fun t13 h14=>
 ob (vUn .not t13) fun t15=>
 ob (GV.asB t15) fun q16=>jn (bC q16 (oN [x1,x2,t9] h14) (ob (GV.nilck x2) fun t17=>
 fd 103 3 t17 fun t18=>
 kOR (vStore y 3 t18 t9 h14) fun t19 h20=>
 oR [] h20)) fun vs21 h22=>U3 vs21 fun a23 a24 a25=>oN [a23,a24,a25] h22)) fun vs26 h27=>U3 vs26 fun a28 a29 a30=>jn (nB 0 (ob (GV.nilck a28) fun t31=>
 fd 117 0 t31 fun t32=>
 K c 146 [t32,(.str 110 1)] h27 fun t33 h34=>
 ob (GV.asB t33) fun q35=>jn (bC q35 (ob (GV.nilck a28) fun t40=>
 fd 117 0 t40 fun t41=>
 K c 146 [t41,(.str 7562345 3)] h34 fun t42 h43=>
 ob (GV.asB t42) fun q44=>jn (bC q44 (ob (GV.nilck a28) fun t49=>
 fd 117 0 t49 fun t50=>
 K c 122 [t50,(i 4)] h43 fun t51 h52=>
 oN [a28,a29] h52) (ob (GV.nilck a29) fun t45=>
 fd 103 5 t45 fun t46=>
 kOR (vStore y 3 t46 a30 h43) fun t47 h48=>
 oN [a28,a29] h48)) fun vs53 h54=>U2 vs53 fun a55 a56=>oN [a55,a56] h54) (ob (GV.nilck a29) fun t36=>
 fd 103 4 t36 fun t37=>
 kOR (vStore y 3 t37 a30 h34) fun t38 h39=>
 oN [a28,a29] h39)) fun vs57 h58=>U2 vs57 fun a59 a60=>oN [a59,a60] h58)) fun vs61 h62=>U2 vs61 fun a63 a64=>jn (nB 1 (ob (GV.nilck a63) fun t65=>
 fd 117 0 t65 fun t66=>
 K c 146 [t66,(.str 43 1)] h62 fun t67 h68=>
 ob (GV.asB t67) fun q69=>jn (bC q69 (ob (GV.nilck a63) fun t76=>
 fd 117 0 t76 fun t77=>
 K c 146 [t77,(.str 45 1)] h68 fun t78 h79=>
 ob (GV.asB t78) fun q80=>jn (bC q80 (oN [] h79) (K c 151 [a63,(i 0),(i 4096)] h79 fun t81 h82=>
 ob (vUn .neg t81) fun t83=>
 ob (GV.nilck a64) fun t84=>
 fd 103 3 t84 fun t85=>
 kOR (vStore y 3 t85 t83 h82) fun t86 h87=>
 oN [] h87)) fun vs88 h89=>U0 vs88 (oN [] h89)) (K c 151 [a63,(i 0),(i 4096)] h68 fun t70 h71=>
 ob (GV.nilck a64) fun t72=>
 fd 103 3 t72 fun t73=>
 kOR (vStore y 3 t73 t70 h71) fun t74 h75=>
 oN [] h75)) fun vs90 h91=>U0 vs90 (oN [] h91))) fun vs92 h93=>U0 vs92 (oR [] h93)
def B153 (c:CH) (ql:QH) (us:List GV) (H:GH):RS:=U1 us fun x1=>
 K c 177 [x1,(i 1)] H fun t2 h3=>
 K c 146 [x1,(.str 63 1)] h3 fun t4 h5=>
 ob (vUn .not t4) fun t6=>
 ob (GV.asB t6) fun q7=>jn (bC q7 (oN [x1,t2] h5) (oR [t2] h5)) fun vs8 h9=>U2 vs8 fun a10 a11=>K c 153 [a10] h9 fun t12 h13=>
 K c 116 [a10,(.str 58 1)] h13 fun t14 h15=>
 K c 153 [a10] h15 fun t16 h17=>
 kOR (vBuildS y 225 3 [(0,a11),(1,t12),(2,t16)] h17) fun t18 h19=>
 K c 178 [(i 43),t18] h19 fun t20 h21=>
 oR [t20] h21
def B154 (c:CH) (ql:QH) (us:List GV) (H:GH):RS:=U1 us fun x1=>
 K c 147 [x1] H fun t2 h3=>
 K c 148 [x1] h3 fun t4 h5=>
 bn .neq 3 t4 (i 1) fun t6=>
 kOR (rG t6 false h5 (some (t2,h5))) fun t7 h8=>
 kOR (rG t6 false h8 (kOR (c 149 [t7] h8) orK)) fun t9 h10=>
 kOR (rG t6 false h10 (ob (vUn .not t9) fun g11=>some (g11,h10))) fun t12 h13=>
 ob (vPick t6 (.bool true) t12) fun t14=>
 ob (GV.asB t14) fun q15=>jn (bC q15 (oN [x1,t2] h13) (K c 122 [x1,(i 4)] h13 fun t16 h17=>
 oN [x1,t2] h17)) fun vs18 h19=>U2 vs18 fun a20 a21=>ob (GV.nilck a20) fun t22=>
 fd 115 2 t22 fun t23=>
 ld 113 t23 h19 fun t24=>
 K c 179 [t24,a21] h19 fun t25 h26=>
 bn .lss 3 t25 (i 0) fun t27=>
 ob (GV.asB t27) fun q28=>jn (bC q28 (oN [a20,t25] h26) (K c 122 [a20,(i 5)] h26 fun t29 h30=>
 oN [a20,t25] h30)) fun vs31 h32=>U2 vs31 fun a33 a34=>K c 150 [a33] h32 fun t35 h36=>
 oR [a34] h36
def B155 (c:CH) (ql:QH) (us:List GV) (H:GH):RS:=U1 us fun x1=>
 bn .eql 3 x1 (i 1) fun t2=>
 kOR (rG t2 false H (some (x1,H))) fun t3 h4=>
 kOR (rG t2 false h4 (ob (vBin y .eql 3 t3 (i 2)) fun g5=>some (g5,h4))) fun t6 h7=>
 ob (vPick t2 (.bool true) t6) fun t8=>
 kOR (rG t8 false h7 (some (x1,h7))) fun t9 h10=>
 kOR (rG t8 false h10 (ob (vBin y .eql 3 t9 (i 3)) fun g11=>some (g11,h10))) fun t12 h13=>
 ob (vPick t8 (.bool true) t12) fun t14=>
 oR [t14] h13
def B156 (c:CH) (ql:QH) (us:List GV) (H:GH):RS:=U3 us fun x1 x2 x3=>
 bn .geq 3 x1 x2 fun t4=>
 kOR (rG t4 true H (some (x1,H))) fun t5 h6=>
 kOR (rG t4 true h6 (some (x3,h6))) fun t7 h8=>
 kOR (rG t4 true h8 (ob (vBin y .leq 3 t5 t7) fun g9=>some (g9,h8))) fun t10 h11=>
 ob (vPick t4 t10 (.bool false)) fun t12=>
 oR [t12] h11
def B157 (c:CH) (ql:QH) (us:List GV) (H:GH):RS:=U2 us fun x1 x2=>
 ln 149 x1 fun t3=>
 bn .gtr 3 t3 (i 200) fun t4=>
 kOR (rG t4 false H (some (x1,H))) fun t5 h6=>
 kOR (rG t4 false h6 (kOR (c 180 [t5,(i 0)] h6) orK)) fun t7 h8=>
 kOR (rG t4 false h8 (some (x1,h8))) fun t9 h10=>
 kOR (rG t4 false h10 (ob (vLen y 149 t9) fun g11=>some (g11,h10))) fun t12 h13=>
 kOR (rG t4 false h13 (ob (vBin y .neq 3 t7 t12) fun g14=>some (g14,h13))) fun t15 h16=>
 ob (vPick t4 (.bool true) t15) fun t17=>
 ob (GV.asB t17) fun q18=>jn (bC q18 (oN [x1,x2] h16) (oR [(.bool false)] h16)) fun vs19 h20=>U2 vs19 fun a21 a22=>ln 149 a21 fun t23=>
 jn (nB 0 (ql 37 [a21,a22,a21,t23,(i 0)] h20)) fun vs24 h25=>U1 vs24 fun a26=>K c 182 [a26] h25 fun t27 h28=>
 bn .leq 3 t27 (i 24) fun t29=>
 kOR (rG t29 true h28 (some (a26,h28))) fun t30 h31=>
 kOR (rG t29 true h31 (kOR (c 183 [t30] h31) orK)) fun t32 h33=>
 kOR (rG t29 true h33 (ob (vBin y .leq 3 t32 (i 2)) fun g34=>some (g34,h33))) fun t35 h36=>
 ob (vPick t29 t35 (.bool false)) fun t37=>
 oR [t37] h36
def L37 (c:CH) (ql:QH) (us:List GV) (H:GH):RS:=U5 us fun a38 a39 a40 a41 a42=>jn (bn .lss 3 a42 a41 fun t43=>
 ob (GV.asB t43) fun q44=>jn (bC q44 (oX 0 [a38] H) (oN [a38,a39,a40,a41,a42] H)) fun vs45 h46=>U5 vs45 fun a47 a48 a49 a50 a51=>jn (nB 1 (ix 149 a49 a51 fun t52=>
 ld 211 t52 h46 fun t53=>
 kOR (vAlloc y 211 h46) fun t54 h55=>
 kOR (vStore y 211 t54 t53 h55) fun t56 h57=>
 ld 211 t54 h57 fun t58=>
 K c 181 [t58,a48] h57 fun t59 h60=>
 ob (vUn .not t59) fun t61=>
 ob (GV.asB t61) fun q62=>jn (bC q62 (oN [a47,a48,a49,a50,a51] h60) (oR [(.bool false)] h60)) fun vs63 h64=>U5 vs63 fun a65 a66 a67 a68 a69=>oN [a65,a66,a67,a68,a69] h64)) fun vs70 h71=>U5 vs70 fun a72 a73 a74 a75 a76=>bn .add 3 a76 (i 1) fun t77=>
 oN [a72,a73,a74,a75,t77] h71) (ql 37)
def B158 (c:CH) (ql:QH) (us:List GV) (H:GH):RS:=U3 us fun x1 x2 x3=>
 ln 22 x2 fun t4=>
 bn .gtr 3 t4 (i 6) fun t5=>
 ob (GV.asB t5) fun q6=>jn (bC q6 (oN [x1,x2,x3] H) (oR [(i 0),(i 7)] H)) fun vs7 h8=>U3 vs7 fun a9 a10 a11=>ln 22 a10 fun t12=>
 jn (nB 0 (ql 38 [a9,a10,a11,a10,t12,(i 0)] h8)) fun vs13 h14=>U3 vs13 fun a15 a16 a17=>ln 22 a16 fun t18=>
 K c 157 [a15,t18] h14 fun t19 h20=>
 ob (vUn .not t19) fun t21=>
 ob (GV.asB t21) fun q22=>jn (bC q22 (oN [a15,a16,a17] h20) (oR [(i 0),(i 7)] h20)) fun vs23 h24=>U3 vs23 fun a25 a26 a27=>bd 215 [(0,a25),(1,a26)] fun t28=>
 kOR (vAlloc y 215 h24) fun t29 h30=>
 kOR (vStore y 215 t29 t28 h30) fun t31 h32=>
 ld 215 t29 h32 fun t33=>
 K c 184 [t33,(i 0),a27] h32 fun t34 h35=>
 ex 0 t34 fun t36=>
 ex 1 t34 fun t37=>
 bn .eql 3 t36 (i 0) fun t38=>
 ob (GV.asB t38) fun q39=>jn (bC q39 (oN [t36] h35) (oR [(i 0),(i 6)] h35)) fun vs40 h41=>U1 vs40 fun a42=>oR [a42,(i 0)] h41
def L38 (c:CH) (ql:QH) (us:List GV) (H:GH):RS:=U6 us fun a43 a44 a45 a46 a47 a48=>jn (bn .lss 3 a48 a47 fun t49=>
 ob (GV.asB t49) fun q50=>jn (bC q50 (oX 0 [a43,a44,a45] H) (oN [a43,a44,a45,a46,a47,a48] H)) fun vs51 h52=>U6 vs51 fun a53 a54 a55 a56 a57 a58=>jn (nB 1 (ix 22 a56 a58 fun t59=>
 ld 3 t59 h52 fun t60=>
 K c 155 [t60] h52 fun t61 h62=>
 ob (vUn .not t61) fun t63=>
 ob (GV.asB t63) fun q64=>jn (bC q64 (oN [a53,a54,a55,a56,a57,a58] h62) (oR [(i 0),(i 7)] h62)) fun vs65 h66=>U6 vs65 fun a67 a68 a69 a70 a71 a72=>oN [a67,a68,a69,a70,a71,a72] h66)) fun vs73 h74=>U6 vs73 fun a75 a76 a77 a78 a79 a80=>bn .add 3 a80 (i 1) fun t81=>
 oN [a75,a76,a77,a78,a79,t81] h74) (ql 38)
def B159 (c:CH) (ql:QH) (us:List GV) (H:GH):RS:=U1 us fun x1=>
 kOR (vBox x1 H) fun t2 h3=>
 ld 48 t2 h3 fun t4=>
 K c 97 [t4] h3 fun t5 h6=>
 bn .eql 42 t5 (i 0) fun t7=>
 oR [t7] h6
def B160 (c:CH) (ql:QH) (us:List GV) (H:GH):RS:=U3 us fun x1 x2 x3=>
 kOR (vBox x1 H) fun t4 h5=>
 kOR (vBox x2 h5) fun t6 h7=>
 bd 218 [(0,(i 1)),(1,(.fn 185 [] []))] fun t8=>
 bd 218 [(0,(i 2)),(1,(.fn 187 [] []))] fun t9=>
 bd 218 [(0,(i 3)),(1,(.fn 188 [] []))] fun t10=>
 kOR (vBuildS y 219 3 [(0,t8),(1,t9),(2,t10)] h7) fun t11 h12=>
 ln 219 t11 fun t13=>
 jn (nB 0 (ql 39 [x3,t4,t6,t11,t13,(i 0)] h12)) fun vs14 h15=>U0 vs14 (oR [(i 0),(.int .i64 (.negSucc 0))] h15)
def L39 (c:CH) (ql:QH) (us:List GV) (H:GH):RS:=U6 us fun a16 a17 a18 a19 a20 a21=>jn (bn .lss 3 a21 a20 fun t22=>
 ob (GV.asB t22) fun q23=>jn (bC q23 (oX 0 [] H) (oN [a16,a17,a18,a19,a20,a21] H)) fun vs24 h25=>U6 vs24 fun a26 a27 a28 a29 a30 a31=>jn (nB 1 (ix 219 a29 a31 fun t32=>
 ld 218 t32 h25 fun t33=>
 kOR (vAlloc y 218 h25) fun t34 h35=>
 kOR (vStore y 218 t34 t33 h35) fun t36 h37=>
 fd 218 0 t34 fun t38=>
 ld 3 t38 h37 fun t39=>
 fd 103 1 a27 fun t40=>
 ld 3 t40 h37 fun t41=>
 bn .eql 3 t39 t41 fun t42=>
 ob (GV.asB t42) fun q43=>jn (bC q43 (oN [a26,a27,a28,a29,a30,a31] h37) (fd 218 1 t34 fun t44=>
 ld 192 t44 h37 fun t45=>
 ld 103 a27 h37 fun t46=>
 ld 25 a28 h37 fun t47=>
 ob (GV.asF t45) fun p50=>kOR (c p50.1 (p50.2.1++[t46,t47,a26]++p50.2.2) h37) fun t48 h49=>
 ex 0 t48 fun t51=>
 ex 1 t48 fun t52=>
 oR [t51,t52] h49)) fun vs53 h54=>U6 vs53 fun a55 a56 a57 a58 a59 a60=>oN [a55,a56,a57,a58,a59,a60] h54)) fun vs61 h62=>U6 vs61 fun a63 a64 a65 a66 a67 a68=>bn .add 3 a68 (i 1) fun t69=>
 oN [a63,a64,a65,a66,a67,t69] h62) (ql 39)
def B161 (c:CH) (ql:QH) (us:List GV) (H:GH):RS:=U2 us fun x1 x2=>
 ln 22 x2 fun t3=>
 ln 193 x1 fun t4=>
 bn .neq 3 t3 t4 fun t5=>
 ob (GV.asB t5) fun q6=>jn (bC q6 (oN [x1,x2] H) (oR [(.bool false)] H)) fun vs7 h8=>U2 vs7 fun a9 a10=>ln 22 a10 fun t11=>
 jn (nB 0 (ql 40 [a9,a10,t11,(i 0)] h8)) fun vs12 h13=>U0 vs12 (oR [(.bool true)] h13)
def L40 (c:CH) (ql:QH) (us:List GV) (H:GH):RS:=U4 us fun a14 a15 a16 a17=>jn (bn .lss 3 a17 a16 fun t18=>
 ob (GV.asB t18) fun q19=>jn (bC q19 (oX 0 [] H) (oN [a14,a15,a16,a17] H)) fun vs20 h21=>U4 vs20 fun a22 a23 a24 a25=>jn (nB 1 (ix 22 a23 a25 fun t26=>
 ld 3 t26 h21 fun t27=>
 ix 193 a22 a25 fun t28=>
 ix 123 t28 (i 0) fun t29=>
 ld 3 t29 h21 fun t30=>
 bn .lss 3 t27 t30 fun t31=>
 kOR (rG t31 false h21 (some (t27,h21))) fun t32 h33=>
 kOR (rG t31 false h33 (some (a22,h33))) fun t34 h35=>
 kOR (rG t31 false h35 (some (a25,h35))) fun t36 h37=>
 kOR (rG t31 false h37 (ob (vIndex y 193 t34 t36) fun g38=>some (g38,h37))) fun t39 h40=>
 kOR (rG t31 false h40 (ob (vIndex y 123 t39 (i 1)) fun g41=>some (g41,h40))) fun t42 h43=>
 kOR (rG t31 false h43 (ob (vLoad y 3 t42 h43) fun g44=>some (g44,h43))) fun t45 h46=>
 kOR (rG t31 false h46 (ob (vBin y .gtr 3 t32 t45) fun g47=>some (g47,h46))) fun t48 h49=>
 ob (vPick t31 (.bool true) t48) fun t50=>
 ob (GV.asB t50) fun q51=>jn (bC q51 (oN [a22,a23,a24,a25] h49) (oR [(.bool false)] h49)) fun vs52 h53=>U4 vs52 fun a54 a55 a56 a57=>oN [a54,a55,a56,a57] h53)) fun vs58 h59=>U4 vs58 fun a60 a61 a62 a63=>bn .add 3 a63 (i 1) fun t64=>
 oN [a60,a61,a62,t64] h59) (ql 40)
def B162 (c:CH) (ql:QH) (us:List GV) (H:GH):RS:=U3 us fun x1 x2 x3=>
 kOR (vBox x1 H) fun t4 h5=>
 fd 25 1 t4 fun t6=>
 ld 23 t6 h5 fun t7=>
 ix 23 t7 x2 fun t8=>
 ld 84 t8 h5 fun t9=>
 ln 84 t9 fun t10=>
 jn (nB 0 (ql 41 [x3,t9,t10,(i 0)] h5)) fun vs11 h12=>U0 vs11 (oR [(.int .i64 (.negSucc 0))] h12)
def L41 (c:CH) (ql:QH) (us:List GV) (H:GH):RS:=U4 us fun a13 a14 a15 a16=>jn (bn .lss 3 a16 a15 fun t17=>
 ob (GV.asB t17) fun q18=>jn (bC q18 (oX 0 [] H) (oN [a13,a14,a15,a16] H)) fun vs19 h20=>U4 vs19 fun a21 a22 a23 a24=>jn (nB 1 (ix 84 a22 a24 fun t25=>
 ld 87 t25 h20 fun t26=>
 kOR (vAlloc y 87 h20) fun t27 h28=>
 kOR (vStore y 87 t27 t26 h28) fun t29 h30=>
 fd 87 0 t27 fun t31=>
 ld 3 t31 h30 fun t32=>
 bn .eql 3 t32 a21 fun t33=>
 ob (GV.asB t33) fun q34=>jn (bC q34 (oN [a21,a22,a23,a24] h30) (oR [a24] h30)) fun vs35 h36=>U4 vs35 fun a37 a38 a39 a40=>oN [a37,a38,a39,a40] h36)) fun vs41 h42=>U4 vs41 fun a43 a44 a45 a46=>bn .add 3 a46 (i 1) fun t47=>
 oN [a43,a44,a45,t47] h42) (ql 41)
def B163 (c:CH) (ql:QH) (us:List GV) (H:GH):RS:=U2 us fun x1 x2=>
 jn (nB 0 (ql 42 [x2,(.int .u32 (.ofNat 0)),x1,(i 0)] H)) fun vs3 h4=>U1 vs3 fun a5=>oR [a5] h4
def L42 (c:CH) (ql:QH) (us:List GV) (H:GH):RS:=U4 us fun a6 a7 a8 a9=>jn (bn .lss 3 a9 a8 fun t10=>
 ob (GV.asB t10) fun q11=>jn (bC q11 (oX 0 [a7] H) (oN [a6,a7,a8,a9] H)) fun vs12 h13=>U4 vs12 fun a14 a15 a16 a17=>jn (nB 1 (ob (GV.asF a14) fun p20=>kOR (c p20.1 (p20.2.1++[a17]++p20.2.2) h13) fun t18 h19=>
 ob (GV.asB t18) fun q21=>jn (bC q21 (oN [a14,a15,a16,a17] h19) (bn .shl 26 (.int .u32 (.ofNat 1)) a17 fun t22=>
 bn .or 26 a15 t22 fun t23=>
 oN [a14,t23,a16,a17] h19)) fun vs24 h25=>U4 vs24 fun a26 a27 a28 a29=>oN [a26,a27,a28,a29] h25)) fun vs30 h31=>U4 vs30 fun a32 a33 a34 a35=>bn .add 3 a35 (i 1) fun t36=>
 oN [a32,a33,a34,t36] h31) (ql 42)
def B164 (c:CH) (ql:QH) (us:List GV) (H:GH):RS:=U3 us fun x1 x2 x3=>
 ld 92 x2 H fun t4=>
 ld 30 x3 H fun t5=>
 K c 165 [t4,t5,x1] H fun t6 h7=>
 bn .geq 3 t6 (i 0) fun t8=>
 oR [t8] h7
def B165 (c:CH) (ql:QH) (us:List GV) (H:GH):RS:=U3 us fun x1 x2 x3=>
 ob (GV.nilck x1) fun t4=>
 fd 163 0 t4 fun t5=>
 fd 48 2 t5 fun t6=>
 ld 46 t6 H fun t7=>
 ln 46 t7 fun t8=>
 jn (nB 0 (ql 43 [x1,x2,x3,t8,(i 0)] H)) fun vs9 h10=>U0 vs9 (oR [(.int .i64 (.negSucc 0))] h10)
def L43 (c:CH) (ql:QH) (us:List GV) (H:GH):RS:=U5 us fun a11 a12 a13 a14 a15=>jn (bn .lss 3 a15 a14 fun t16=>
 ob (GV.asB t16) fun q17=>jn (bC q17 (oX 0 [] H) (oN [a11,a12,a13,a14,a15] H)) fun vs18 h19=>U5 vs18 fun a20 a21 a22 a23 a24=>jn (nB 1 (ob (GV.nilck a20) fun t25=>
 fd 163 1 t25 fun t26=>
 ld 160 t26 h19 fun t27=>
 K c 189 [t27,a21,a22,a24] h19 fun t28 h29=>
 ob (GV.asB t28) fun q30=>jn (bC q30 (oN [a20,a21,a22,a23,a24] h29) (oR [a24] h29)) fun vs31 h32=>U5 vs31 fun a33 a34 a35 a36 a37=>oN [a33,a34,a35,a36,a37] h32)) fun vs38 h39=>U5 vs38 fun a40 a41 a42 a43 a44=>bn .add 3 a44 (i 1) fun t45=>
 oN [a40,a41,a42,a43,t45] h39) (ql 43)
def B167 (c:CH) (ql:QH) (us:List GV) (H:GH):RS:=U4 us fun x1 x2 x3 x4=>
 ix 30 x2 x3 fun t5=>
 ld 22 t5 H fun t6=>
 kOR (vApp y 22 22 .snil t6 H) fun t7 h8=>
 ob (GV.nilck x1) fun t9=>
 fd 163 0 t9 fun t10=>
 fd 48 2 t10 fun t11=>
 ld 46 t11 h8 fun t12=>
 ix 46 t12 x4 fun t13=>
 fd 152 2 t13 fun t14=>
 ld 150 t14 h8 fun t15=>
 ln 150 t15 fun t16=>
 jn (nB 0 (ql 44 [x1,x2,x3,t7,t15,t16,(i 0)] h8)) fun vs17 h18=>U1 vs17 fun a19=>oR [a19] h18
def L44 (c:CH) (ql:QH) (us:List GV) (H:GH):RS:=U7 us fun a20 a21 a22 a23 a24 a25 a26=>jn (bn .lss 3 a26 a25 fun t27=>
 ob (GV.asB t27) fun q28=>jn (bC q28 (oX 0 [a23] H) (oN [a20,a21,a22,a23,a24,a25,a26] H)) fun vs29 h30=>U7 vs29 fun a31 a32 a33 a34 a35 a36 a37=>jn (nB 1 (ix 150 a35 a37 fun t38=>
 ld 186 t38 h30 fun t39=>
 kOR (vAlloc y 186 h30) fun t40 h41=>
 kOR (vStore y 186 t40 t39 h41) fun t42 h43=>
 ob (GV.nilck a31) fun t44=>
 fd 163 1 t44 fun t45=>
 ld 160 t45 h43 fun t46=>
 fd 186 1 t40 fun t47=>
 ld 149 t47 h43 fun t48=>
 K c 190 [t46,a32,a33,t48] h43 fun t49 h50=>
 fd 186 0 t40 fun t51=>
 ld 3 t51 h50 fun t52=>
 ob (Option.casesOn (motive:=fun _=>Option (Option (Nat×Nat))) (ob (GV.asP t51) fun p=>some p.1) (some none) fun k54=>ob (GH.ver h50 k54) fun k55=>some (some (k54,k55))) fun e53=>
 ob (GV.nilck a31) fun t56=>
 fd 163 0 t56 fun t57=>
 fd 48 1 t57 fun t58=>
 ld 45 t58 h50 fun t59=>
 ob (Option.casesOn (motive:=fun _=>Option (Option (Nat×Nat))) (ob (GV.asP t58) fun p=>some p.1) (some none) fun k61=>ob (GH.ver h50 k61) fun k62=>some (some (k61,k62))) fun e60=>
 fd 186 0 t40 fun t63=>
 ld 3 t63 h50 fun t64=>
 ob (Option.casesOn (motive:=fun _=>Option (Option (Nat×Nat))) (ob (GV.asP t63) fun p=>some p.1) (some none) fun k66=>ob (GH.ver h50 k66) fun k67=>some (some (k66,k67))) fun e65=>
 ix 45 t59 t64 fun t68=>
 fd 103 1 t68 fun t69=>
 ld 3 t69 h50 fun t70=>
 ob (Option.casesOn (motive:=fun _=>Option (Option (Nat×Nat))) (ob (GV.asP t69) fun p=>some p.1) (some none) fun k72=>ob (GH.ver h50 k72) fun k73=>some (some (k72,k73))) fun e71=>
 ob (GV.nilck a31) fun t74=>
 fd 163 2 t74 fun t75=>
 ld 158 t75 h50 fun t76=>
 ob (Option.casesOn (motive:=fun _=>Option (Option (Nat×Nat))) (ob (GV.asP t75) fun p=>some p.1) (some none) fun k78=>ob (GH.ver h50 k78) fun k79=>some (some (k78,k79))) fun e77=>
 ix 158 t76 a33 fun t80=>
 ld 193 t80 h50 fun t81=>
 ob (Option.casesOn (motive:=fun _=>Option (Option (Nat×Nat))) (ob (GV.asP t80) fun p=>some p.1) (some none) fun k83=>ob (GH.ver h50 k83) fun k84=>some (some (k83,k84))) fun e82=>
 fd 186 0 t40 fun t85=>
 ld 3 t85 h50 fun t86=>
 ob (Option.casesOn (motive:=fun _=>Option (Option (Nat×Nat))) (ob (GV.asP t85) fun p=>some p.1) (some none) fun k88=>ob (GH.ver h50 k88) fun k89=>some (some (k88,k89))) fun e87=>
 ix 193 t81 t86 fun t90=>
 ld 123 t90 h50 fun t91=>
 ob (Option.casesOn (motive:=fun _=>Option (Option (Nat×Nat))) (ob (GV.asP t90) fun p=>some p.1) (some none) fun k93=>ob (GH.ver h50 k93) fun k94=>some (some (k93,k94))) fun e92=>
 K c 191 [t70,t91,t49] h50 fun t95 h96=>
 ob (pck h96 e53 (some ())) fun _=>
 ix 22 a34 t52 fun t97=>
 kOR (vStore y 3 t97 t95 h96) fun t98 h99=>
 ob (some ()) fun _=>
 oN [a31,a32,a33,a34,a35,a36,a37] h99)) fun vs100 h101=>U7 vs100 fun a102 a103 a104 a105 a106 a107 a108=>bn .add 3 a108 (i 1) fun t109=>
 oN [a102,a103,a104,a105,a106,a107,t109] h101) (ql 44)
def B168 (c:CH) (ql:QH) (us:List GV) (H:GH):RS:=U1 us fun x1=>
 kOR (vBox x1 H) fun t2 h3=>
 fd 56 0 t2 fun t4=>
 ld 3 t4 h3 fun t5=>
 bn .lss 3 t5 (i 0) fun t6=>
 kOR (rG t6 false h3 (ob (vField y 56 0 t2) fun g7=>some (g7,h3))) fun t8 h9=>
 kOR (rG t6 false h9 (ob (vLoad y 3 t8 h9) fun g10=>some (g10,h9))) fun t11 h12=>
 kOR (rG t6 false h12 (ob (vBin y .gtr 3 t11 (i 4096)) fun g13=>some (g13,h12))) fun t14 h15=>
 ob (vPick t6 (.bool true) t14) fun t16=>
 kOR (rG t16 false h15 (ob (vField y 56 2 t2) fun g17=>some (g17,h15))) fun t18 h19=>
 kOR (rG t16 false h19 (ob (vLoad y 3 t18 h19) fun g20=>some (g20,h19))) fun t21 h22=>
 kOR (rG t16 false h22 (ob (vBin y .lss 3 t21 (i 0)) fun g23=>some (g23,h22))) fun t24 h25=>
 ob (vPick t16 (.bool true) t24) fun t26=>
 kOR (rG t26 false h25 (ob (vField y 56 2 t2) fun g27=>some (g27,h25))) fun t28 h29=>
 kOR (rG t26 false h29 (ob (vLoad y 3 t28 h29) fun g30=>some (g30,h29))) fun t31 h32=>
 kOR (rG t26 false h32 (ob (vField y 56 3 t2) fun g33=>some (g33,h32))) fun t34 h35=>
 kOR (rG t26 false h35 (ob (vLoad y 3 t34 h35) fun g36=>some (g36,h35))) fun t37 h38=>
 kOR (rG t26 false h38 (ob (vBin y .gtr 3 t31 t37) fun g39=>some (g39,h38))) fun t40 h41=>
 ob (vPick t26 (.bool true) t40) fun t42=>
 kOR (rG t42 false h41 (ob (vField y 56 3 t2) fun g43=>some (g43,h41))) fun t44 h45=>
 kOR (rG t42 false h45 (ob (vLoad y 3 t44 h45) fun g46=>some (g46,h45))) fun t47 h48=>
 kOR (rG t42 false h48 (ob (vField y 56 0 t2) fun g49=>some (g49,h48))) fun t50 h51=>
 kOR (rG t42 false h51 (ob (vLoad y 3 t50 h51) fun g52=>some (g52,h51))) fun t53 h54=>
 kOR (rG t42 false h54 (ob (vBin y .gtr 3 t47 t53) fun g55=>some (g55,h54))) fun t56 h57=>
 ob (vPick t42 (.bool true) t56) fun t58=>
 ob (GV.asB t58) fun q59=>jn (bC q59 (oN [t2] h57) (oR [(.bool false)] h57)) fun vs60 h61=>U1 vs60 fun a62=>fd 56 3 a62 fun t63=>
 ld 3 t63 h61 fun t64=>
 fd 56 2 a62 fun t65=>
 ld 3 t65 h61 fun t66=>
 bn .add 3 t66 (i 1) fun t67=>
 bn .gtr 3 t64 t67 fun t68=>
 ob (GV.asB t68) fun q69=>jn (bC q69 (oN [a62] h61) (oR [(.bool false)] h61)) fun vs70 h71=>U1 vs70 fun a72=>fd 56 0 a72 fun t73=>
 ld 3 t73 h71 fun t74=>
 fd 56 1 a72 fun t75=>
 ld 3 t75 h71 fun t76=>
 bn .leq 3 t74 t76 fun t77=>
 kOR (rG t77 true h71 (ob (vField y 56 1 a72) fun g78=>some (g78,h71))) fun t79 h80=>
 kOR (rG t77 true h80 (ob (vLoad y 3 t79 h80) fun g81=>some (g81,h80))) fun t82 h83=>
 kOR (rG t77 true h83 (ob (vField y 56 0 a72) fun g84=>some (g84,h83))) fun t85 h86=>
 kOR (rG t77 true h86 (ob (vLoad y 3 t85 h86) fun g87=>some (g87,h86))) fun t88 h89=>
 kOR (rG t77 true h89 (ob (vBin y .mul 3 (i 24) t88) fun g90=>some (g90,h89))) fun t91 h92=>
 kOR (rG t77 true h92 (ob (vBin y .leq 3 t82 t91) fun g93=>some (g93,h92))) fun t94 h95=>
 ob (vPick t77 t94 (.bool false)) fun t96=>
 kOR (rG t96 true h95 (ob (vField y 56 4 a72) fun g97=>some (g97,h95))) fun t98 h99=>
 kOR (rG t96 true h99 (ob (vLoad y 26 t98 h99) fun g100=>some (g100,h99))) fun t101 h102=>
 kOR (rG t96 true h102 (kOR (vBuildS y 51 1 [(0,t101)] h102) orK)) fun t103 h104=>
 kOR (rG t96 true h104 (kOR (c 169 [t103] h104) orK)) fun t105 h106=>
 ob (vPick t96 t105 (.bool false)) fun t107=>
 oR [t107] h106
def B169 (c:CH) (ql:QH) (us:List GV) (H:GH):RS:=U1 us fun x1=>
 ln 51 x1 fun t2=>
 jn (nB 0 (ql 45 [x1,t2,(i 0)] H)) fun vs3 h4=>U0 vs3 (oR [(.bool true)] h4)
def L45 (c:CH) (ql:QH) (us:List GV) (H:GH):RS:=U3 us fun a5 a6 a7=>jn (bn .lss 3 a7 a6 fun t8=>
 ob (GV.asB t8) fun q9=>jn (bC q9 (oX 0 [] H) (oN [a5,a6,a7] H)) fun vs10 h11=>U3 vs10 fun a12 a13 a14=>jn (nB 1 (ix 51 a12 a14 fun t15=>
 ld 26 t15 h11 fun t16=>
 bn .andNot 26 t16 (.int .u32 (.ofNat 16777215)) fun t17=>
 bn .neq 26 t17 (.int .u32 (.ofNat 0)) fun t18=>
 ob (GV.asB t18) fun q19=>jn (bC q19 (oN [a12,a13,a14] h11) (oR [(.bool false)] h11)) fun vs20 h21=>U3 vs20 fun a22 a23 a24=>oN [a22,a23,a24] h21)) fun vs25 h26=>U3 vs25 fun a27 a28 a29=>bn .add 3 a29 (i 1) fun t30=>
 oN [a27,a28,t30] h26) (ql 45)
def B170 (c:CH) (ql:QH) (us:List GV) (H:GH):RS:=U1 us fun x1=>
 bn .shr 26 x1 (.int .u64 (.ofNat 24)) fun t2=>
 ob (vAt y 9 (.str 1013371797438326782088527885626145114869279839357273206994663807870378574120944418419436367054140611451049417760204952716157707395913305053141503655967864012230780761557092017373387303026677869852522838963663262406984442671150543646567039340048842837107735057250874075921518337091852213351450684411239623177375031168665231925272535801977875611804250701587889381816060971805622316951777918693305331168867185049460341980332139430100205929927472959341318173082042210036159181875921966396192956430460355834169346681316034785786016803592777021614286352739503720844564764981555889936616414321310481604187217024121026183424 256) t2) fun t3=>
 bn .shr 26 x1 (.int .u64 (.ofNat 16)) fun t4=>
 bn .and 26 t4 (.int .u32 (.ofNat 255)) fun t5=>
 ob (vAt y 9 (.str 1013371797438326782088527885626145114869279839357273206994663807870378574120944418419436367054140611451049417760204952716157707395913305053141503655967864012230780761557092017373387303026677869852522838963663262406984442671150543646567039340048842837107735057250874075921518337091852213351450684411239623177375031168665231925272535801977875611804250701587889381816060971805622316951777918693305331168867185049460341980332139430100205929927472959341318173082042210036159181875921966396192956430460355834169346681316034785786016803592777021614286352739503720844564764981555889936616414321310481604187217024121026183424 256) t5) fun t6=>
 bn .add 5 t3 t6 fun t7=>
 bn .shr 26 x1 (.int .u64 (.ofNat 8)) fun t8=>
 bn .and 26 t8 (.int .u32 (.ofNat 255)) fun t9=>
 ob (vAt y 9 (.str 1013371797438326782088527885626145114869279839357273206994663807870378574120944418419436367054140611451049417760204952716157707395913305053141503655967864012230780761557092017373387303026677869852522838963663262406984442671150543646567039340048842837107735057250874075921518337091852213351450684411239623177375031168665231925272535801977875611804250701587889381816060971805622316951777918693305331168867185049460341980332139430100205929927472959341318173082042210036159181875921966396192956430460355834169346681316034785786016803592777021614286352739503720844564764981555889936616414321310481604187217024121026183424 256) t9) fun t10=>
 bn .add 5 t7 t10 fun t11=>
 bn .and 26 x1 (.int .u32 (.ofNat 255)) fun t12=>
 ob (vAt y 9 (.str 1013371797438326782088527885626145114869279839357273206994663807870378574120944418419436367054140611451049417760204952716157707395913305053141503655967864012230780761557092017373387303026677869852522838963663262406984442671150543646567039340048842837107735057250874075921518337091852213351450684411239623177375031168665231925272535801977875611804250701587889381816060971805622316951777918693305331168867185049460341980332139430100205929927472959341318173082042210036159181875921966396192956430460355834169346681316034785786016803592777021614286352739503720844564764981555889936616414321310481604187217024121026183424 256) t12) fun t13=>
 bn .add 5 t11 t13 fun t14=>
 ob (vConv y 5 3 t14) fun t15=>
 oR [t15] H
def B173 (c:CH) (ql:QH) (us:List GV) (H:GH):RS:=U2 us fun x1 x2=>
 K c 192 [x1,x2] H fun t3 h4=>
 oR [t3] h4
def B174 (c:CH) (ql:QH) (us:List GV) (H:GH):RS:=U2 us fun x1 x2=>
 K c 193 [x1,x2] H fun t3 h4=>
 oR [t3] h4
def B175 (c:CH) (ql:QH) (us:List GV) (H:GH):RS:=U1 us fun x1=>
 jn (nB 0 (bn .eql 9 x1 (.str 30787916450984560 7) fun t2=>
 ob (GV.asB t2) fun q3=>jn (bC q3 (bn .eql 9 x1 (.str 7496054 3) fun t4=>
 ob (GV.asB t4) fun q5=>jn (bC q5 (bn .eql 9 x1 (.str 1701606770 4) fun t6=>
 ob (GV.asB t6) fun q7=>jn (bC q7 (bn .eql 9 x1 (.str 1819242338 4) fun t8=>
 ob (GV.asB t8) fun q9=>jn (bC q9 (bn .eql 9 x1 (.str 1953656688 4) fun t10=>
 ob (GV.asB t10) fun q11=>jn (bC q11 (bn .eql 9 x1 (.str 1702195828 4) fun t12=>
 ob (GV.asB t12) fun q13=>jn (bC q13 (bn .eql 9 x1 (.str 435728179558 5) fun t14=>
 ob (GV.asB t14) fun q15=>jn (bC q15 (bn .eql 9 x1 (.str 1701736302 4) fun t16=>
 oN [x1,t16] H) (oN [x1,t14] H)) fun vs17 h18=>U2 vs17 fun a19 a20=>oN [a19,a20] h18) (oN [x1,t12] H)) fun vs21 h22=>U2 vs21 fun a23 a24=>oN [a23,a24] h22) (oN [x1,t10] H)) fun vs25 h26=>U2 vs25 fun a27 a28=>oN [a27,a28] h26) (oN [x1,t8] H)) fun vs29 h30=>U2 vs29 fun a31 a32=>oN [a31,a32] h30) (oN [x1,t6] H)) fun vs33 h34=>U2 vs33 fun a35 a36=>oN [a35,a36] h34) (oN [x1,t4] H)) fun vs37 h38=>U2 vs37 fun a39 a40=>oN [a39,a40] h38) (oN [x1,t2] H)) fun vs41 h42=>U2 vs41 fun a43 a44=>ob (GV.asB a44) fun q45=>jn (bC q45 (bn .eql 9 a43 (.str 110 1) fun t46=>
 ob (GV.asB t46) fun q47=>jn (bC q47 (bn .eql 9 a43 (.str 7562345 3) fun t48=>
 ob (GV.asB t48) fun q49=>jn (bC q49 (bn .eql 9 a43 (.str 25705 2) fun t50=>
 ob (GV.asB t50) fun q51=>jn (bC q51 (bn .eql 9 a43 (.str 6776164 3) fun t52=>
 ob (GV.asB t52) fun q53=>jn (bC q53 (bn .eql 9 a43 (.str 1953460082 4) fun t54=>
 ob (GV.asB t54) fun q55=>jn (bC q55 (bn .eql 9 a43 (.str 113 1) fun t56=>
 ob (GV.asB t56) fun q57=>jn (bC q57 (bn .eql 9 a43 (.str 127991760381303 6) fun t58=>
 ob (GV.asB t58) fun q59=>jn (bC q59 (bn .eql 9 a43 (.str 1801675106 4) fun t60=>
 oN [a43,t60] h42) (oN [a43,t58] h42)) fun vs61 h62=>U2 vs61 fun a63 a64=>oN [a63,a64] h62) (oN [a43,t56] h42)) fun vs65 h66=>U2 vs65 fun a67 a68=>oN [a67,a68] h66) (oN [a43,t54] h42)) fun vs69 h70=>U2 vs69 fun a71 a72=>oN [a71,a72] h70) (oN [a43,t52] h42)) fun vs73 h74=>U2 vs73 fun a75 a76=>oN [a75,a76] h74) (oN [a43,t50] h42)) fun vs77 h78=>U2 vs77 fun a79 a80=>oN [a79,a80] h78) (oN [a43,t48] h42)) fun vs81 h82=>U2 vs81 fun a83 a84=>oN [a83,a84] h82) (oN [a43,t46] h42)) fun vs85 h86=>U2 vs85 fun a87 a88=>ob (GV.asB a88) fun q89=>jn (bC q89 (bn .eql 9 a87 (.str 7105633 3) fun t90=>
 ob (GV.asB t90) fun q91=>jn (bC q91 (bn .eql 9 a87 (.str 1701670771 4) fun t92=>
 ob (GV.asB t92) fun q93=>jn (bC q93 (bn .eql 9 a87 (.str 500069396323 5) fun t94=>
 ob (GV.asB t94) fun q95=>jn (bC q95 (bn .eql 9 a87 (.str 500153084262 5) fun t96=>
 ob (GV.asB t96) fun q97=>jn (bC q97 (bn .eql 9 a87 (.str 7235949 3) fun t98=>
 ob (GV.asB t98) fun q99=>jn (bC q99 (bn .eql 9 a87 (.str 7889261 3) fun t100=>
 ob (GV.asB t100) fun q101=>jn (bC q101 (bn .eql 9 a87 (.str 7173491 3) fun t102=>
 ob (GV.asB t102) fun q103=>jn (bC q103 (bn .eql 9 a87 (.str 7890285 3) fun t104=>
 ob (GV.asB t104) fun q105=>jn (bC q105 (bn .eql 9 a87 (.str 110425477965171 6) fun t106=>
 ob (GV.asB t106) fun q107=>jn (bC q107 (bn .eql 9 a87 (.str 1684104552 4) fun t108=>
 oN [t108] h86) (oN [t106] h86)) fun vs109 h110=>U1 vs109 fun a111=>oN [a111] h110) (oN [t104] h86)) fun vs112 h113=>U1 vs112 fun a114=>oN [a114] h113) (oN [t102] h86)) fun vs115 h116=>U1 vs115 fun a117=>oN [a117] h116) (oN [t100] h86)) fun vs118 h119=>U1 vs118 fun a120=>oN [a120] h119) (oN [t98] h86)) fun vs121 h122=>U1 vs121 fun a123=>oN [a123] h122) (oN [t96] h86)) fun vs124 h125=>U1 vs124 fun a126=>oN [a126] h125) (oN [t94] h86)) fun vs127 h128=>U1 vs127 fun a129=>oN [a129] h128) (oN [t92] h86)) fun vs130 h131=>U1 vs130 fun a132=>oN [a132] h131) (oN [t90] h86)) fun vs133 h134=>U1 vs133 fun a135=>ob (GV.asB a135) fun q136=>jn (bC q136 (oN [] h134) (oR [(.bool true)] h134)) fun vs137 h138=>U0 vs137 (oN [] h138)) (oR [(.bool true)] h86)) fun vs139 h140=>U0 vs139 (oN [] h140)) (oR [(.bool true)] h42)) fun vs141 h142=>U0 vs141 (oN [] h142))) fun vs143 h144=>U0 vs143 (oR [(.bool false)] h144)
def B176 (c:CH) (ql:QH) (us:List GV) (H:GH):RS:=U1 us fun x1=>
 K c 194 [x1] H fun t2 h3=>
 ob (GV.asB t2) fun q4=>jn (bC q4 (oN [x1] h3) (K c 151 [x1,(i 1),(i 255)] h3 fun t5 h6=>
 oR [t5] h6)) fun vs7 h8=>U1 vs7 fun a9=>K c 151 [a9,(i 0),(i 4096)] h8 fun t10 h11=>
 oR [t10] h11
def B177 (c:CH) (ql:QH) (us:List GV) (H:GH):RS:=U2 us fun x1 x2=>
 bn .eql 3 x2 (i 6) fun t3=>
 ob (GV.asB t3) fun q4=>jn (bC q4 (oN [x1,x2] H) (K c 195 [x1] H fun t5 h6=>
 oR [t5] h6)) fun vs7 h8=>U2 vs7 fun a9 a10=>bn .add 3 a10 (i 1) fun t11=>
 K c 177 [a9,t11] h8 fun t12 h13=>
 jn (nB 0 (ql 46 [a9,a10,t12] h13)) fun vs14 h15=>U1 vs14 fun a16=>oR [a16] h15
def L46 (c:CH) (ql:QH) (us:List GV) (H:GH):RS:=U3 us fun a17 a18 a19=>jn (jn (nB 1 (K c 147 [a17] H fun t20 h21=>
 K c 196 [t20] h21 fun t22 h23=>
 bn .eql 3 t22 (i 0) fun t24=>
 kOR (rG t24 false h23 (some (t22,h23))) fun t25 h26=>
 kOR (rG t24 false h26 (kOR (c 197 [t25] h26) orK)) fun t27 h28=>
 kOR (rG t24 false h28 (some (a18,h28))) fun t29 h30=>
 kOR (rG t24 false h30 (ob (vBin y .neq 3 t27 t29) fun g31=>some (g31,h30))) fun t32 h33=>
 ob (vPick t24 (.bool true) t32) fun t34=>
 ob (GV.asB t34) fun q35=>jn (bC q35 (oN [a17,a18,a19,t22] h33) (oR [a19] h33)) fun vs36 h37=>U4 vs36 fun a38 a39 a40 a41=>K c 150 [a38] h37 fun t42 h43=>
 bn .add 3 a39 (i 1) fun t44=>
 K c 177 [a38,t44] h43 fun t45 h46=>
 kOR (vBuildS y 225 2 [(0,a40),(1,t45)] h46) fun t47 h48=>
 K c 178 [a41,t47] h48 fun t49 h50=>
 bn .eql 3 a39 (i 3) fun t51=>
 ob (GV.asB t51) fun q52=>jn (bC q52 (oN [a38,a39,t49] h50) (oR [t49] h50)) fun vs53 h54=>U3 vs53 fun a55 a56 a57=>oN [a55,a56,a57] h54)) fun vs58 h59=>U3 vs58 fun a60 a61 a62=>oN [a60,a61,a62] h59) (ql 46)
def B178 (c:CH) (ql:QH) (us:List GV) (H:GH):RS:=U2 us fun x1 x2=>
 K c 198 [x1,(i 0)] H fun t3 h4=>
 ln 225 x2 fun t5=>
 jn (nB 0 (ql 47 [t3,x2,t5,(i 0)] h4)) fun vs6 h7=>U1 vs6 fun a8=>oR [a8] h7
def L47 (c:CH) (ql:QH) (us:List GV) (H:GH):RS:=U4 us fun a9 a10 a11 a12=>jn (bn .lss 3 a12 a11 fun t13=>
 ob (GV.asB t13) fun q14=>jn (bC q14 (oX 0 [a9] H) (oN [a9,a10,a11,a12] H)) fun vs15 h16=>U4 vs15 fun a17 a18 a19 a20=>jn (nB 1 (ix 225 a18 a20 fun t21=>
 ld 149 t21 h16 fun t22=>
 kOR (vApp y 149 149 a17 t22 h16) fun t23 h24=>
 oN [t23,a18,a19,a20] h24)) fun vs25 h26=>U4 vs25 fun a27 a28 a29 a30=>bn .add 3 a30 (i 1) fun t31=>
 oN [a27,a28,a29,t31] h26) (ql 47)
def B179 (c:CH) (ql:QH) (us:List GV) (H:GH):RS:=U2 us fun x1 x2=>
 ln 113 x1 fun t3=>
 jn (nB 0 (ql 48 [x1,x2,t3,(i 0)] H)) fun vs4 h5=>U0 vs4 (oR [(.int .i64 (.negSucc 0))] h5)
def L48 (c:CH) (ql:QH) (us:List GV) (H:GH):RS:=U4 us fun a6 a7 a8 a9=>jn (bn .lss 3 a9 a8 fun t10=>
 ob (GV.asB t10) fun q11=>jn (bC q11 (oX 0 [] H) (oN [a6,a7,a8,a9] H)) fun vs12 h13=>U4 vs12 fun a14 a15 a16 a17=>jn (nB 1 (ix 113 a14 a17 fun t18=>
 ld 9 t18 h13 fun t19=>
 bn .eql 9 a15 t19 fun t20=>
 ob (GV.asB t20) fun q21=>jn (bC q21 (oN [a14,a15,a16,a17] h13) (oR [a17] h13)) fun vs22 h23=>U4 vs22 fun a24 a25 a26 a27=>oN [a24,a25,a26,a27] h23)) fun vs28 h29=>U4 vs28 fun a30 a31 a32 a33=>bn .add 3 a33 (i 1) fun t34=>
 oN [a30,a31,a32,t34] h29) (ql 48)
def B180 (c:CH) (ql:QH) (us:List GV) (H:GH):RS:=U2 us fun x1 x2=>
 bn .lss 3 x2 (i 0) fun t3=>
 kOR (rG t3 false H (some (x2,H))) fun t4 h5=>
 kOR (rG t3 false h5 (some (x1,h5))) fun t6 h7=>
 kOR (rG t3 false h7 (ob (vLen y 149 t6) fun g8=>some (g8,h7))) fun t9 h10=>
 kOR (rG t3 false h10 (ob (vBin y .geq 3 t4 t9) fun g11=>some (g11,h10))) fun t12 h13=>
 ob (vPick t3 (.bool true) t12) fun t14=>
 ob (GV.asB t14) fun q15=>jn (bC q15 (oN [x1,x2] h13) (oR [(.int .i64 (.negSucc 0))] h13)) fun vs16 h17=>U2 vs16 fun a18 a19=>jn (nB 0 (ql 49 [a18,a19,(i 1)] h17)) fun vs20 h21=>U0 vs20 (oR [(.int .i64 (.negSucc 0))] h21)
def L49 (c:CH) (ql:QH) (us:List GV) (H:GH):RS:=U3 us fun a22 a23 a24=>jn (ln 149 a22 fun t25=>
 bn .lss 3 a23 t25 fun t26=>
 ob (GV.asB t26) fun q27=>jn (bC q27 (oX 0 [] H) (oN [a22,a23,a24] H)) fun vs28 h29=>U3 vs28 fun a30 a31 a32=>jn (nB 1 (ix 149 a30 a31 fun t33=>
 fd 211 0 t33 fun t34=>
 ld 3 t34 h29 fun t35=>
 K c 199 [t35] h29 fun t36 h37=>
 bn .lss 3 t36 (i 0) fun t38=>
 ob (GV.asB t38) fun q39=>jn (bC q39 (oN [a30,a31,a32,t36] h37) (oR [(.int .i64 (.negSucc 0))] h37)) fun vs40 h41=>U4 vs40 fun a42 a43 a44 a45=>bn .sub 3 a45 (i 1) fun t46=>
 bn .add 3 a44 t46 fun t47=>
 bn .eql 3 t47 (i 0) fun t48=>
 ob (GV.asB t48) fun q49=>jn (bC q49 (oN [a42,a43,t47] h41) (bn .add 3 a43 (i 1) fun t50=>
 oR [t50] h41)) fun vs51 h52=>U3 vs51 fun a53 a54 a55=>oN [a53,a54,a55] h52)) fun vs56 h57=>U3 vs56 fun a58 a59 a60=>bn .add 3 a59 (i 1) fun t61=>
 oN [a58,t61,a60] h57) (ql 49)
def B181 (c:CH) (ql:QH) (us:List GV) (H:GH):RS:=U2 us fun x1 x2=>
 kOR (vBox x1 H) fun t3 h4=>
 fd 211 0 t3 fun t5=>
 ld 3 t5 h4 fun t6=>
 jn (nB 0 (bn .eql 3 t6 (i 1) fun t7=>
 ob (GV.asB t7) fun q8=>jn (bC q8 (bn .eql 3 t6 (i 5) fun t22=>
 ob (GV.asB t22) fun q23=>jn (bC q23 (bn .eql 3 t6 (i 12) fun t24=>
 oN [x2,t3,t24] h4) (oN [x2,t3,t22] h4)) fun vs25 h26=>U3 vs25 fun a27 a28 a29=>ob (GV.asB a29) fun q30=>jn (bC q30 (oN [a28] h26) (fd 211 1 a28 fun t31=>
 ld 3 t31 h26 fun t32=>
 bn .geq 3 t32 (i 0) fun t33=>
 kOR (rG t33 true h26 (ob (vField y 211 1 a28) fun g34=>some (g34,h26))) fun t35 h36=>
 kOR (rG t33 true h36 (ob (vLoad y 3 t35 h36) fun g37=>some (g37,h36))) fun t38 h39=>
 kOR (rG t33 true h39 (some (a27,h39))) fun t40 h41=>
 kOR (rG t33 true h41 (ob (vBin y .lss 3 t38 t40) fun g42=>some (g42,h41))) fun t43 h44=>
 ob (vPick t33 t43 (.bool false)) fun t45=>
 oR [t45] h44)) fun vs46 h47=>U1 vs46 fun a48=>oN [a48] h47) (fd 211 1 t3 fun t9=>
 ld 3 t9 h4 fun t10=>
 bn .geq 3 t10 (i 0) fun t11=>
 kOR (rG t11 true h4 (ob (vField y 211 1 t3) fun g12=>some (g12,h4))) fun t13 h14=>
 kOR (rG t11 true h14 (ob (vLoad y 3 t13 h14) fun g15=>some (g15,h14))) fun t16 h17=>
 kOR (rG t11 true h17 (ob (vBin y .leq 3 t16 (i 1073741824)) fun g18=>some (g18,h17))) fun t19 h20=>
 ob (vPick t11 t19 (.bool false)) fun t21=>
 oR [t21] h20)) fun vs49 h50=>U1 vs49 fun a51=>oN [a51] h50)) fun vs52 h53=>U1 vs52 fun a54=>fd 211 1 a54 fun t55=>
 ld 3 t55 h53 fun t56=>
 bn .eql 3 t56 (i 0) fun t57=>
 oR [t57] h53
def B182 (c:CH) (ql:QH) (us:List GV) (H:GH):RS:=U1 us fun x1=>
 K c 200 [x1,(.fn 201 [] [])] H fun t2 h3=>
 ex 0 t2 fun t4=>
 ex 1 t2 fun t5=>
 oR [t4] h3
def B183 (c:CH) (ql:QH) (us:List GV) (H:GH):RS:=U1 us fun x1=>
 K c 200 [x1,(.fn 202 [] [])] H fun t2 h3=>
 ex 0 t2 fun t4=>
 ex 1 t2 fun t5=>
 oR [t4] h3
def B184 (c:CH) (ql:QH) (us:List GV) (H:GH):RS:=U3 us fun x1 x2 x3=>
 kOR (vBox x1 H) fun t4 h5=>
 fd 215 0 t4 fun t6=>
 ld 149 t6 h5 fun t7=>
 ix 149 t7 x2 fun t8=>
 ld 211 t8 h5 fun t9=>
 kOR (vAlloc y 211 h5) fun t10 h11=>
 kOR (vStore y 211 t10 t9 h11) fun t12 h13=>
 bn .add 3 x2 (i 1) fun t14=>
 fd 211 0 t10 fun t15=>
 ld 3 t15 h13 fun t16=>
 K c 199 [t16] h13 fun t17 h18=>
 bn .eql 3 t17 (i 0) fun t19=>
 ob (GV.asB t19) fun q20=>jn (bC q20 (oN [x3,t4,t14,t10] h18) (fd 211 0 t10 fun t21=>
 ld 3 t21 h18 fun t22=>
 K c 204 [t22] h18 fun t23 h24=>
 kOR (rG t23 true h24 (some (x3,h24))) fun t25 h26=>
 kOR (rG t23 true h26 (ob (vUn .not t25) fun g27=>some (g27,h26))) fun t28 h29=>
 ob (vPick t23 t28 (.bool false)) fun t30=>
 ob (GV.asB t30) fun q31=>jn (bC q31 (oN [t4,t14,t10] h29) (oR [(i 0),t14] h29)) fun vs32 h33=>U3 vs32 fun a34 a35 a36=>ld 215 a34 h33 fun t37=>
 ld 211 a36 h33 fun t38=>
 K c 205 [t37,t38] h33 fun t39 h40=>
 oR [t39,a35] h40)) fun vs41 h42=>U4 vs41 fun a43 a44 a45 a46=>kOR (rG a43 false h42 (ob (vField y 211 0 a46) fun g47=>some (g47,h42))) fun t48 h49=>
 kOR (rG a43 false h49 (ob (vLoad y 3 t48 h49) fun g50=>some (g50,h49))) fun t51 h52=>
 kOR (rG a43 false h52 (kOR (c 203 [t51] h52) orK)) fun t53 h54=>
 ob (vPick a43 (.bool true) t53) fun t55=>
 kOR (vAlloc y 229 h54) fun t56 h57=>
 fd 211 0 a46 fun t58=>
 ld 3 t58 h57 fun t59=>
 K c 199 [t59] h57 fun t60 h61=>
 jn (nB 0 (ql 50 [a44,a45,a46,t55,t56,t60,(i 0)] h61)) fun vs62 h63=>U3 vs62 fun a64 a65 a66=>fd 211 0 a65 fun t67=>
 ld 3 t67 h63 fun t68=>
 ld 229 a66 h63 fun t69=>
 K c 206 [t68,t69] h63 fun t70 h71=>
 oR [t70,a64] h71
def L50 (c:CH) (ql:QH) (us:List GV) (H:GH):RS:=U7 us fun a72 a73 a74 a75 a76 a77 a78=>jn (bn .lss 3 a78 a77 fun t79=>
 ob (GV.asB t79) fun q80=>jn (bC q80 (oX 0 [a73,a74,a76] H) (oN [a72,a73,a74,a75,a76,a77,a78] H)) fun vs81 h82=>U7 vs81 fun a83 a84 a85 a86 a87 a88 a89=>jn (nB 1 (ld 215 a83 h82 fun t90=>
 K c 184 [t90,a84,a86] h82 fun t91 h92=>
 ex 0 t91 fun t93=>
 ex 1 t91 fun t94=>
 ix 229 a87 a89 fun t95=>
 kOR (vStore y 3 t95 t93 h92) fun t96 h97=>
 oN [a83,t94,a85,a86,a87,a88,a89] h97)) fun vs98 h99=>U7 vs98 fun a100 a101 a102 a103 a104 a105 a106=>bn .add 3 a106 (i 1) fun t107=>
 oN [a100,a101,a102,a103,a104,a105,t107] h99) (ql 50)
def B185 (c:CH) (ql:QH) (us:List GV) (H:GH):RS:=U3 us fun x1 x2 x3=>
 kOR (vBox x1 H) fun t4 h5=>
 kOR (vBox x2 h5) fun t6 h7=>
 fd 103 2 t4 fun t8=>
 ld 3 t8 h7 fun t9=>
 ob (Option.casesOn (motive:=fun _=>Option (Option (Nat×Nat))) (ob (GV.asP t8) fun p=>some p.1) (some none) fun k11=>ob (GH.ver h7 k11) fun k12=>some (some (k11,k12))) fun e10=>
 fd 103 3 t4 fun t13=>
 ld 3 t13 h7 fun t14=>
 ob (Option.casesOn (motive:=fun _=>Option (Option (Nat×Nat))) (ob (GV.asP t13) fun p=>some p.1) (some none) fun k16=>ob (GH.ver h7 k16) fun k17=>some (some (k16,k17))) fun e15=>
 fd 103 4 t4 fun t18=>
 ld 3 t18 h7 fun t19=>
 ob (Option.casesOn (motive:=fun _=>Option (Option (Nat×Nat))) (ob (GV.asP t18) fun p=>some p.1) (some none) fun k21=>ob (GH.ver h7 k21) fun k22=>some (some (k21,k22))) fun e20=>
 fd 25 0 t6 fun t23=>
 ld 22 t23 h7 fun t24=>
 ob (Option.casesOn (motive:=fun _=>Option (Option (Nat×Nat))) (ob (GV.asP t23) fun p=>some p.1) (some none) fun k26=>ob (GH.ver h7 k26) fun k27=>some (some (k26,k27))) fun e25=>
 ln 22 t24 fun t28=>
 bn .mul 3 t19 t28 fun t29=>
 bn .add 3 t14 t29 fun t30=>
 fd 103 5 t4 fun t31=>
 ld 3 t31 h7 fun t32=>
 ob (Option.casesOn (motive:=fun _=>Option (Option (Nat×Nat))) (ob (GV.asP t31) fun p=>some p.1) (some none) fun k34=>ob (GH.ver h7 k34) fun k35=>some (some (k34,k35))) fun e33=>
 fd 25 0 t6 fun t36=>
 ld 22 t36 h7 fun t37=>
 ob (Option.casesOn (motive:=fun _=>Option (Option (Nat×Nat))) (ob (GV.asP t36) fun p=>some p.1) (some none) fun k39=>ob (GH.ver h7 k39) fun k40=>some (some (k39,k40))) fun e38=>
 K c 186 [t37] h7 fun t41 h42=>
 ob (pck h42 e33 (pck h42 e25 (pck h42 e20 (pck h42 e15 (pck h42 e10 (some ())))))) fun _=>
 bn .mul 3 t32 t41 fun t43=>
 bn .add 3 t30 t43 fun t44=>
 oR [t9,t44] h42
def B186 (c:CH) (ql:QH) (us:List GV) (H:GH):RS:=U1 us fun x1=>
 ln 22 x1 fun t2=>
 bn .lss 3 t2 (i 1) fun t3=>
 ob (GV.asB t3) fun q4=>jn (bC q4 (oN [x1] H) (none)) fun vs5 h6=>U1 vs5 fun a7=>ix 22 a7 (i 0) fun t8=>
 ld 3 t8 h6 fun t9=>
 jn (nB 0 (ql 51 [a7,t9,(i 1)] h6)) fun vs10 h11=>U1 vs10 fun a12=>oR [a12] h11
def L51 (c:CH) (ql:QH) (us:List GV) (H:GH):RS:=U3 us fun a13 a14 a15=>jn (ln 22 a13 fun t16=>
 bn .lss 3 a15 t16 fun t17=>
 ob (GV.asB t17) fun q18=>jn (bC q18 (oX 0 [a14] H) (oN [a13,a14,a15] H)) fun vs19 h20=>U3 vs19 fun a21 a22 a23=>jn (nB 1 (ix 22 a21 a23 fun t24=>
 ld 3 t24 h20 fun t25=>
 ob (vMax a22 t25) fun t26=>
 oN [a21,t26,a23] h20)) fun vs27 h28=>U3 vs27 fun a29 a30 a31=>bn .add 3 a31 (i 1) fun t32=>
 oN [a29,a30,t32] h28) (ql 51)
def B187 (c:CH) (ql:QH) (us:List GV) (H:GH):RS:=U3 us fun x1 x2 x3=>
 kOR (vBox x1 H) fun t4 h5=>
 kOR (vBox x2 h5) fun t6 h7=>
 oR [(i 0),(i 1)] h7
def B188 (c:CH) (ql:QH) (us:List GV) (H:GH):RS:=U3 us fun x1 x2 x3=>
 kOR (vBox x1 H) fun t4 h5=>
 kOR (vBox x2 h5) fun t6 h7=>
 fd 25 1 t6 fun t8=>
 ld 23 t8 h7 fun t9=>
 ix 23 t9 x3 fun t10=>
 ld 84 t10 h7 fun t11=>
 ln 84 t11 fun t12=>
 bn .sub 3 t12 (i 1) fun t13=>
 oR [(.int .i64 (.negSucc 0)),t13] h7
def B189 (c:CH) (ql:QH) (us:List GV) (H:GH):RS:=U4 us fun x1 x2 x3 x4=>
 ob (GV.nilck x1) fun t5=>
 fd 196 0 t5 fun t6=>
 fd 48 2 t6 fun t7=>
 ld 46 t7 H fun t8=>
 ix 46 t8 x4 fun t9=>
 fd 152 1 t9 fun t10=>
 ld 149 t10 H fun t11=>
 K c 190 [x1,x2,x3,t11] H fun t12 h13=>
 bn .neq 3 t12 (i 0) fun t14=>
 oR [t14] h13
def B190 (c:CH) (ql:QH) (us:List GV) (H:GH):RS:=U4 us fun x1 x2 x3 x4=>
 bd 232 [(0,x1),(1,x2),(2,x3),(3,x4)] fun t5=>
 kOR (vAlloc y 232 H) fun t6 h7=>
 kOR (vStore y 232 t6 t5 h7) fun t8 h9=>
 K c 207 [t6,(i 0),(.int .i64 (.negSucc 0))] h9 fun t10 h11=>
 ex 0 t10 fun t12=>
 ex 1 t10 fun t13=>
 oR [t12] h11
def B191 (c:CH) (ql:QH) (us:List GV) (H:GH):RS:=U3 us fun x1 x2 x3=>
 kOR (vBox x2 H) fun t4 h5=>
 jn (nB 0 (ix 123 t4 (i 0) fun t6=>
 ld 3 t6 h5 fun t7=>
 bn .geq 3 x3 t7 fun t8=>
 kOR (rG t8 true h5 (some (x3,h5))) fun t9 h10=>
 kOR (rG t8 true h10 (ob (vIndex y 123 t4 (i 1)) fun g11=>some (g11,h10))) fun t12 h13=>
 kOR (rG t8 true h13 (ob (vLoad y 3 t12 h13) fun g14=>some (g14,h13))) fun t15 h16=>
 kOR (rG t8 true h16 (ob (vBin y .leq 3 t9 t15) fun g17=>some (g17,h16))) fun t18 h19=>
 ob (vPick t8 t18 (.bool false)) fun t20=>
 ob (GV.asB t20) fun q21=>jn (bC q21 (bn .eql 3 x1 (i 3) fun t22=>
 ob (GV.asB t22) fun q23=>jn (bC q23 (ix 123 t4 (i 0) fun t24=>
 ld 3 t24 h19 fun t25=>
 bn .lss 3 x3 t25 fun t26=>
 ob (GV.asB t26) fun q27=>jn (bC q27 (oN [t4] h19) (ix 123 t4 (i 0) fun t28=>
 ld 3 t28 h19 fun t29=>
 oR [t29] h19)) fun vs30 h31=>U1 vs30 fun a32=>oN [a32] h31) (oR [(.int .i64 (.negSucc 0))] h19)) fun vs33 h34=>U1 vs33 fun a35=>oN [a35] h34) (oR [x3] h19)) fun vs36 h37=>U1 vs36 fun a38=>oN [a38] h37)) fun vs39 h40=>U1 vs39 fun a41=>ix 123 a41 (i 1) fun t42=>
 ld 3 t42 h40 fun t43=>
 oR [t43] h40
def B192 (c:CH) (ql:QH) (us:List GV) (H:GH):RS:=U2 us fun x1 x2=>
 ln 9 x1 fun t3=>
 ln 9 x2 fun t4=>
 bn .geq 3 t3 t4 fun t5=>
 kOR (rG t5 true H (some (x1,H))) fun t6 h7=>
 kOR (rG t5 true h7 (some (x2,h7))) fun t8 h9=>
 kOR (rG t5 true h9 (ob (vLen y 9 t8) fun g10=>some (g10,h9))) fun t11 h12=>
 kOR (rG t5 true h12 (ob (vSlice y 9 t6 none (some t11) h12) fun g13=>some (g13,h12))) fun t14 h15=>
 kOR (rG t5 true h15 (some (x2,h15))) fun t16 h17=>
 kOR (rG t5 true h17 (ob (vBin y .eql 9 t14 t16) fun g18=>some (g18,h17))) fun t19 h20=>
 ob (vPick t5 t19 (.bool false)) fun t21=>
 oR [t21] h20
def B193 (c:CH) (ql:QH) (us:List GV) (H:GH):RS:=U2 us fun x1 x2=>
 K c 208 [x1,x2] H fun t3 h4=>
 oR [t3] h4
def B194 (c:CH) (ql:QH) (us:List GV) (H:GH):RS:=U1 us fun x1=>
 ob (GV.nilck x1) fun t2=>
 fd 117 0 t2 fun t3=>
 fd 115 1 t3 fun t4=>
 ld 109 t4 H fun t5=>
 ln 109 t5 fun t6=>
 bn .gtr 3 t6 (i 1) fun t7=>
 kOR (rG t7 true H (some (x1,H))) fun t8 h9=>
 kOR (rG t7 true h9 (ob (GV.nilck t8) fun g10=>some (g10,h9))) fun t11 h12=>
 kOR (rG t7 true h12 (ob (vField y 117 0 t11) fun g13=>some (g13,h12))) fun t14 h15=>
 kOR (rG t7 true h15 (ob (vField y 115 0 t14) fun g16=>some (g16,h15))) fun t17 h18=>
 kOR (rG t7 true h18 (ob (vLoad y 9 t17 h18) fun g19=>some (g19,h18))) fun t20 h21=>
 kOR (rG t7 true h21 (some (x1,h21))) fun t22 h23=>
 kOR (rG t7 true h23 (ob (GV.nilck t22) fun g24=>some (g24,h23))) fun t25 h26=>
 kOR (rG t7 true h26 (ob (vField y 117 0 t25) fun g27=>some (g27,h26))) fun t28 h29=>
 kOR (rG t7 true h29 (ob (vField y 115 1 t28) fun g30=>some (g30,h29))) fun t31 h32=>
 kOR (rG t7 true h32 (ob (vLoad y 109 t31 h32) fun g33=>some (g33,h32))) fun t34 h35=>
 kOR (rG t7 true h35 (ob (vIndex y 109 t34 (i 1)) fun g36=>some (g36,h35))) fun t37 h38=>
 kOR (rG t7 true h38 (ob (vField y 136 1 t37) fun g39=>some (g39,h38))) fun t40 h41=>
 kOR (rG t7 true h41 (ob (vLoad y 3 t40 h41) fun g42=>some (g42,h41))) fun t43 h44=>
 kOR (rG t7 true h44 (some (x1,h44))) fun t45 h46=>
 kOR (rG t7 true h46 (ob (GV.nilck t45) fun g47=>some (g47,h46))) fun t48 h49=>
 kOR (rG t7 true h49 (ob (vField y 117 0 t48) fun g50=>some (g50,h49))) fun t51 h52=>
 kOR (rG t7 true h52 (ob (vField y 115 1 t51) fun g53=>some (g53,h52))) fun t54 h55=>
 kOR (rG t7 true h55 (ob (vLoad y 109 t54 h55) fun g56=>some (g56,h55))) fun t57 h58=>
 kOR (rG t7 true h58 (ob (vIndex y 109 t57 (i 1)) fun g59=>some (g59,h58))) fun t60 h61=>
 kOR (rG t7 true h61 (ob (vField y 136 2 t60) fun g62=>some (g62,h61))) fun t63 h64=>
 kOR (rG t7 true h64 (ob (vLoad y 3 t63 h64) fun g65=>some (g65,h64))) fun t66 h67=>
 kOR (rG t7 true h67 (ob (vSlice y 9 t20 (some t43) (some t66) h67) fun g68=>some (g68,h67))) fun t69 h70=>
 kOR (rG t7 true h70 (ob (vBin y .eql 9 t69 (.str 42 1)) fun g71=>some (g71,h70))) fun t72 h73=>
 ob (vPick t7 t72 (.bool false)) fun t74=>
 oR [t74] h73
def B195 (c:CH) (ql:QH) (us:List GV) (H:GH):RS:=U1 us fun x1=>
 jn (nB 0 (K c 146 [x1,(.str 45 1)] H fun t2 h3=>
 ob (GV.asB t2) fun q4=>jn (bC q4 (K c 146 [x1,(.str 33 1)] h3 fun t11 h12=>
 ob (GV.asB t11) fun q13=>jn (bC q13 (oN [x1] h12) (K c 195 [x1] h12 fun t14 h15=>
 kOR (vBuildS y 225 1 [(0,t14)] h15) fun t16 h17=>
 K c 178 [(i 19),t16] h17 fun t18 h19=>
 oR [t18] h19)) fun vs20 h21=>U1 vs20 fun a22=>oN [a22] h21) (K c 195 [x1] h3 fun t5 h6=>
 kOR (vBuildS y 225 1 [(0,t5)] h6) fun t7 h8=>
 K c 178 [(i 18),t7] h8 fun t9 h10=>
 oR [t9] h10)) fun vs23 h24=>U1 vs23 fun a25=>oN [a25] h24)) fun vs26 h27=>U1 vs26 fun a28=>K c 209 [a28] h27 fun t29 h30=>
 oR [t29] h30
def B196 (c:CH) (ql:QH) (us:List GV) (H:GH):RS:=U1 us fun x1=>
 K c 211 [] H fun t2 h3=>
 K c 210 [x1,(i 30),t2] h3 fun t4 h5=>
 oR [t4] h5
def B197 (c:CH) (ql:QH) (us:List GV) (H:GH):RS:=U1 us fun x1=>
 jn (nB 0 (bn .eql 3 x1 (i 43) fun t2=>
 ob (GV.asB t2) fun q3=>jn (bC q3 (bn .eql 3 x1 (i 42) fun t4=>
 ob (GV.asB t4) fun q5=>jn (bC q5 (bn .eql 3 x1 (i 41) fun t6=>
 ob (GV.asB t6) fun q7=>jn (bC q7 (bn .eql 3 x1 (i 35) fun t8=>
 ob (GV.asB t8) fun q9=>jn (bC q9 (bn .eql 3 x1 (i 36) fun t10=>
 ob (GV.asB t10) fun q11=>jn (bC q11 (bn .eql 3 x1 (i 37) fun t12=>
 ob (GV.asB t12) fun q13=>jn (bC q13 (bn .eql 3 x1 (i 38) fun t14=>
 ob (GV.asB t14) fun q15=>jn (bC q15 (bn .eql 3 x1 (i 39) fun t16=>
 ob (GV.asB t16) fun q17=>jn (bC q17 (bn .eql 3 x1 (i 40) fun t18=>
 oN [x1,t18] H) (oN [x1,t16] H)) fun vs19 h20=>U2 vs19 fun a21 a22=>oN [a21,a22] h20) (oN [x1,t14] H)) fun vs23 h24=>U2 vs23 fun a25 a26=>oN [a25,a26] h24) (oN [x1,t12] H)) fun vs27 h28=>U2 vs27 fun a29 a30=>oN [a29,a30] h28) (oN [x1,t10] H)) fun vs31 h32=>U2 vs31 fun a33 a34=>oN [a33,a34] h32) (oN [x1,t8] H)) fun vs35 h36=>U2 vs35 fun a37 a38=>ob (GV.asB a38) fun q39=>jn (bC q39 (bn .eql 3 a37 (i 33) fun t40=>
 ob (GV.asB t40) fun q41=>jn (bC q41 (bn .eql 3 a37 (i 34) fun t42=>
 oN [a37,t42] h36) (oN [a37,t40] h36)) fun vs43 h44=>U2 vs43 fun a45 a46=>ob (GV.asB a46) fun q47=>jn (bC q47 (bn .eql 3 a45 (i 30) fun t48=>
 ob (GV.asB t48) fun q49=>jn (bC q49 (bn .eql 3 a45 (i 31) fun t50=>
 ob (GV.asB t50) fun q51=>jn (bC q51 (bn .eql 3 a45 (i 32) fun t52=>
 oN [a45,t52] h44) (oN [a45,t50] h44)) fun vs53 h54=>U2 vs53 fun a55 a56=>oN [a55,a56] h54) (oN [a45,t48] h44)) fun vs57 h58=>U2 vs57 fun a59 a60=>ob (GV.asB a60) fun q61=>jn (bC q61 (bn .eql 3 a59 (i 18) fun t62=>
 ob (GV.asB t62) fun q63=>jn (bC q63 (bn .eql 3 a59 (i 19) fun t64=>
 oN [t64] h58) (oN [t62] h58)) fun vs65 h66=>U1 vs65 fun a67=>ob (GV.asB a67) fun q68=>jn (bC q68 (oN [] h66) (oR [(i 6)] h66)) fun vs69 h70=>U0 vs69 (oN [] h70)) (oR [(i 5)] h58)) fun vs71 h72=>U0 vs71 (oN [] h72)) (oR [(i 4)] h44)) fun vs73 h74=>U0 vs73 (oN [] h74)) (oR [(i 3)] h36)) fun vs75 h76=>U0 vs75 (oN [] h76)) (oR [(i 2)] H)) fun vs77 h78=>U0 vs77 (oN [] h78)) (oR [(i 1)] H)) fun vs79 h80=>U0 vs79 (oN [] h80)) (oR [(i 0)] H)) fun vs81 h82=>U0 vs81 (oN [] h82))) fun vs83 h84=>U0 vs83 (oR [(i 7)] h84)
def B198 (c:CH) (ql:QH) (us:List GV) (H:GH):RS:=U2 us fun x1 x2=>
 bd 211 [(0,x1),(1,x2)] fun t3=>
 kOR (vBuildS y 149 1 [(0,t3)] H) fun t4 h5=>
 oR [t4] h5
def B199 (c:CH) (ql:QH) (us:List GV) (H:GH):RS:=U1 us fun x1=>
 jn (nB 0 (bn .lss 3 x1 (i 1) fun t2=>
 kOR (rG t2 false H (some (x1,H))) fun t3 h4=>
 kOR (rG t2 false h4 (ob (vBin y .gtr 3 t3 (i 43)) fun g5=>some (g5,h4))) fun t6 h7=>
 ob (vPick t2 (.bool true) t6) fun t8=>
 ob (GV.asB t8) fun q9=>jn (bC q9 (bn .leq 3 x1 (i 17) fun t10=>
 ob (GV.asB t10) fun q11=>jn (bC q11 (bn .leq 3 x1 (i 29) fun t12=>
 ob (GV.asB t12) fun q13=>jn (bC q13 (bn .leq 3 x1 (i 42) fun t14=>
 ob (GV.asB t14) fun q15=>jn (bC q15 (oN [] h7) (oR [(i 2)] h7)) fun vs16 h17=>U0 vs16 (oN [] h17)) (oR [(i 1)] h7)) fun vs18 h19=>U0 vs18 (oN [] h19)) (oR [(i 0)] h7)) fun vs20 h21=>U0 vs20 (oN [] h21)) (oR [(.int .i64 (.negSucc 0))] h7)) fun vs22 h23=>U0 vs22 (oN [] h23))) fun vs24 h25=>U0 vs24 (oR [(i 3)] h25)
def B200 (c:CH) (ql:QH) (us:List GV) (H:GH):RS:=U2 us fun x1 x2=>
 K c 180 [x1,(i 0)] H fun t3 h4=>
 ln 149 x1 fun t5=>
 bn .neq 3 t3 t5 fun t6=>
 ob (GV.asB t6) fun q7=>jn (bC q7 (oN [x1,x2] h4) (oR [(i 0),(.bool false)] h4)) fun vs8 h9=>U2 vs8 fun a10 a11=>ln 149 a10 fun t12=>
 bn .sub 3 t12 (i 1) fun t13=>
 jn (nB 0 (ql 52 [a10,a11,.snil,t13] h9)) fun vs14 h15=>U1 vs14 fun a16=>ix 22 a16 (i 0) fun t17=>
 ld 3 t17 h15 fun t18=>
 oR [t18,(.bool true)] h15
def L52 (c:CH) (ql:QH) (us:List GV) (H:GH):RS:=U4 us fun a19 a20 a21 a22=>jn (bn .geq 3 a22 (i 0) fun t23=>
 ob (GV.asB t23) fun q24=>jn (bC q24 (oX 0 [a21] H) (oN [a19,a20,a21,a22] H)) fun vs25 h26=>U4 vs25 fun a27 a28 a29 a30=>jn (nB 1 (ln 22 a29 fun t31=>
 ix 149 a27 a30 fun t32=>
 fd 211 0 t32 fun t33=>
 ld 3 t33 h26 fun t34=>
 K c 199 [t34] h26 fun t35 h36=>
 bn .sub 3 t31 t35 fun t37=>
 ob (vSlice y 22 a29 (some t37) none h36) fun t38=>
 ln 22 t38 fun t39=>
 jn (nB 2 (ql 53 [a27,a28,a29,a30,t37,(i 0),t38,t39,(i 0)] h36)) fun vs40 h41=>U6 vs40 fun a42 a43 a44 a45 a46 a47=>ob (vSlice y 22 a44 none (some a46) h41) fun t48=>
 ix 149 a42 a45 fun t49=>
 fd 211 0 t49 fun t50=>
 ld 3 t50 h41 fun t51=>
 ob (GV.asF a43) fun p54=>kOR (c p54.1 (p54.2.1++[t51,a47]++p54.2.2) h41) fun t52 h53=>
 kOR (vBuildS y 22 1 [(0,t52)] h53) fun t55 h56=>
 kOR (vApp y 22 22 t48 t55 h56) fun t57 h58=>
 oN [a42,a43,t57,a45] h58)) fun vs59 h60=>U4 vs59 fun a61 a62 a63 a64=>bn .sub 3 a64 (i 1) fun t65=>
 oN [a61,a62,a63,t65] h60) (ql 52)
def L53 (c:CH) (ql:QH) (us:List GV) (H:GH):RS:=U9 us fun a66 a67 a68 a69 a70 a71 a72 a73 a74=>jn (bn .lss 3 a74 a73 fun t75=>
 ob (GV.asB t75) fun q76=>jn (bC q76 (oX 2 [a66,a67,a68,a69,a70,a71] H) (oN [a66,a67,a68,a69,a70,a71,a72,a73,a74] H)) fun vs77 h78=>U9 vs77 fun a79 a80 a81 a82 a83 a84 a85 a86 a87=>jn (nB 3 (ix 22 a85 a87 fun t88=>
 ld 3 t88 h78 fun t89=>
 ob (vMax a84 t89) fun t90=>
 oN [a79,a80,a81,a82,a83,t90,a85,a86,a87] h78)) fun vs91 h92=>U9 vs91 fun a93 a94 a95 a96 a97 a98 a99 a100 a101=>bn .add 3 a101 (i 1) fun t102=>
 oN [a93,a94,a95,a96,a97,a98,a99,a100,t102] h92) (ql 53)
def B201 (c:CH) (ql:QH) (us:List GV) (H:GH):RS:=U2 us fun x1 x2=>
 bn .add 3 x2 (i 1) fun t3=>
 oR [t3] H
def B202 (c:CH) (ql:QH) (us:List GV) (H:GH):RS:=U2 us fun x1 x2=>
 K c 203 [x1] H fun t3 h4=>
 ob (GV.asB t3) fun q5=>jn (bC q5 (oN [x2] h4) (bn .add 3 x2 (i 1) fun t6=>
 oR [t6] h4)) fun vs7 h8=>U1 vs7 fun a9=>oR [a9] h8
def B203 (c:CH) (ql:QH) (us:List GV) (H:GH):RS:=U1 us fun x1=>
 bn .geq 3 x1 (i 20) fun t2=>
 kOR (rG t2 true H (some (x1,H))) fun t3 h4=>
 kOR (rG t2 true h4 (ob (vBin y .leq 3 t3 (i 29)) fun g5=>some (g5,h4))) fun t6 h7=>
 ob (vPick t2 t6 (.bool false)) fun t8=>
 oR [t8] h7
def B204 (c:CH) (ql:QH) (us:List GV) (H:GH):RS:=U1 us fun x1=>
 bn .geq 3 x1 (i 11) fun t2=>
 kOR (rG t2 true H (some (x1,H))) fun t3 h4=>
 kOR (rG t2 true h4 (ob (vBin y .leq 3 t3 (i 17)) fun g5=>some (g5,h4))) fun t6 h7=>
 ob (vPick t2 t6 (.bool false)) fun t8=>
 oR [t8] h7
def B205 (c:CH) (ql:QH) (us:List GV) (H:GH):RS:=U2 us fun x1 x2=>
 kOR (vBox x1 H) fun t3 h4=>
 kOR (vBox x2 h4) fun t5 h6=>
 fd 211 0 t5 fun t7=>
 ld 3 t7 h6 fun t8=>
 jn (nB 0 (bn .eql 3 t8 (i 2) fun t9=>
 ob (GV.asB t9) fun q10=>jn (bC q10 (bn .eql 3 t8 (i 3) fun t11=>
 ob (GV.asB t11) fun q12=>jn (bC q12 (bn .eql 3 t8 (i 10) fun t13=>
 ob (GV.asB t13) fun q14=>jn (bC q14 (bn .eql 3 t8 (i 15) fun t15=>
 oN [t3,t5,t8,t15] h6) (oN [t3,t5,t8,t13] h6)) fun vs16 h17=>U4 vs16 fun a18 a19 a20 a21=>oN [a18,a19,a20,a21] h17) (oN [t3,t5,t8,t11] h6)) fun vs22 h23=>U4 vs22 fun a24 a25 a26 a27=>oN [a24,a25,a26,a27] h23) (oN [t3,t5,t8,t9] h6)) fun vs28 h29=>U4 vs28 fun a30 a31 a32 a33=>ob (GV.asB a33) fun q34=>jn (bC q34 (bn .eql 3 a32 (i 4) fun t35=>
 ob (GV.asB t35) fun q36=>jn (bC q36 (bn .eql 3 a32 (i 11) fun t37=>
 ob (GV.asB t37) fun q38=>jn (bC q38 (bn .eql 3 a32 (i 17) fun t39=>
 oN [a30,a31,a32,t39] h29) (oN [a30,a31,a32,t37] h29)) fun vs40 h41=>U4 vs40 fun a42 a43 a44 a45=>oN [a42,a43,a44,a45] h41) (oN [a30,a31,a32,t35] h29)) fun vs46 h47=>U4 vs46 fun a48 a49 a50 a51=>ob (GV.asB a51) fun q52=>jn (bC q52 (bn .eql 3 a50 (i 5) fun t53=>
 ob (GV.asB t53) fun q54=>jn (bC q54 (bn .eql 3 a50 (i 12) fun t55=>
 oN [a48,a49,t55] h47) (oN [a48,a49,t53] h47)) fun vs56 h57=>U3 vs56 fun a58 a59 a60=>ob (GV.asB a60) fun q61=>jn (bC q61 (oN [] h57) (fd 215 1 a58 fun t62=>
 ld 22 t62 h57 fun t63=>
 fd 211 1 a59 fun t64=>
 ld 3 t64 h57 fun t65=>
 ix 22 t63 t65 fun t66=>
 ld 3 t66 h57 fun t67=>
 oR [t67] h57)) fun vs68 h69=>U0 vs68 (oN [] h69)) (oR [(i 3)] h47)) fun vs70 h71=>U0 vs70 (oN [] h71)) (oR [(i 2)] h29)) fun vs72 h73=>U0 vs72 (oN [] h73))) fun vs74 h75=>U0 vs74 (oR [(i 1)] h75)
def B206 (c:CH) (ql:QH) (us:List GV) (H:GH):RS:=U2 us fun x1 x2=>
 kOR (vBox x2 H) fun t3 h4=>
 ix 229 t3 (i 0) fun t5=>
 ld 3 t5 h4 fun t6=>
 ix 229 t3 (i 1) fun t7=>
 ld 3 t7 h4 fun t8=>
 ix 229 t3 (i 2) fun t9=>
 ld 3 t9 h4 fun t10=>
 jn (nB 0 (bn .eql 3 x1 (i 18) fun t11=>
 ob (GV.asB t11) fun q12=>jn (bC q12 (bn .eql 3 x1 (i 24) fun t13=>
 ob (GV.asB t13) fun q14=>jn (bC q14 (bn .eql 3 x1 (i 25) fun t15=>
 ob (GV.asB t15) fun q16=>jn (bC q16 (bn .eql 3 x1 (i 26) fun t17=>
 ob (GV.asB t17) fun q18=>jn (bC q18 (bn .eql 3 x1 (i 27) fun t19=>
 ob (GV.asB t19) fun q20=>jn (bC q20 (bn .eql 3 x1 (i 28) fun t21=>
 ob (GV.asB t21) fun q22=>jn (bC q22 (bn .eql 3 x1 (i 29) fun t23=>
 oN [t6,t8,t10,x1,t23] h4) (oN [t6,t8,t10,x1,t21] h4)) fun vs24 h25=>U5 vs24 fun a26 a27 a28 a29 a30=>oN [a26,a27,a28,a29,a30] h25) (oN [t6,t8,t10,x1,t19] h4)) fun vs31 h32=>U5 vs31 fun a33 a34 a35 a36 a37=>oN [a33,a34,a35,a36,a37] h32) (oN [t6,t8,t10,x1,t17] h4)) fun vs38 h39=>U5 vs38 fun a40 a41 a42 a43 a44=>oN [a40,a41,a42,a43,a44] h39) (oN [t6,t8,t10,x1,t15] h4)) fun vs45 h46=>U5 vs45 fun a47 a48 a49 a50 a51=>oN [a47,a48,a49,a50,a51] h46) (oN [t6,t8,t10,x1,t13] h4)) fun vs52 h53=>U5 vs52 fun a54 a55 a56 a57 a58=>oN [a54,a55,a56,a57,a58] h53) (oN [t6,t8,t10,x1,t11] h4)) fun vs59 h60=>U5 vs59 fun a61 a62 a63 a64 a65=>ob (GV.asB a65) fun q66=>jn (bC q66 (bn .eql 3 a64 (i 19) fun t70=>
 ob (GV.asB t70) fun q71=>jn (bC q71 (bn .eql 3 a64 (i 20) fun t72=>
 ob (GV.asB t72) fun q73=>jn (bC q73 (bn .eql 3 a64 (i 21) fun t74=>
 oN [a61,a62,a63,a64,t74] h60) (oN [a61,a62,a63,a64,t72] h60)) fun vs75 h76=>U5 vs75 fun a77 a78 a79 a80 a81=>oN [a77,a78,a79,a80,a81] h76) (oN [a61,a62,a63,a64,t70] h60)) fun vs82 h83=>U5 vs82 fun a84 a85 a86 a87 a88=>ob (GV.asB a88) fun q89=>jn (bC q89 (bn .eql 3 a87 (i 22) fun t93=>
 ob (GV.asB t93) fun q94=>jn (bC q94 (bn .eql 3 a87 (i 23) fun t98=>
 ob (GV.asB t98) fun q99=>jn (bC q99 (bn .eql 3 a87 (i 30) fun t103=>
 ob (GV.asB t103) fun q104=>jn (bC q104 (bn .eql 3 a87 (i 31) fun t105=>
 ob (GV.asB t105) fun q106=>jn (bC q106 (bn .eql 3 a87 (i 32) fun t107=>
 ob (GV.asB t107) fun q108=>jn (bC q108 (bn .eql 3 a87 (i 33) fun t109=>
 ob (GV.asB t109) fun q110=>jn (bC q110 (bn .eql 3 a87 (i 34) fun t111=>
 oN [a84,a85,a86,a87,t111] h83) (oN [a84,a85,a86,a87,t109] h83)) fun vs112 h113=>U5 vs112 fun a114 a115 a116 a117 a118=>oN [a114,a115,a116,a117,a118] h113) (oN [a84,a85,a86,a87,t107] h83)) fun vs119 h120=>U5 vs119 fun a121 a122 a123 a124 a125=>oN [a121,a122,a123,a124,a125] h120) (oN [a84,a85,a86,a87,t105] h83)) fun vs126 h127=>U5 vs126 fun a128 a129 a130 a131 a132=>oN [a128,a129,a130,a131,a132] h127) (oN [a84,a85,a86,a87,t103] h83)) fun vs133 h134=>U5 vs133 fun a135 a136 a137 a138 a139=>ob (GV.asB a139) fun q140=>jn (bC q140 (bn .eql 3 a138 (i 35) fun t150=>
 ob (GV.asB t150) fun q151=>jn (bC q151 (bn .eql 3 a138 (i 36) fun t152=>
 oN [a135,a136,a137,a138,t152] h134) (oN [a135,a136,a137,a138,t150] h134)) fun vs153 h154=>U5 vs153 fun a155 a156 a157 a158 a159=>ob (GV.asB a159) fun q160=>jn (bC q160 (bn .eql 3 a158 (i 37) fun t170=>
 ob (GV.asB t170) fun q171=>jn (bC q171 (bn .eql 3 a158 (i 38) fun t172=>
 ob (GV.asB t172) fun q173=>jn (bC q173 (bn .eql 3 a158 (i 39) fun t174=>
 ob (GV.asB t174) fun q175=>jn (bC q175 (bn .eql 3 a158 (i 40) fun t176=>
 oN [a155,a156,a157,a158,t176] h154) (oN [a155,a156,a157,a158,t174] h154)) fun vs177 h178=>U5 vs177 fun a179 a180 a181 a182 a183=>oN [a179,a180,a181,a182,a183] h178) (oN [a155,a156,a157,a158,t172] h154)) fun vs184 h185=>U5 vs184 fun a186 a187 a188 a189 a190=>oN [a186,a187,a188,a189,a190] h185) (oN [a155,a156,a157,a158,t170] h154)) fun vs191 h192=>U5 vs191 fun a193 a194 a195 a196 a197=>ob (GV.asB a197) fun q198=>jn (bC q198 (bn .eql 3 a196 (i 41) fun t208=>
 ob (GV.asB t208) fun q209=>jn (bC q209 (bn .eql 3 a196 (i 42) fun t210=>
 oN [a193,a194,a195,t210] h192) (oN [a193,a194,a195,t208] h192)) fun vs211 h212=>U4 vs211 fun a213 a214 a215 a216=>ob (GV.asB a216) fun q217=>jn (bC q217 (oN [a213,a214,a215] h212) (bn .eql 3 a213 (i 2) fun t218=>
 kOR (rG t218 true h212 (some (a214,h212))) fun t219 h220=>
 kOR (rG t218 true h220 (ob (vBin y .eql 3 t219 (i 2)) fun g221=>some (g221,h220))) fun t222 h223=>
 ob (vPick t218 t222 (.bool false)) fun t224=>
 K c 212 [t224,(i 2)] h223 fun t225 h226=>
 oR [t225] h226)) fun vs227 h228=>U3 vs227 fun a229 a230 a231=>oN [a229,a230,a231] h228) (bn .eql 3 a193 (i 1) fun t199=>
 kOR (rG t199 true h192 (some (a194,h192))) fun t200 h201=>
 kOR (rG t199 true h201 (ob (vBin y .eql 3 t200 (i 1)) fun g202=>some (g202,h201))) fun t203 h204=>
 ob (vPick t199 t203 (.bool false)) fun t205=>
 K c 212 [t205,(i 2)] h204 fun t206 h207=>
 oR [t206] h207)) fun vs232 h233=>U3 vs232 fun a234 a235 a236=>oN [a234,a235,a236] h233) (bn .eql 3 a155 a156 fun t161=>
 kOR (rG t161 true h154 (some (a155,h154))) fun t162 h163=>
 kOR (rG t161 true h163 (ob (vBin y .neq 3 t162 (i 0)) fun g164=>some (g164,h163))) fun t165 h166=>
 ob (vPick t161 t165 (.bool false)) fun t167=>
 K c 212 [t167,(i 2)] h166 fun t168 h169=>
 oR [t168] h169)) fun vs237 h238=>U3 vs237 fun a239 a240 a241=>oN [a239,a240,a241] h238) (bn .eql 3 a135 (i 1) fun t141=>
 kOR (rG t141 true h134 (some (a136,h134))) fun t142 h143=>
 kOR (rG t141 true h143 (ob (vBin y .eql 3 t142 (i 1)) fun g144=>some (g144,h143))) fun t145 h146=>
 ob (vPick t141 t145 (.bool false)) fun t147=>
 K c 212 [t147,(i 1)] h146 fun t148 h149=>
 oR [t148] h149)) fun vs242 h243=>U3 vs242 fun a244 a245 a246=>oN [a244,a245,a246] h243) (bn .eql 3 a84 (i 2) fun t100=>
 K c 212 [t100,(i 3)] h83 fun t101 h102=>
 oR [t101] h102)) fun vs247 h248=>U3 vs247 fun a249 a250 a251=>oN [a249,a250,a251] h248) (bn .eql 3 a84 (i 2) fun t95=>
 K c 212 [t95,(i 1)] h83 fun t96 h97=>
 oR [t96] h97)) fun vs252 h253=>U3 vs252 fun a254 a255 a256=>oN [a254,a255,a256] h253) (bn .eql 3 a84 (i 2) fun t90=>
 K c 212 [t90,(i 2)] h83 fun t91 h92=>
 oR [t91] h92)) fun vs257 h258=>U3 vs257 fun a259 a260 a261=>oN [a259,a260,a261] h258) (bn .eql 3 a61 (i 1) fun t67=>
 K c 212 [t67,(i 1)] h60 fun t68 h69=>
 oR [t68] h69)) fun vs262 h263=>U3 vs262 fun a264 a265 a266=>oN [a264,a265,a266] h263)) fun vs267 h268=>U3 vs267 fun a269 a270 a271=>bn .eql 3 a269 (i 2) fun t272=>
 kOR (rG t272 true h268 (some (a270,h268))) fun t273 h274=>
 kOR (rG t272 true h274 (some (a271,h274))) fun t275 h276=>
 kOR (rG t272 true h276 (ob (vBin y .eql 3 t273 t275) fun g277=>some (g277,h276))) fun t278 h279=>
 ob (vPick t272 t278 (.bool false)) fun t280=>
 K c 212 [t280,a270] h279 fun t281 h282=>
 oR [t281] h282
def B207 (c:CH) (ql:QH) (us:List GV) (H:GH):RS:=U3 us fun x1 x2 x3=>
 ob (GV.nilck x1) fun t4=>
 fd 232 3 t4 fun t5=>
 ld 149 t5 H fun t6=>
 ix 149 t6 x2 fun t7=>
 ld 211 t7 H fun t8=>
 kOR (vAlloc y 211 H) fun t9 h10=>
 kOR (vStore y 211 t9 t8 h10) fun t11 h12=>
 jn (nB 0 (fd 211 0 t9 fun t13=>
 ld 3 t13 h12 fun t14=>
 bn .leq 3 t14 (i 17) fun t15=>
 ob (GV.asB t15) fun q16=>jn (bC q16 (fd 211 0 t9 fun t21=>
 ld 3 t21 h12 fun t22=>
 bn .leq 3 t22 (i 19) fun t23=>
 ob (GV.asB t23) fun q24=>jn (bC q24 (fd 211 0 t9 fun t34=>
 ld 3 t34 h12 fun t35=>
 bn .leq 3 t35 (i 29) fun t36=>
 ob (GV.asB t36) fun q37=>jn (bC q37 (fd 211 0 t9 fun t44=>
 ld 3 t44 h12 fun t45=>
 bn .leq 3 t45 (i 42) fun t46=>
 ob (GV.asB t46) fun q47=>jn (bC q47 (oN [x1,x2,x3] h12) (bn .add 3 x2 (i 1) fun t48=>
 K c 207 [x1,t48,x3] h12 fun t49 h50=>
 ex 0 t49 fun t51=>
 ex 1 t49 fun t52=>
 K c 207 [x1,t52,x3] h50 fun t53 h54=>
 ex 0 t53 fun t55=>
 ex 1 t53 fun t56=>
 fd 211 0 t9 fun t57=>
 ld 3 t57 h54 fun t58=>
 K c 216 [t58,t51,t55] h54 fun t59 h60=>
 oR [t59,t56] h60)) fun vs61 h62=>U3 vs61 fun a63 a64 a65=>oN [a63,a64,a65] h62) (fd 211 0 t9 fun t38=>
 ld 3 t38 h12 fun t39=>
 K c 215 [x1,t39,x2] h12 fun t40 h41=>
 ex 0 t40 fun t42=>
 ex 1 t40 fun t43=>
 oR [t42,t43] h41)) fun vs66 h67=>U3 vs66 fun a68 a69 a70=>oN [a68,a69,a70] h67) (bn .add 3 x2 (i 1) fun t25=>
 K c 207 [x1,t25,x3] h12 fun t26 h27=>
 ex 0 t26 fun t28=>
 ex 1 t26 fun t29=>
 fd 211 0 t9 fun t30=>
 ld 3 t30 h27 fun t31=>
 K c 214 [t31,t28] h27 fun t32 h33=>
 oR [t32,t29] h33)) fun vs71 h72=>U3 vs71 fun a73 a74 a75=>oN [a73,a74,a75] h72) (ld 211 t9 h12 fun t17=>
 K c 213 [x1,t17,x3] h12 fun t18 h19=>
 bn .add 3 x2 (i 1) fun t20=>
 oR [t18,t20] h19)) fun vs76 h77=>U3 vs76 fun a78 a79 a80=>oN [a78,a79,a80] h77)) fun vs81 h82=>U3 vs81 fun a83 a84 a85=>bn .add 3 a84 (i 1) fun t86=>
 K c 207 [a83,t86,a85] h82 fun t87 h88=>
 ex 0 t87 fun t89=>
 ex 1 t87 fun t90=>
 K c 207 [a83,t90,a85] h88 fun t91 h92=>
 ex 0 t91 fun t93=>
 ex 1 t91 fun t94=>
 K c 207 [a83,t94,a85] h92 fun t95 h96=>
 ex 0 t95 fun t97=>
 ex 1 t95 fun t98=>
 bn .neq 3 t89 (i 0) fun t99=>
 ob (GV.asB t99) fun q100=>jn (bC q100 (oN [t98,t97] h96) (oR [t93,t98] h96)) fun vs101 h102=>U2 vs101 fun a103 a104=>oR [a104,a103] h102
def B209 (c:CH) (ql:QH) (us:List GV) (H:GH):RS:=U1 us fun x1=>
 K c 147 [x1] H fun t2 h3=>
 K c 148 [x1] h3 fun t4 h5=>
 bn .eql 3 t4 (i 2) fun t6=>
 ob (GV.asB t6) fun q7=>jn (bC q7 (oN [x1,t2] h5) (K c 150 [x1] h5 fun t8 h9=>
 pt 136 3 t8 fun t10=>
 K c 198 [(i 1),t10] h9 fun t11 h12=>
 oR [t11] h12)) fun vs13 h14=>U2 vs13 fun a15 a16=>K c 146 [a15,(.str 40 1)] h14 fun t17 h18=>
 ob (GV.asB t17) fun q19=>jn (bC q19 (oN [a15,a16] h18) (K c 153 [a15] h18 fun t20 h21=>
 K c 116 [a15,(.str 41 1)] h21 fun t22 h23=>
 oR [t20] h23)) fun vs24 h25=>U2 vs24 fun a26 a27=>K c 146 [a26,(.str 113 1)] h25 fun t28 h29=>
 ob (GV.asB t28) fun q30=>jn (bC q30 (oN [a26,a27] h29) (K c 217 [a26] h29 fun t31 h32=>
 oR [t31] h32)) fun vs33 h34=>U2 vs33 fun a35 a36=>K c 218 [a36] h34 fun t37 h38=>
 bn .neq 3 t37 (i 0) fun t39=>
 ob (GV.asB t39) fun q40=>jn (bC q40 (oN [a35,a36] h38) (K c 150 [a35] h38 fun t41 h42=>
 K c 198 [t37,(i 0)] h42 fun t43 h44=>
 oR [t43] h44)) fun vs45 h46=>U2 vs45 fun a47 a48=>K c 219 [a48] h46 fun t49 h50=>
 bn .neq 3 t49 (i 0) fun t51=>
 ob (GV.asB t51) fun q52=>jn (bC q52 (oN [a47] h50) (K c 150 [a47] h50 fun t53 h54=>
 K c 116 [a47,(.str 40 1)] h54 fun t55 h56=>
 K c 153 [a47] h56 fun t57 h58=>
 K c 116 [a47,(.str 41 1)] h58 fun t59 h60=>
 kOR (vBuildS y 225 1 [(0,t57)] h60) fun t61 h62=>
 K c 178 [t49,t61] h62 fun t63 h64=>
 oR [t63] h64)) fun vs65 h66=>U1 vs65 fun a67=>K c 154 [a67] h66 fun t68 h69=>
 K c 198 [(i 5),t68] h69 fun t70 h71=>
 oR [t70] h71
def B210 (c:CH) (ql:QH) (us:List GV) (H:GH):RS:=U3 us fun x1 x2 x3=>
 bn .eql 9 x1 (.str 0 0) fun t4=>
 ob (GV.asB t4) fun q5=>jn (bC q5 (oN [x1,x2,x3] H) (oR [(i 0)] H)) fun vs6 h7=>U3 vs6 fun a8 a9 a10=>ln 113 a10 fun t11=>
 jn (nB 0 (ql 54 [a8,a9,a10,t11,(i 0)] h7)) fun vs12 h13=>U0 vs12 (oR [(i 0)] h13)
def L54 (c:CH) (ql:QH) (us:List GV) (H:GH):RS:=U5 us fun a14 a15 a16 a17 a18=>jn (bn .lss 3 a18 a17 fun t19=>
 ob (GV.asB t19) fun q20=>jn (bC q20 (oX 0 [] H) (oN [a14,a15,a16,a17,a18] H)) fun vs21 h22=>U5 vs21 fun a23 a24 a25 a26 a27=>jn (nB 1 (ix 113 a25 a27 fun t28=>
 ld 9 t28 h22 fun t29=>
 bn .eql 9 t29 a23 fun t30=>
 ob (GV.asB t30) fun q31=>jn (bC q31 (oN [a23,a24,a25,a26,a27] h22) (bn .add 3 a24 a27 fun t32=>
 oR [t32] h22)) fun vs33 h34=>U5 vs33 fun a35 a36 a37 a38 a39=>oN [a35,a36,a37,a38,a39] h34)) fun vs40 h41=>U5 vs40 fun a42 a43 a44 a45 a46=>bn .add 3 a46 (i 1) fun t47=>
 oN [a42,a43,a44,a45,t47] h41) (ql 54)
def B211 (c:CH) (ql:QH) (us:List GV) (H:GH):RS:=U0 us (kOR (vBuildS y 113 13 [(0,(.str 42 1)),(1,(.str 47 1)),(2,(.str 37 1)),(3,(.str 43 1)),(4,(.str 45 1)),(5,(.str 15677 2)),(6,(.str 15649 2)),(7,(.str 60 1)),(8,(.str 15676 2)),(9,(.str 62 1)),(10,(.str 15678 2)),(11,(.str 9766 2)),(12,(.str 31868 2))] H) fun t1 h2=>
 oR [t1] h2)
def B212 (c:CH) (ql:QH) (us:List GV) (H:GH):RS:=U2 us fun x1 x2=>
 ob (GV.asB x1) fun q3=>jn (bC q3 (oN [] H) (oR [x2] H)) fun vs4 h5=>U0 vs4 (oR [(i 0)] h5)
def B213 (c:CH) (ql:QH) (us:List GV) (H:GH):RS:=U3 us fun x1 x2 x3=>
 kOR (vBox x2 H) fun t4 h5=>
 fd 211 0 t4 fun t6=>
 ld 3 t6 h5 fun t7=>
 jn (nB 0 (bn .eql 3 t7 (i 1) fun t8=>
 ob (GV.asB t8) fun q9=>jn (bC q9 (bn .eql 3 t7 (i 2) fun t12=>
 ob (GV.asB t12) fun q13=>jn (bC q13 (bn .eql 3 t7 (i 3) fun t14=>
 ob (GV.asB t14) fun q15=>jn (bC q15 (bn .eql 3 t7 (i 4) fun t16=>
 ob (GV.asB t16) fun q17=>jn (bC q17 (bn .eql 3 t7 (i 5) fun t18=>
 ob (GV.asB t18) fun q19=>jn (bC q19 (bn .eql 3 t7 (i 12) fun t32=>
 ob (GV.asB t32) fun q33=>jn (bC q33 (oN [x1,x3,t4] h5) (ob (GV.nilck x1) fun t34=>
 fd 232 1 t34 fun t35=>
 ld 30 t35 h5 fun t36=>
 ob (GV.nilck x1) fun t37=>
 fd 232 0 t37 fun t38=>
 ld 160 t38 h5 fun t39=>
 ob (GV.nilck t39) fun t40=>
 fd 196 1 t40 fun t41=>
 fd 25 1 t41 fun t42=>
 ld 23 t42 h5 fun t43=>
 ob (GV.nilck x1) fun t44=>
 fd 232 2 t44 fun t45=>
 ld 3 t45 h5 fun t46=>
 ix 23 t43 t46 fun t47=>
 ld 84 t47 h5 fun t48=>
 ix 84 t48 x3 fun t49=>
 fd 87 0 t49 fun t50=>
 ld 3 t50 h5 fun t51=>
 ix 30 t36 t51 fun t52=>
 ld 22 t52 h5 fun t53=>
 fd 211 1 t4 fun t54=>
 ld 3 t54 h5 fun t55=>
 ix 22 t53 t55 fun t56=>
 ld 3 t56 h5 fun t57=>
 oR [t57] h5)) fun vs58 h59=>U3 vs58 fun a60 a61 a62=>oN [a60,a61,a62] h59) (ob (GV.nilck x1) fun t20=>
 fd 232 1 t20 fun t21=>
 ld 30 t21 h5 fun t22=>
 ob (GV.nilck x1) fun t23=>
 fd 232 2 t23 fun t24=>
 ld 3 t24 h5 fun t25=>
 ix 30 t22 t25 fun t26=>
 ld 22 t26 h5 fun t27=>
 fd 211 1 t4 fun t28=>
 ld 3 t28 h5 fun t29=>
 ix 22 t27 t29 fun t30=>
 ld 3 t30 h5 fun t31=>
 oR [t31] h5)) fun vs63 h64=>U3 vs63 fun a65 a66 a67=>oN [a65,a66,a67] h64) (oR [(.int .i64 (.negSucc 0))] h5)) fun vs68 h69=>U3 vs68 fun a70 a71 a72=>oN [a70,a71,a72] h69) (oR [(i 0)] h5)) fun vs73 h74=>U3 vs73 fun a75 a76 a77=>oN [a75,a76,a77] h74) (oR [(i 1)] h5)) fun vs78 h79=>U3 vs78 fun a80 a81 a82=>oN [a80,a81,a82] h79) (fd 211 1 t4 fun t10=>
 ld 3 t10 h5 fun t11=>
 oR [t11] h5)) fun vs83 h84=>U3 vs83 fun a85 a86 a87=>oN [a85,a86,a87] h84)) fun vs88 h89=>U3 vs88 fun a90 a91 a92=>ob (GV.nilck a90) fun t93=>
 fd 232 0 t93 fun t94=>
 ld 160 t94 h89 fun t95=>
 fd 211 0 a92 fun t96=>
 ld 3 t96 h89 fun t97=>
 ob (GV.nilck a90) fun t98=>
 fd 232 2 t98 fun t99=>
 ld 3 t99 h89 fun t100=>
 K c 220 [t95,t97,t100,a91] h89 fun t101 h102=>
 oR [t101] h102
def B214 (c:CH) (ql:QH) (us:List GV) (H:GH):RS:=U2 us fun x1 x2=>
 bn .eql 3 x1 (i 18) fun t3=>
 ob (GV.asB t3) fun q4=>jn (bC q4 (oN [x2] H) (ob (vUn .neg x2) fun t5=>
 oR [t5] H)) fun vs6 h7=>U1 vs6 fun a8=>bn .eql 3 a8 (i 0) fun t9=>
 K c 221 [t9] h7 fun t10 h11=>
 oR [t10] h11
def B215 (c:CH) (ql:QH) (us:List GV) (H:GH):RS:=U3 us fun x1 x2 x3=>
 kOR (vAlloc y 108 H) fun t4 h5=>
 ob (GV.nilck x1) fun t6=>
 fd 232 0 t6 fun t7=>
 ld 160 t7 h5 fun t8=>
 ob (GV.nilck t8) fun t9=>
 fd 196 1 t9 fun t10=>
 fd 25 1 t10 fun t11=>
 ld 23 t11 h5 fun t12=>
 ob (GV.nilck x1) fun t13=>
 fd 232 2 t13 fun t14=>
 ld 3 t14 h5 fun t15=>
 ix 23 t12 t15 fun t16=>
 ld 84 t16 h5 fun t17=>
 ln 84 t17 fun t18=>
 jn (nB 0 (ql 55 [x1,x2,x3,(i 0),t4,t18,t18,(i 0)] h5)) fun vs19 h20=>U6 vs19 fun a21 a22 a23 a24 a25 a26=>bn .eql 3 a26 (i 0) fun t27=>
 ob (GV.asB t27) fun q28=>jn (bC q28 (oN [a22,a24,a25,a26] h20) (ob (GV.nilck a21) fun t29=>
 fd 232 3 t29 fun t30=>
 ld 149 t30 h20 fun t31=>
 K c 180 [t31,a23] h20 fun t32 h33=>
 oN [a22,t32,a25,a26] h33)) fun vs34 h35=>U4 vs34 fun a36 a37 a38 a39=>ob (vSlice y 108 a38 none (some a39) h35) fun t40=>
 K c 222 [a36,t40] h35 fun t41 h42=>
 oR [t41,a37] h42
def L55 (c:CH) (ql:QH) (us:List GV) (H:GH):RS:=U8 us fun a43 a44 a45 a46 a47 a48 a49 a50=>jn (bn .lss 3 a50 a49 fun t51=>
 ob (GV.asB t51) fun q52=>jn (bC q52 (oX 0 [a43,a44,a45,a46,a47,a48] H) (oN [a43,a44,a45,a47,a48,a49,a50] H)) fun vs53 h54=>U7 vs53 fun a55 a56 a57 a58 a59 a60 a61=>jn (nB 1 (bn .add 3 a57 (i 1) fun t62=>
 K c 207 [a55,t62,a61] h54 fun t63 h64=>
 ex 0 t63 fun t65=>
 ex 1 t63 fun t66=>
 ix 108 a58 a61 fun t67=>
 kOR (vStore y 3 t67 t65 h64) fun t68 h69=>
 oN [a55,a56,a57,t66,a58,a59,a60,a61] h69)) fun vs70 h71=>U8 vs70 fun a72 a73 a74 a75 a76 a77 a78 a79=>bn .add 3 a79 (i 1) fun t80=>
 oN [a72,a73,a74,a75,a76,a77,a78,t80] h71) (ql 55)
def B216 (c:CH) (ql:QH) (us:List GV) (H:GH):RS:=U3 us fun x1 x2 x3=>
 jn (nB 0 (bn .eql 3 x1 (i 30) fun t4=>
 ob (GV.asB t4) fun q5=>jn (bC q5 (bn .eql 3 x1 (i 31) fun t9=>
 ob (GV.asB t9) fun q10=>jn (bC q10 (bn .eql 3 x1 (i 32) fun t15=>
 ob (GV.asB t15) fun q16=>jn (bC q16 (bn .eql 3 x1 (i 33) fun t29=>
 ob (GV.asB t29) fun q30=>jn (bC q30 (bn .eql 3 x1 (i 34) fun t34=>
 ob (GV.asB t34) fun q35=>jn (bC q35 (bn .eql 3 x1 (i 41) fun t39=>
 ob (GV.asB t39) fun q40=>jn (bC q40 (bn .eql 3 x1 (i 42) fun t50=>
 ob (GV.asB t50) fun q51=>jn (bC q51 (oN [x1,x2,x3] H) (bn .neq 3 x2 (i 0) fun t52=>
 kOR (rG t52 false H (some (x3,H))) fun t53 h54=>
 kOR (rG t52 false h54 (ob (vBin y .neq 3 t53 (i 0)) fun g55=>some (g55,h54))) fun t56 h57=>
 ob (vPick t52 (.bool true) t56) fun t58=>
 K c 221 [t58] h57 fun t59 h60=>
 oR [t59] h60)) fun vs61 h62=>U3 vs61 fun a63 a64 a65=>oN [a63,a64,a65] h62) (bn .neq 3 x2 (i 0) fun t41=>
 kOR (rG t41 true H (some (x3,H))) fun t42 h43=>
 kOR (rG t41 true h43 (ob (vBin y .neq 3 t42 (i 0)) fun g44=>some (g44,h43))) fun t45 h46=>
 ob (vPick t41 t45 (.bool false)) fun t47=>
 K c 221 [t47] h46 fun t48 h49=>
 oR [t48] h49)) fun vs66 h67=>U3 vs66 fun a68 a69 a70=>oN [a68,a69,a70] h67) (bn .sub 3 x2 x3 fun t36=>
 K c 223 [t36] H fun t37 h38=>
 oR [t37] h38)) fun vs71 h72=>U3 vs71 fun a73 a74 a75=>oN [a73,a74,a75] h72) (bn .add 3 x2 x3 fun t31=>
 K c 223 [t31] H fun t32 h33=>
 oR [t32] h33)) fun vs76 h77=>U3 vs76 fun a78 a79 a80=>oN [a78,a79,a80] h77) (bn .eql 3 x3 (i 0) fun t17=>
 ob (GV.asB t17) fun q18=>jn (bC q18 (oN [x2,x3] H) (oR [(i 0)] H)) fun vs19 h20=>U2 vs19 fun a21 a22=>K c 224 [a21,a22] h20 fun t23 h24=>
 bn .mul 3 a22 t23 fun t25=>
 bn .sub 3 a21 t25 fun t26=>
 K c 223 [t26] h24 fun t27 h28=>
 oR [t27] h28)) fun vs81 h82=>U3 vs81 fun a83 a84 a85=>oN [a83,a84,a85] h82) (K c 224 [x2,x3] H fun t11 h12=>
 K c 223 [t11] h12 fun t13 h14=>
 oR [t13] h14)) fun vs86 h87=>U3 vs86 fun a88 a89 a90=>oN [a88,a89,a90] h87) (bn .mul 3 x2 x3 fun t6=>
 K c 223 [t6] H fun t7 h8=>
 oR [t7] h8)) fun vs91 h92=>U3 vs91 fun a93 a94 a95=>oN [a93,a94,a95] h92)) fun vs96 h97=>U3 vs96 fun a98 a99 a100=>K c 225 [a98,a99,a100] h97 fun t101 h102=>
 K c 221 [t101] h102 fun t103 h104=>
 oR [t103] h104
def B217 (c:CH) (ql:QH) (us:List GV) (H:GH):RS:=U1 us fun x1=>
 K c 146 [x1,(.str 46 1)] H fun t2 h3=>
 ob (vUn .not t2) fun t4=>
 ob (GV.asB t4) fun q5=>jn (bC q5 (oN [x1] h3) (K c 198 [(i 11),(i 0)] h3 fun t6 h7=>
 oR [t6] h7)) fun vs8 h9=>U1 vs8 fun a10=>K c 147 [a10] h9 fun t11 h12=>
 K c 226 [t11] h12 fun t13 h14=>
 bn .neq 3 t13 (i 0) fun t15=>
 ob (GV.asB t15) fun q16=>jn (bC q16 (oN [a10] h14) (K c 150 [a10] h14 fun t17 h18=>
 K c 198 [t13,(i 0)] h18 fun t19 h20=>
 oR [t19] h20)) fun vs21 h22=>U1 vs21 fun a23=>K c 154 [a23] h22 fun t24 h25=>
 K c 198 [(i 12),t24] h25 fun t26 h27=>
 oR [t26] h27
def B218 (c:CH) (ql:QH) (us:List GV) (H:GH):RS:=U1 us fun x1=>
 K c 227 [] H fun t2 h3=>
 K c 210 [x1,(i 2),t2] h3 fun t4 h5=>
 oR [t4] h5
def B219 (c:CH) (ql:QH) (us:List GV) (H:GH):RS:=U1 us fun x1=>
 K c 228 [] H fun t2 h3=>
 K c 210 [x1,(i 20),t2] h3 fun t4 h5=>
 oR [t4] h5
def B220 (c:CH) (ql:QH) (us:List GV) (H:GH):RS:=U4 us fun x1 x2 x3 x4=>
 jn (nB 0 (bn .eql 3 x2 (i 6) fun t5=>
 ob (GV.asB t5) fun q6=>jn (bC q6 (bn .eql 3 x2 (i 7) fun t12=>
 ob (GV.asB t12) fun q13=>jn (bC q13 (bn .eql 3 x2 (i 8) fun t17=>
 ob (GV.asB t17) fun q18=>jn (bC q18 (bn .eql 3 x2 (i 9) fun t25=>
 ob (GV.asB t25) fun q26=>jn (bC q26 (bn .eql 3 x2 (i 10) fun t34=>
 ob (GV.asB t34) fun q35=>jn (bC q35 (bn .eql 3 x2 (i 11) fun t39=>
 ob (GV.asB t39) fun q40=>jn (bC q40 (oN [x1,x2,x3,x4] H) (oR [x4] H)) fun vs41 h42=>U4 vs41 fun a43 a44 a45 a46=>oN [a43,a44,a45,a46] h42) (bn .eql 3 x3 (i 0) fun t36=>
 K c 221 [t36] H fun t37 h38=>
 oR [t37] h38)) fun vs47 h48=>U4 vs47 fun a49 a50 a51 a52=>oN [a49,a50,a51,a52] h48) (ob (GV.nilck x1) fun t27=>
 fd 196 1 t27 fun t28=>
 fd 25 1 t28 fun t29=>
 ld 23 t29 H fun t30=>
 ix 23 t30 x3 fun t31=>
 ld 84 t31 H fun t32=>
 ln 84 t32 fun t33=>
 oR [t33] H)) fun vs53 h54=>U4 vs53 fun a55 a56 a57 a58=>oN [a55,a56,a57,a58] h54) (ob (GV.nilck x1) fun t19=>
 fd 196 1 t19 fun t20=>
 fd 25 0 t20 fun t21=>
 ld 22 t21 H fun t22=>
 ix 22 t22 x3 fun t23=>
 ld 3 t23 H fun t24=>
 oR [t24] H)) fun vs59 h60=>U4 vs59 fun a61 a62 a63 a64=>oN [a61,a62,a63,a64] h60) (ob (GV.nilck x1) fun t14=>
 fd 196 2 t14 fun t15=>
 ld 3 t15 H fun t16=>
 oR [t16] H)) fun vs65 h66=>U4 vs65 fun a67 a68 a69 a70=>oN [a67,a68,a69,a70] h66) (ob (GV.nilck x1) fun t7=>
 fd 196 1 t7 fun t8=>
 fd 25 0 t8 fun t9=>
 ld 22 t9 H fun t10=>
 ln 22 t10 fun t11=>
 oR [t11] H)) fun vs71 h72=>U4 vs71 fun a73 a74 a75 a76=>oN [a73,a74,a75,a76] h72)) fun vs77 h78=>U4 vs77 fun a79 a80 a81 a82=>ob (GV.nilck a79) fun t83=>
 fd 196 1 t83 fun t84=>
 fd 25 1 t84 fun t85=>
 ld 23 t85 h78 fun t86=>
 ix 23 t86 a81 fun t87=>
 ld 84 t87 h78 fun t88=>
 ix 84 t88 a82 fun t89=>
 ld 87 t89 h78 fun t90=>
 kOR (vAlloc y 87 h78) fun t91 h92=>
 kOR (vStore y 87 t91 t90 h92) fun t93 h94=>
 jn (nB 1 (bn .eql 3 a80 (i 13) fun t95=>
 ob (GV.asB t95) fun q96=>jn (bC q96 (bn .eql 3 a80 (i 14) fun t105=>
 ob (GV.asB t105) fun q106=>jn (bC q106 (bn .eql 3 a80 (i 15) fun t116=>
 ob (GV.asB t116) fun q117=>jn (bC q117 (bn .eql 3 a80 (i 16) fun t123=>
 ob (GV.asB t123) fun q124=>jn (bC q124 (oN [a79,a81,a82] h94) (fd 87 1 t91 fun t125=>
 ld 3 t125 h94 fun t126=>
 oR [t126] h94)) fun vs127 h128=>U3 vs127 fun a129 a130 a131=>oN [a129,a130,a131] h128) (fd 87 0 t91 fun t118=>
 ld 3 t118 h94 fun t119=>
 bn .eql 3 t119 (i 0) fun t120=>
 K c 221 [t120] h94 fun t121 h122=>
 oR [t121] h122)) fun vs132 h133=>U3 vs132 fun a134 a135 a136=>oN [a134,a135,a136] h133) (ob (GV.nilck a79) fun t107=>
 fd 196 1 t107 fun t108=>
 fd 25 1 t108 fun t109=>
 ld 23 t109 h94 fun t110=>
 fd 87 0 t91 fun t111=>
 ld 3 t111 h94 fun t112=>
 ix 23 t110 t112 fun t113=>
 ld 84 t113 h94 fun t114=>
 ln 84 t114 fun t115=>
 oR [t115] h94)) fun vs137 h138=>U3 vs137 fun a139 a140 a141=>oN [a139,a140,a141] h138) (ob (GV.nilck a79) fun t97=>
 fd 196 1 t97 fun t98=>
 fd 25 0 t98 fun t99=>
 ld 22 t99 h94 fun t100=>
 fd 87 0 t91 fun t101=>
 ld 3 t101 h94 fun t102=>
 ix 22 t100 t102 fun t103=>
 ld 3 t103 h94 fun t104=>
 oR [t104] h94)) fun vs142 h143=>U3 vs142 fun a144 a145 a146=>oN [a144,a145,a146] h143)) fun vs147 h148=>U3 vs147 fun a149 a150 a151=>ob (GV.nilck a149) fun t152=>
 fd 196 3 t152 fun t153=>
 ld 30 t153 h148 fun t154=>
 ix 30 t154 a150 fun t155=>
 ld 22 t155 h148 fun t156=>
 ix 22 t156 a151 fun t157=>
 ld 3 t157 h148 fun t158=>
 oR [t158] h148
def B221 (c:CH) (ql:QH) (us:List GV) (H:GH):RS:=U1 us fun x1=>
 ob (GV.asB x1) fun q2=>jn (bC q2 (oN [] H) (oR [(i 1)] H)) fun vs3 h4=>U0 vs3 (oR [(i 0)] h4)
def B222 (c:CH) (ql:QH) (us:List GV) (H:GH):RS:=U2 us fun x1 x2=>
 jn (nB 0 (bn .eql 3 x1 (i 20) fun t3=>
 ob (GV.asB t3) fun q4=>jn (bC q4 (bn .eql 3 x1 (i 21) fun t11=>
 ob (GV.asB t11) fun q12=>jn (bC q12 (bn .eql 3 x1 (i 22) fun t18=>
 ob (GV.asB t18) fun q19=>jn (bC q19 (bn .eql 3 x1 (i 23) fun t22=>
 ob (GV.asB t22) fun q23=>jn (bC q23 (bn .eql 3 x1 (i 24) fun t26=>
 ob (GV.asB t26) fun q27=>jn (bC q27 (bn .eql 3 x1 (i 25) fun t32=>
 ob (GV.asB t32) fun q33=>jn (bC q33 (bn .eql 3 x1 (i 26) fun t38=>
 ob (GV.asB t38) fun q39=>jn (bC q39 (bn .eql 3 x1 (i 27) fun t46=>
 ob (GV.asB t46) fun q47=>jn (bC q47 (bn .eql 3 x1 (i 28) fun t50=>
 ob (GV.asB t50) fun q51=>jn (bC q51 (oN [x2] H) (K c 232 [x2] H fun t52 h53=>
 ex 0 t52 fun t54=>
 ex 1 t52 fun t55=>
 oR [t55] h53)) fun vs56 h57=>U1 vs56 fun a58=>oN [a58] h57) (K c 233 [x2] H fun t48 h49=>
 oR [t48] h49)) fun vs59 h60=>U1 vs59 fun a61=>oN [a61] h60) (ln 22 x2 fun t40=>
 jn (nB 3 (ql 57 [(i 0),x2,t40,(i 0)] H)) fun vs41 h42=>U1 vs41 fun a43=>K c 223 [a43] h42 fun t44 h45=>
 oR [t44] h45)) fun vs62 h63=>U1 vs62 fun a64=>oN [a64] h63) (K c 232 [x2] H fun t34 h35=>
 ex 0 t34 fun t36=>
 ex 1 t34 fun t37=>
 oR [t36] h35)) fun vs65 h66=>U1 vs65 fun a67=>oN [a67] h66) (ln 22 x2 fun t28=>
 jn (nB 1 (ql 56 [(i 1073741824),x2,t28,(i 0)] H)) fun vs29 h30=>U1 vs29 fun a31=>oR [a31] h30)) fun vs68 h69=>U1 vs68 fun a70=>oN [a70] h69) (K c 230 [x2,(.fn 231 [] [])] H fun t24 h25=>
 oR [t24] h25)) fun vs71 h72=>U1 vs71 fun a73=>oN [a73] h72) (K c 229 [x2] H fun t20 h21=>
 oR [t20] h21)) fun vs74 h75=>U1 vs74 fun a76=>oN [a76] h75) (K c 229 [x2] H fun t13 h14=>
 bn .gtr 3 t13 (i 0) fun t15=>
 K c 221 [t15] h14 fun t16 h17=>
 oR [t16] h17)) fun vs77 h78=>U1 vs77 fun a79=>oN [a79] h78) (K c 229 [x2] H fun t5 h6=>
 ln 22 x2 fun t7=>
 bn .eql 3 t5 t7 fun t8=>
 K c 221 [t8] h6 fun t9 h10=>
 oR [t9] h10)) fun vs80 h81=>U1 vs80 fun a82=>oN [a82] h81)) fun vs83 h84=>U1 vs83 fun a85=>ln 22 a85 fun t86=>
 bn .eql 3 t86 (i 0) fun t87=>
 ob (GV.asB t87) fun q88=>jn (bC q88 (oN [a85] h84) (oR [(i 0)] h84)) fun vs89 h90=>U1 vs89 fun a91=>ix 22 a91 (i 0) fun t92=>
 ld 3 t92 h90 fun t93=>
 oR [t93] h90
def L56 (c:CH) (ql:QH) (us:List GV) (H:GH):RS:=U4 us fun a94 a95 a96 a97=>jn (bn .lss 3 a97 a96 fun t98=>
 ob (GV.asB t98) fun q99=>jn (bC q99 (oX 1 [a94] H) (oN [a94,a95,a96,a97] H)) fun vs100 h101=>U4 vs100 fun a102 a103 a104 a105=>jn (nB 2 (ix 22 a103 a105 fun t106=>
 ld 3 t106 h101 fun t107=>
 ob (vMin a102 t107) fun t108=>
 oN [t108,a103,a104,a105] h101)) fun vs109 h110=>U4 vs109 fun a111 a112 a113 a114=>bn .add 3 a114 (i 1) fun t115=>
 oN [a111,a112,a113,t115] h110) (ql 56)
def L57 (c:CH) (ql:QH) (us:List GV) (H:GH):RS:=U4 us fun a116 a117 a118 a119=>jn (bn .lss 3 a119 a118 fun t120=>
 ob (GV.asB t120) fun q121=>jn (bC q121 (oX 3 [a116] H) (oN [a116,a117,a118,a119] H)) fun vs122 h123=>U4 vs122 fun a124 a125 a126 a127=>jn (nB 4 (ix 22 a125 a127 fun t128=>
 ld 3 t128 h123 fun t129=>
 bn .add 3 a124 t129 fun t130=>
 oN [t130,a125,a126,a127] h123)) fun vs131 h132=>U4 vs131 fun a133 a134 a135 a136=>bn .add 3 a136 (i 1) fun t137=>
 oN [a133,a134,a135,t137] h132) (ql 57)
def B223 (c:CH) (ql:QH) (us:List GV) (H:GH):RS:=U1 us fun x1=>
 ob (vMin x1 (i 1073741824)) fun t2=>
 ob (vMax (.int .i64 (.negSucc 1073741823)) t2) fun t3=>
 oR [t3] H
def B224 (c:CH) (ql:QH) (us:List GV) (H:GH):RS:=U2 us fun x1 x2=>
 bn .eql 3 x2 (i 0) fun t3=>
 ob (GV.asB t3) fun q4=>jn (bC q4 (oN [x1,x2] H) (oR [(i 0)] H)) fun vs5 h6=>U2 vs5 fun a7 a8=>bn .quo 3 a7 a8 fun t9=>
 bn .rem 3 a7 a8 fun t10=>
 bn .neq 3 t10 (i 0) fun t11=>
 kOR (rG t11 true h6 (some (a7,h6))) fun t12 h13=>
 kOR (rG t11 true h13 (ob (vBin y .lss 3 t12 (i 0)) fun g14=>some (g14,h13))) fun t15 h16=>
 kOR (rG t11 true h16 (some (a8,h16))) fun t17 h18=>
 kOR (rG t11 true h18 (ob (vBin y .lss 3 t17 (i 0)) fun g19=>some (g19,h18))) fun t20 h21=>
 kOR (rG t11 true h21 (ob (vBin y .neq 4 t15 t20) fun g22=>some (g22,h21))) fun t23 h24=>
 ob (vPick t11 t23 (.bool false)) fun t25=>
 ob (GV.asB t25) fun q26=>jn (bC q26 (oN [t9] h24) (bn .sub 3 t9 (i 1) fun t27=>
 oN [t27] h24)) fun vs28 h29=>U1 vs28 fun a30=>oR [a30] h29
def B225 (c:CH) (ql:QH) (us:List GV) (H:GH):RS:=U3 us fun x1 x2 x3=>
 jn (nB 0 (bn .eql 3 x1 (i 35) fun t4=>
 ob (GV.asB t4) fun q5=>jn (bC q5 (bn .eql 3 x1 (i 36) fun t7=>
 ob (GV.asB t7) fun q8=>jn (bC q8 (bn .eql 3 x1 (i 37) fun t10=>
 ob (GV.asB t10) fun q11=>jn (bC q11 (bn .eql 3 x1 (i 38) fun t13=>
 ob (GV.asB t13) fun q14=>jn (bC q14 (bn .eql 3 x1 (i 39) fun t16=>
 ob (GV.asB t16) fun q17=>jn (bC q17 (oN [x2,x3] H) (bn .gtr 3 x2 x3 fun t18=>
 oR [t18] H)) fun vs19 h20=>U2 vs19 fun a21 a22=>oN [a21,a22] h20) (bn .leq 3 x2 x3 fun t15=>
 oR [t15] H)) fun vs23 h24=>U2 vs23 fun a25 a26=>oN [a25,a26] h24) (bn .lss 3 x2 x3 fun t12=>
 oR [t12] H)) fun vs27 h28=>U2 vs27 fun a29 a30=>oN [a29,a30] h28) (bn .neq 3 x2 x3 fun t9=>
 oR [t9] H)) fun vs31 h32=>U2 vs31 fun a33 a34=>oN [a33,a34] h32) (bn .eql 3 x2 x3 fun t6=>
 oR [t6] H)) fun vs35 h36=>U2 vs35 fun a37 a38=>oN [a37,a38] h36)) fun vs39 h40=>U2 vs39 fun a41 a42=>bn .geq 3 a41 a42 fun t43=>
 oR [t43] h40
def B226 (c:CH) (ql:QH) (us:List GV) (H:GH):RS:=U1 us fun x1=>
 K c 234 [] H fun t2 h3=>
 K c 210 [x1,(i 13),t2] h3 fun t4 h5=>
 oR [t4] h5
def B227 (c:CH) (ql:QH) (us:List GV) (H:GH):RS:=U0 us (kOR (vBuildS y 113 9 [(0,(.str 1702195828 4)),(1,(.str 435728179558 5)),(2,(.str 1701736302 4)),(3,(.str 0 0)),(4,(.str 110 1)),(5,(.str 7562345 3)),(6,(.str 25705 2)),(7,(.str 6776164 3)),(8,(.str 1953460082 4))] H) fun t1 h2=>
 oR [t1] h2)
def B228 (c:CH) (ql:QH) (us:List GV) (H:GH):RS:=U0 us (kOR (vBuildS y 113 10 [(0,(.str 7105633 3)),(1,(.str 1701670771 4)),(2,(.str 500069396323 5)),(3,(.str 500153084262 5)),(4,(.str 7235949 3)),(5,(.str 7889261 3)),(6,(.str 7173491 3)),(7,(.str 7890285 3)),(8,(.str 110425477965171 6)),(9,(.str 1684104552 4))] H) fun t1 h2=>
 oR [t1] h2)
def B229 (c:CH) (ql:QH) (us:List GV) (H:GH):RS:=U1 us fun x1=>
 ln 22 x1 fun t2=>
 jn (nB 0 (ql 58 [(i 0),x1,t2,(i 0)] H)) fun vs3 h4=>U1 vs3 fun a5=>oR [a5] h4
def L58 (c:CH) (ql:QH) (us:List GV) (H:GH):RS:=U4 us fun a6 a7 a8 a9=>jn (bn .lss 3 a9 a8 fun t10=>
 ob (GV.asB t10) fun q11=>jn (bC q11 (oX 0 [a6] H) (oN [a6,a7,a8,a9] H)) fun vs12 h13=>U4 vs12 fun a14 a15 a16 a17=>jn (nB 1 (ix 22 a15 a17 fun t18=>
 ld 3 t18 h13 fun t19=>
 bn .neq 3 t19 (i 0) fun t20=>
 ob (GV.asB t20) fun q21=>jn (bC q21 (oN [a14,a15,a16,a17] h13) (bn .add 3 a14 (i 1) fun t22=>
 oN [t22,a15,a16,a17] h13)) fun vs23 h24=>U4 vs23 fun a25 a26 a27 a28=>oN [a25,a26,a27,a28] h24)) fun vs29 h30=>U4 vs29 fun a31 a32 a33 a34=>bn .add 3 a34 (i 1) fun t35=>
 oN [a31,a32,a33,t35] h30) (ql 58)
def B230 (c:CH) (ql:QH) (us:List GV) (H:GH):RS:=U2 us fun x1 x2=>
 ln 22 x1 fun t3=>
 jn (nB 0 (ql 59 [x1,x2,t3,(i 0)] H)) fun vs4 h5=>U0 vs4 (oR [(.int .i64 (.negSucc 0))] h5)
def L59 (c:CH) (ql:QH) (us:List GV) (H:GH):RS:=U4 us fun a6 a7 a8 a9=>jn (bn .lss 3 a9 a8 fun t10=>
 ob (GV.asB t10) fun q11=>jn (bC q11 (oX 0 [] H) (oN [a6,a7,a8,a9] H)) fun vs12 h13=>U4 vs12 fun a14 a15 a16 a17=>jn (nB 1 (ix 22 a14 a17 fun t18=>
 ld 3 t18 h13 fun t19=>
 ob (GV.asF a15) fun p22=>kOR (c p22.1 (p22.2.1++[t19]++p22.2.2) h13) fun t20 h21=>
 ob (GV.asB t20) fun q23=>jn (bC q23 (oN [a14,a15,a16,a17] h21) (oR [a17] h21)) fun vs24 h25=>U4 vs24 fun a26 a27 a28 a29=>oN [a26,a27,a28,a29] h25)) fun vs30 h31=>U4 vs30 fun a32 a33 a34 a35=>bn .add 3 a35 (i 1) fun t36=>
 oN [a32,a33,a34,t36] h31) (ql 59)
def B231 (c:CH) (ql:QH) (us:List GV) (H:GH):RS:=U1 us fun x1=>
 bn .neq 3 x1 (i 0) fun t2=>
 oR [t2] H
def B232 (c:CH) (ql:QH) (us:List GV) (H:GH):RS:=U1 us fun x1=>
 ln 22 x1 fun t2=>
 jn (nB 0 (ql 60 [(.int .i64 (.negSucc 1073741823)),(.int .i64 (.negSucc 1073741823)),x1,t2,(i 0)] H)) fun vs3 h4=>U2 vs3 fun a5 a6=>oR [a5,a6] h4
def L60 (c:CH) (ql:QH) (us:List GV) (H:GH):RS:=U5 us fun a7 a8 a9 a10 a11=>jn (bn .lss 3 a11 a10 fun t12=>
 ob (GV.asB t12) fun q13=>jn (bC q13 (oX 0 [a7,a8] H) (oN [a7,a8,a9,a10,a11] H)) fun vs14 h15=>U5 vs14 fun a16 a17 a18 a19 a20=>jn (nB 1 (ix 22 a18 a20 fun t21=>
 ld 3 t21 h15 fun t22=>
 bn .gtr 3 t22 a16 fun t23=>
 ob (GV.asB t23) fun q24=>jn (bC q24 (ob (vMax a17 t22) fun t25=>
 oN [a16,t25,a18,a19,a20] h15) (oN [t22,a16,a18,a19,a20] h15)) fun vs26 h27=>U5 vs26 fun a28 a29 a30 a31 a32=>oN [a28,a29,a30,a31,a32] h27)) fun vs33 h34=>U5 vs33 fun a35 a36 a37 a38 a39=>bn .add 3 a39 (i 1) fun t40=>
 oN [a35,a36,a37,a38,t40] h34) (ql 60)
def B233 (c:CH) (ql:QH) (us:List GV) (H:GH):RS:=U1 us fun x1=>
 jn (nB 0 (ql 61 [x1,(i 0)] H)) fun vs2 h3=>U1 vs2 fun a4=>oR [a4] h3
def L61 (c:CH) (ql:QH) (us:List GV) (H:GH):RS:=U2 us fun a5 a6=>jn (K c 235 [a5,a6] H fun t7 h8=>
 ob (GV.asB t7) fun q9=>jn (bC q9 (oX 0 [a6] h8) (oN [a5,a6] h8)) fun vs10 h11=>U2 vs10 fun a12 a13=>jn (nB 1 (bn .add 3 a13 (i 1) fun t14=>
 oN [a12,t14] h11)) fun vs15 h16=>U2 vs15 fun a17 a18=>oN [a17,a18] h16) (ql 61)
def B234 (c:CH) (ql:QH) (us:List GV) (H:GH):RS:=U0 us (kOR (vBuildS y 113 5 [(0,(.str 25705 2)),(1,(.str 6776164 3)),(2,(.str 1953460082 4)),(3,(.str 127991760381303 6)),(4,(.str 1801675106 4))] H) fun t1 h2=>
 oR [t1] h2)
def B235 (c:CH) (ql:QH) (us:List GV) (H:GH):RS:=U2 us fun x1 x2=>
 K c 236 [x1,x2] H fun t3 h4=>
 bn .geq 3 t3 (i 0) fun t5=>
 oR [t5] h4
def B236 (c:CH) (ql:QH) (us:List GV) (H:GH):RS:=U2 us fun x1 x2=>
 ln 22 x1 fun t3=>
 jn (nB 0 (ql 62 [x1,x2,t3,(i 0)] H)) fun vs4 h5=>U0 vs4 (oR [(.int .i64 (.negSucc 0))] h5)
def L62 (c:CH) (ql:QH) (us:List GV) (H:GH):RS:=U4 us fun a6 a7 a8 a9=>jn (bn .lss 3 a9 a8 fun t10=>
 ob (GV.asB t10) fun q11=>jn (bC q11 (oX 0 [] H) (oN [a6,a7,a8,a9] H)) fun vs12 h13=>U4 vs12 fun a14 a15 a16 a17=>jn (nB 1 (ix 22 a14 a17 fun t18=>
 ld 3 t18 h13 fun t19=>
 bn .eql 3 a15 t19 fun t20=>
 ob (GV.asB t20) fun q21=>jn (bC q21 (oN [a14,a15,a16,a17] h13) (oR [a17] h13)) fun vs22 h23=>U4 vs22 fun a24 a25 a26 a27=>oN [a24,a25,a26,a27] h23)) fun vs28 h29=>U4 vs28 fun a30 a31 a32 a33=>bn .add 3 a33 (i 1) fun t34=>
 oN [a30,a31,a32,t34] h29) (ql 62)
def d0:(Code×Cx)×Body:=((codeOf Tryz.f17 [1,1,1,0,1,0,0],cxOf Tryz.f17 [(0,32)]),L0)
def d1:(Code×Cx)×Body:=((codeOf Tryz.f39 [1,1,0,1,0,0],cxOf Tryz.f39 [(0,0)]),L1)
def d2:(Code×Cx)×Body:=((codeOf Tryz.f40 [1,1,0,1,0,0],cxOf Tryz.f40 [(0,0)]),L2)
def d3:(Code×Cx)×Body:=((codeOf Tryz.f79 [1,1,0,1,0,0],cxOf Tryz.f79 [(0,38)]),L3)
def d4:(Code×Cx)×Body:=((codeOf Tryz.f79 [1,1,1,1,1,0,0,0],cxOf Tryz.f79 [(2,32)]),L4)
def d5:(Code×Cx)×Body:=((codeOf Tryz.f79 [1,1,1,1,1,0,0,0,1,0,1,1,1,0,0],cxOf Tryz.f79 [(4,164),(3,164),(2,32)]),L5)
def d6:(Code×Cx)×Body:=((codeOf Tryz.f82 [1,1,0,1,0,0],cxOf Tryz.f82 [(0,0)]),L6)
def d7:(Code×Cx)×Body:=((codeOf Tryz.f82 [1,1,0,1,0,0,1,1,0,0,1,1,1,0,0],cxOf Tryz.f82 [(2,3670028),(1,3670028),(0,0)]),L7)
def d8:(Code×Cx)×Body:=((codeOf Tryz.f94 [1,1,1,0,1,0,0],cxOf Tryz.f94 [(0,32)]),L8)
def d9:(Code×Cx)×Body:=((codeOf Tryz.f97 [1,1,1,0,1,0,0],cxOf Tryz.f97 [(0,2)]),L9)
def d10:(Code×Cx)×Body:=((codeOf Tryz.f97 [1,1,1,1,0,1,0,0],cxOf Tryz.f97 [(2,2)]),L10)
def d11:(Code×Cx)×Body:=((codeOf Tryz.f97 [1,1,1,1,1,1,0,1,0,0],cxOf Tryz.f97 [(4,0)]),L11)
def d12:(Code×Cx)×Body:=((codeOf Tryz.f101 [1,1,0,1,0,0],cxOf Tryz.f101 [(0,8)]),L12)
def d13:(Code×Cx)×Body:=((codeOf Tryz.f101 [1,1,0,1,0,0,1,1,0,0,1,1,0,0],cxOf Tryz.f101 [(2,57352),(1,57352),(0,8)]),L13)
def d14:(Code×Cx)×Body:=((codeOf Tryz.f103 [1,1,1,1,1,1,1,0,1,0,0],cxOf Tryz.f103 [(0,5378)]),L14)
def d15:(Code×Cx)×Body:=((codeOf Tryz.f112 [1,0,0,0],cxOf Tryz.f112 [(0,2)]),L15)
def d16:(Code×Cx)×Body:=((codeOf Tryz.f112 [1,0,0,0,1,0,1,0,1,1,1,0,0,0],cxOf Tryz.f112 [(3,3),(2,3),(1,3),(0,2)]),L16)
def d17:(Code×Cx)×Body:=((codeOf Tryz.f117 [1,1,1,0,1,0,0],cxOf Tryz.f117 [(0,33)]),L17)
def d18:(Code×Cx)×Body:=((codeOf Tryz.f118 [1,0,0],cxOf Tryz.f118 [(0,0)]),L18)
def d19:(Code×Cx)×Body:=((codeOf Tryz.f120 [1,1,1,1,1,0,0,0],cxOf Tryz.f120 [(0,5)]),L19)
def d20:(Code×Cx)×Body:=((codeOf Tryz.f123 [1,1,1,0,1,0,0],cxOf Tryz.f123 [(0,2)]),L20)
def d21:(Code×Cx)×Body:=((codeOf Tryz.f123 [1,1,1,1,1,0,1,0,0],cxOf Tryz.f123 [(2,0)]),L21)
def d22:(Code×Cx)×Body:=((codeOf Tryz.f125 [1,1,1,0,1,0,0],cxOf Tryz.f125 [(0,0)]),L22)
def d23:(Code×Cx)×Body:=((codeOf Tryz.f126 [1,1,0,1,0,0],cxOf Tryz.f126 [(0,8)]),L23)
def d24:(Code×Cx)×Body:=((codeOf Tryz.f127 [1,1,0,1,0,0],cxOf Tryz.f127 [(0,0)]),L24)
def d25:(Code×Cx)×Body:=((codeOf Tryz.f128 [1,1,1,0,1,0,0],cxOf Tryz.f128 [(0,0)]),L25)
def d26:(Code×Cx)×Body:=((codeOf Tryz.f129 [1,1,0,1,0,0],cxOf Tryz.f129 [(0,0)]),L26)
def d27:(Code×Cx)×Body:=((codeOf Tryz.f130 [1,1,0,1,0,0],cxOf Tryz.f130 [(0,32)]),L27)
def d28:(Code×Cx)×Body:=((codeOf Tryz.f130 [1,1,0,1,0,0,1,1,0,0,1,1,1,0,0],cxOf Tryz.f130 [(2,49196),(1,49196),(0,32)]),L28)
def d29:(Code×Cx)×Body:=((codeOf Tryz.f131 [1,1,0,1,0,0],cxOf Tryz.f131 [(0,32)]),L29)
def d30:(Code×Cx)×Body:=((codeOf Tryz.f131 [1,1,0,1,0,0,1,1,0,0,1,1,1,0,0],cxOf Tryz.f131 [(2,3670056),(1,3670056),(0,32)]),L30)
def d31:(Code×Cx)×Body:=((codeOf Tryz.f132 [1,1,0,1,0,0],cxOf Tryz.f132 [(0,8)]),L31)
def d32:(Code×Cx)×Body:=((codeOf Tryz.f136 [1,1,0,1,0,0],cxOf Tryz.f136 [(0,128)]),L32)
def d33:(Code×Cx)×Body:=((codeOf Tryz.f140 [1,1,0,0,0],cxOf Tryz.f140 [(0,32)]),L33)
def d34:(Code×Cx)×Body:=((codeOf Tryz.f144 [1,1,1,0,1,0,0],cxOf Tryz.f144 [(0,16)]),L34)
def d35:(Code×Cx)×Body:=((codeOf Tryz.f145 [1,0,1,0,0],cxOf Tryz.f145 [(0,1)]),L35)
def d36:(Code×Cx)×Body:=((codeOf Tryz.f149 [1,1,0,1,0,0],cxOf Tryz.f149 [(0,1)]),L36)
def d37:(Code×Cx)×Body:=((codeOf Tryz.f157 [1,1,0,1,0,0],cxOf Tryz.f157 [(0,1)]),L37)
def d38:(Code×Cx)×Body:=((codeOf Tryz.f158 [1,1,0,1,0,0],cxOf Tryz.f158 [(0,7)]),L38)
def d39:(Code×Cx)×Body:=((codeOf Tryz.f160 [1,1,0,1,0,0],cxOf Tryz.f160 [(0,0)]),L39)
def d40:(Code×Cx)×Body:=((codeOf Tryz.f161 [1,1,0,1,0,0],cxOf Tryz.f161 [(0,0)]),L40)
def d41:(Code×Cx)×Body:=((codeOf Tryz.f162 [1,0,1,0,0],cxOf Tryz.f162 [(0,0)]),L41)
def d42:(Code×Cx)×Body:=((codeOf Tryz.f163 [1,1,0,1,0,0],cxOf Tryz.f163 [(0,32)]),L42)
def d43:(Code×Cx)×Body:=((codeOf Tryz.f165 [1,0,1,0,0],cxOf Tryz.f165 [(0,0)]),L43)
def d44:(Code×Cx)×Body:=((codeOf Tryz.f167 [1,1,0,1,0,0],cxOf Tryz.f167 [(0,512)]),L44)
def d45:(Code×Cx)×Body:=((codeOf Tryz.f169 [1,0,1,0,0],cxOf Tryz.f169 [(0,0)]),L45)
def d46:(Code×Cx)×Body:=((codeOf Tryz.f177 [1,1,1,0,0],cxOf Tryz.f177 [(0,16)]),L46)
def d47:(Code×Cx)×Body:=((codeOf Tryz.f178 [1,1,0,1,0,0],cxOf Tryz.f178 [(0,32)]),L47)
def d48:(Code×Cx)×Body:=((codeOf Tryz.f179 [1,0,1,0,0],cxOf Tryz.f179 [(0,0)]),L48)
def d49:(Code×Cx)×Body:=((codeOf Tryz.f180 [1,1,0,1,0,0],cxOf Tryz.f180 [(0,0)]),L49)
def d50:(Code×Cx)×Body:=((codeOf Tryz.f184 [1,1,1,1,1,1,0,1,0,0],cxOf Tryz.f184 [(0,1408)]),L50)
def d51:(Code×Cx)×Body:=((codeOf Tryz.f186 [1,1,1,0,1,0,0],cxOf Tryz.f186 [(0,8)]),L51)
def d52:(Code×Cx)×Body:=((codeOf Tryz.f200 [1,1,1,0,1,0,0],cxOf Tryz.f200 [(0,64)]),L52)
def d53:(Code×Cx)×Body:=((codeOf Tryz.f200 [1,1,1,0,1,0,0,1,0,0,1,1,0,1,0,0],cxOf Tryz.f200 [(2,963),(1,195),(0,64)]),L53)
def d54:(Code×Cx)×Body:=((codeOf Tryz.f210 [1,1,0,1,0,0],cxOf Tryz.f210 [(0,0)]),L54)
def d55:(Code×Cx)×Body:=((codeOf Tryz.f215 [1,1,1,0,1,0,0],cxOf Tryz.f215 [(0,903)]),L55)
def d56:(Code×Cx)×Body:=((codeOf Tryz.f222 [1,0,1,0,1,1,1,1,1,1,1,1,1,0,1,0,1,0,0],cxOf Tryz.f222 [(1,32),(0,2)]),L56)
def d57:(Code×Cx)×Body:=((codeOf Tryz.f222 [1,0,1,0,1,1,1,1,1,1,1,1,1,1,1,1,1,0,1,0,1,0,0],cxOf Tryz.f222 [(3,1024),(0,2)]),L57)
def d58:(Code×Cx)×Body:=((codeOf Tryz.f229 [1,1,0,1,0,0],cxOf Tryz.f229 [(0,8)]),L58)
def d59:(Code×Cx)×Body:=((codeOf Tryz.f230 [1,0,1,0,0],cxOf Tryz.f230 [(0,0)]),L59)
def d60:(Code×Cx)×Body:=((codeOf Tryz.f232 [1,1,0,1,0,0],cxOf Tryz.f232 [(0,12)]),L60)
def d61:(Code×Cx)×Body:=((codeOf Tryz.f233 [1,1,0,0,0],cxOf Tryz.f233 [(0,8)]),L61)
def d62:(Code×Cx)×Body:=((codeOf Tryz.f236 [1,0,1,0,0],cxOf Tryz.f236 [(0,0)]),L62)
def rtabF (f:Nat):Option (Func×Body):=(tN f 162 (tN f 123 (tN f 96 (tN f 42 (tN f 37 (tN f 17 (tN f 11 (tL f 10 (Tryz.f10,B10)) (tL f 11 (Tryz.f11,B11))) (tN f 30 (tL f 17 (Tryz.f17,B17)) (tL f 30 (Tryz.f30,B30)))) (tN f 39 (tN f 38 (tL f 37 (Tryz.f37,B37)) (tL f 38 (Tryz.f38,B38))) (tN f 40 (tL f 39 (Tryz.f39,B39)) (tL f 40 (Tryz.f40,B40))))) (tN f 77 (tN f 75 (tN f 67 (tL f 42 (Tryz.f42,B42)) (tL f 67 (Tryz.f67,B67))) (tN f 76 (tL f 75 (Tryz.f75,B75)) (tL f 76 (Tryz.f76,B76)))) (tN f 79 (tN f 78 (tL f 77 (Tryz.f77,B77)) (tL f 78 (Tryz.f78,B78))) (tN f 82 (tL f 79 (Tryz.f79,B79)) (tN f 94 (tL f 82 (Tryz.f82,B82)) (tL f 94 (Tryz.f94,B94))))))) (tN f 112 (tN f 100 (tN f 98 (tN f 97 (tL f 96 (Tryz.f96,B96)) (tL f 97 (Tryz.f97,B97))) (tN f 99 (tL f 98 (Tryz.f98,B98)) (tL f 99 (Tryz.f99,B99)))) (tN f 102 (tN f 101 (tL f 100 (Tryz.f100,B100)) (tL f 101 (Tryz.f101,B101))) (tN f 103 (tL f 102 (Tryz.f102,B102)) (tN f 104 (tL f 103 (Tryz.f103,B103)) (tL f 104 (Tryz.f104,B104)))))) (tN f 118 (tN f 116 (tN f 113 (tL f 112 (Tryz.f112,B112)) (tL f 113 (Tryz.f113,B113))) (tN f 117 (tL f 116 (Tryz.f116,B116)) (tL f 117 (Tryz.f117,B117)))) (tN f 120 (tN f 119 (tL f 118 (Tryz.f118,B118)) (tL f 119 (Tryz.f119,B119))) (tN f 121 (tL f 120 (Tryz.f120,B120)) (tN f 122 (tL f 121 (Tryz.f121,B121)) (tL f 122 (Tryz.f122,B122)))))))) (tN f 144 (tN f 132 (tN f 127 (tN f 125 (tN f 124 (tL f 123 (Tryz.f123,B123)) (tL f 124 (Tryz.f124,B124))) (tN f 126 (tL f 125 (Tryz.f125,B125)) (tL f 126 (Tryz.f126,B126)))) (tN f 129 (tN f 128 (tL f 127 (Tryz.f127,B127)) (tL f 128 (Tryz.f128,B128))) (tN f 130 (tL f 129 (Tryz.f129,B129)) (tN f 131 (tL f 130 (Tryz.f130,B130)) (tL f 131 (Tryz.f131,B131)))))) (tN f 137 (tN f 134 (tN f 133 (tL f 132 (Tryz.f132,B132)) (tL f 133 (Tryz.f133,B133))) (tN f 136 (tL f 134 (Tryz.f134,B134)) (tL f 136 (Tryz.f136,B136)))) (tN f 141 (tN f 140 (tL f 137 (Tryz.f137,B137)) (tL f 140 (Tryz.f140,B140))) (tN f 142 (tL f 141 (Tryz.f141,B141)) (tN f 143 (tL f 142 (Tryz.f142,B142)) (tL f 143 (Tryz.f143,B143))))))) (tN f 153 (tN f 148 (tN f 146 (tN f 145 (tL f 144 (Tryz.f144,B144)) (tL f 145 (Tryz.f145,B145))) (tN f 147 (tL f 146 (Tryz.f146,B146)) (tL f 147 (Tryz.f147,B147)))) (tN f 150 (tN f 149 (tL f 148 (Tryz.f148,B148)) (tL f 149 (Tryz.f149,B149))) (tN f 151 (tL f 150 (Tryz.f150,B150)) (tN f 152 (tL f 151 (Tryz.f151,B151)) (tL f 152 (Tryz.f152,B152)))))) (tN f 157 (tN f 155 (tN f 154 (tL f 153 (Tryz.f153,B153)) (tL f 154 (Tryz.f154,B154))) (tN f 156 (tL f 155 (Tryz.f155,B155)) (tL f 156 (Tryz.f156,B156)))) (tN f 159 (tN f 158 (tL f 157 (Tryz.f157,B157)) (tL f 158 (Tryz.f158,B158))) (tN f 160 (tL f 159 (Tryz.f159,B159)) (tN f 161 (tL f 160 (Tryz.f160,B160)) (tL f 161 (Tryz.f161,B161))))))))) (tN f 200 (tN f 182 (tN f 173 (tN f 167 (tN f 164 (tN f 163 (tL f 162 (Tryz.f162,B162)) (tL f 163 (Tryz.f163,B163))) (tN f 165 (tL f 164 (Tryz.f164,B164)) (tL f 165 (Tryz.f165,B165)))) (tN f 169 (tN f 168 (tL f 167 (Tryz.f167,B167)) (tL f 168 (Tryz.f168,B168))) (tN f 170 (tL f 169 (Tryz.f169,B169)) (tL f 170 (Tryz.f170,B170))))) (tN f 177 (tN f 175 (tN f 174 (tL f 173 (Tryz.f173,B173)) (tL f 174 (Tryz.f174,B174))) (tN f 176 (tL f 175 (Tryz.f175,B175)) (tL f 176 (Tryz.f176,B176)))) (tN f 179 (tN f 178 (tL f 177 (Tryz.f177,B177)) (tL f 178 (Tryz.f178,B178))) (tN f 180 (tL f 179 (Tryz.f179,B179)) (tN f 181 (tL f 180 (Tryz.f180,B180)) (tL f 181 (Tryz.f181,B181))))))) (tN f 191 (tN f 186 (tN f 184 (tN f 183 (tL f 182 (Tryz.f182,B182)) (tL f 183 (Tryz.f183,B183))) (tN f 185 (tL f 184 (Tryz.f184,B184)) (tL f 185 (Tryz.f185,B185)))) (tN f 188 (tN f 187 (tL f 186 (Tryz.f186,B186)) (tL f 187 (Tryz.f187,B187))) (tN f 189 (tL f 188 (Tryz.f188,B188)) (tN f 190 (tL f 189 (Tryz.f189,B189)) (tL f 190 (Tryz.f190,B190)))))) (tN f 195 (tN f 193 (tN f 192 (tL f 191 (Tryz.f191,B191)) (tL f 192 (Tryz.f192,B192))) (tN f 194 (tL f 193 (Tryz.f193,B193)) (tL f 194 (Tryz.f194,B194)))) (tN f 197 (tN f 196 (tL f 195 (Tryz.f195,B195)) (tL f 196 (Tryz.f196,B196))) (tN f 198 (tL f 197 (Tryz.f197,B197)) (tN f 199 (tL f 198 (Tryz.f198,B198)) (tL f 199 (Tryz.f199,B199)))))))) (tN f 219 (tN f 210 (tN f 204 (tN f 202 (tN f 201 (tL f 200 (Tryz.f200,B200)) (tL f 201 (Tryz.f201,B201))) (tN f 203 (tL f 202 (Tryz.f202,B202)) (tL f 203 (Tryz.f203,B203)))) (tN f 206 (tN f 205 (tL f 204 (Tryz.f204,B204)) (tL f 205 (Tryz.f205,B205))) (tN f 207 (tL f 206 (Tryz.f206,B206)) (tN f 209 (tL f 207 (Tryz.f207,B207)) (tL f 209 (Tryz.f209,B209)))))) (tN f 214 (tN f 212 (tN f 211 (tL f 210 (Tryz.f210,B210)) (tL f 211 (Tryz.f211,B211))) (tN f 213 (tL f 212 (Tryz.f212,B212)) (tL f 213 (Tryz.f213,B213)))) (tN f 216 (tN f 215 (tL f 214 (Tryz.f214,B214)) (tL f 215 (Tryz.f215,B215))) (tN f 217 (tL f 216 (Tryz.f216,B216)) (tN f 218 (tL f 217 (Tryz.f217,B217)) (tL f 218 (Tryz.f218,B218))))))) (tN f 228 (tN f 223 (tN f 221 (tN f 220 (tL f 219 (Tryz.f219,B219)) (tL f 220 (Tryz.f220,B220))) (tN f 222 (tL f 221 (Tryz.f221,B221)) (tL f 222 (Tryz.f222,B222)))) (tN f 225 (tN f 224 (tL f 223 (Tryz.f223,B223)) (tL f 224 (Tryz.f224,B224))) (tN f 226 (tL f 225 (Tryz.f225,B225)) (tN f 227 (tL f 226 (Tryz.f226,B226)) (tL f 227 (Tryz.f227,B227)))))) (tN f 232 (tN f 230 (tN f 229 (tL f 228 (Tryz.f228,B228)) (tL f 229 (Tryz.f229,B229))) (tN f 231 (tL f 230 (Tryz.f230,B230)) (tL f 231 (Tryz.f231,B231)))) (tN f 234 (tN f 233 (tL f 232 (Tryz.f232,B232)) (tL f 233 (Tryz.f233,B233))) (tN f 235 (tL f 234 (Tryz.f234,B234)) (tN f 236 (tL f 235 (Tryz.f235,B235)) (tL f 236 (Tryz.f236,B236))))))))))
def rtabL (f:Nat):Option ((Code×Cx)×Body):=(tN f 31 (tN f 15 (tN f 7 (tN f 3 (tN f 1 (tL f 0 d0) (tN f 2 (tL f 1 d1) (tL f 2 d2))) (tN f 5 (tN f 4 (tL f 3 d3) (tL f 4 d4)) (tN f 6 (tL f 5 d5) (tL f 6 d6)))) (tN f 11 (tN f 9 (tN f 8 (tL f 7 d7) (tL f 8 d8)) (tN f 10 (tL f 9 d9) (tL f 10 d10))) (tN f 13 (tN f 12 (tL f 11 d11) (tL f 12 d12)) (tN f 14 (tL f 13 d13) (tL f 14 d14))))) (tN f 23 (tN f 19 (tN f 17 (tN f 16 (tL f 15 d15) (tL f 16 d16)) (tN f 18 (tL f 17 d17) (tL f 18 d18))) (tN f 21 (tN f 20 (tL f 19 d19) (tL f 20 d20)) (tN f 22 (tL f 21 d21) (tL f 22 d22)))) (tN f 27 (tN f 25 (tN f 24 (tL f 23 d23) (tL f 24 d24)) (tN f 26 (tL f 25 d25) (tL f 26 d26))) (tN f 29 (tN f 28 (tL f 27 d27) (tL f 28 d28)) (tN f 30 (tL f 29 d29) (tL f 30 d30)))))) (tN f 47 (tN f 39 (tN f 35 (tN f 33 (tN f 32 (tL f 31 d31) (tL f 32 d32)) (tN f 34 (tL f 33 d33) (tL f 34 d34))) (tN f 37 (tN f 36 (tL f 35 d35) (tL f 36 d36)) (tN f 38 (tL f 37 d37) (tL f 38 d38)))) (tN f 43 (tN f 41 (tN f 40 (tL f 39 d39) (tL f 40 d40)) (tN f 42 (tL f 41 d41) (tL f 42 d42))) (tN f 45 (tN f 44 (tL f 43 d43) (tL f 44 d44)) (tN f 46 (tL f 45 d45) (tL f 46 d46))))) (tN f 55 (tN f 51 (tN f 49 (tN f 48 (tL f 47 d47) (tL f 48 d48)) (tN f 50 (tL f 49 d49) (tL f 50 d50))) (tN f 53 (tN f 52 (tL f 51 d51) (tL f 52 d52)) (tN f 54 (tL f 53 d53) (tL f 54 d54)))) (tN f 59 (tN f 57 (tN f 56 (tL f 55 d55) (tL f 56 d56)) (tN f 58 (tL f 57 d57) (tL f 58 d58))) (tN f 61 (tN f 60 (tL f 59 d59) (tL f 60 d60)) (tN f 62 (tL f 61 d61) (tL f 62 d62)))))))
def rtab:Tabs:=⟨rtabF,rtabL⟩
def FO (f:Nat) (e:Func×Body):Prop:=(∀(c:CH) (lp:LH) us H,e.2 c (rtab.loop lp) us H=evF tyTab c lp e.1 us H)∧Tryz.prog.funcs[f]? = some e.1∧HasBody Tryz.prog f∧okF y e.1=true
def LO (e:(Code×Cx)×Body):Prop:=∀(c:CH) (lp:LH) us H,e.2 c (rtab.loop lp) us H=evL tyTab c lp e.1.1 e.1.2 us H
theorem e10:FO 10 (Tryz.f10,B10):=⟨fun _ _ _ _=>by kernel_rfl,Tryz.func10,Tryz.call10,by kernel_rfl⟩
theorem e11:FO 11 (Tryz.f11,B11):=⟨fun _ _ _ _=>by kernel_rfl,Tryz.func11,Tryz.call11,by kernel_rfl⟩
theorem e17:FO 17 (Tryz.f17,B17):=⟨fun _ _ _ _=>by kernel_rfl,Tryz.func17,Tryz.call17,by kernel_rfl⟩
theorem e30:FO 30 (Tryz.f30,B30):=⟨fun _ _ _ _=>by kernel_rfl,Tryz.func30,Tryz.call30,by kernel_rfl⟩
theorem e37:FO 37 (Tryz.f37,B37):=⟨fun _ _ _ _=>by kernel_rfl,Tryz.func37,Tryz.call37,by kernel_rfl⟩
theorem e38:FO 38 (Tryz.f38,B38):=⟨fun _ _ _ _=>by kernel_rfl,Tryz.func38,Tryz.call38,by kernel_rfl⟩
theorem e39:FO 39 (Tryz.f39,B39):=⟨fun _ _ _ _=>by kernel_rfl,Tryz.func39,Tryz.call39,by kernel_rfl⟩
theorem e40:FO 40 (Tryz.f40,B40):=⟨fun _ _ _ _=>by kernel_rfl,Tryz.func40,Tryz.call40,by kernel_rfl⟩
theorem e42:FO 42 (Tryz.f42,B42):=⟨fun _ _ _ _=>by kernel_rfl,Tryz.func42,Tryz.call42,by kernel_rfl⟩
theorem e67:FO 67 (Tryz.f67,B67):=⟨fun _ _ _ _=>by kernel_rfl,Tryz.func67,Tryz.call67,by kernel_rfl⟩
theorem e75:FO 75 (Tryz.f75,B75):=⟨fun _ _ _ _=>by kernel_rfl,Tryz.func75,Tryz.call75,by kernel_rfl⟩
theorem e76:FO 76 (Tryz.f76,B76):=⟨fun _ _ _ _=>by kernel_rfl,Tryz.func76,Tryz.call76,by kernel_rfl⟩
theorem e77:FO 77 (Tryz.f77,B77):=⟨fun _ _ _ _=>by kernel_rfl,Tryz.func77,Tryz.call77,by kernel_rfl⟩
theorem e78:FO 78 (Tryz.f78,B78):=⟨fun _ _ _ _=>by kernel_rfl,Tryz.func78,Tryz.call78,by kernel_rfl⟩
theorem e79:FO 79 (Tryz.f79,B79):=⟨fun _ _ _ _=>by kernel_rfl,Tryz.func79,Tryz.call79,by kernel_rfl⟩
theorem e82:FO 82 (Tryz.f82,B82):=⟨fun _ _ _ _=>by kernel_rfl,Tryz.func82,Tryz.call82,by kernel_rfl⟩
theorem e94:FO 94 (Tryz.f94,B94):=⟨fun _ _ _ _=>by kernel_rfl,Tryz.func94,Tryz.call94,by kernel_rfl⟩
theorem e96:FO 96 (Tryz.f96,B96):=⟨fun _ _ _ _=>by kernel_rfl,Tryz.func96,Tryz.call96,by kernel_rfl⟩
theorem e97:FO 97 (Tryz.f97,B97):=⟨fun _ _ _ _=>by kernel_rfl,Tryz.func97,Tryz.call97,by kernel_rfl⟩
theorem e98:FO 98 (Tryz.f98,B98):=⟨fun _ _ _ _=>by kernel_rfl,Tryz.func98,Tryz.call98,by kernel_rfl⟩
theorem e99:FO 99 (Tryz.f99,B99):=⟨fun _ _ _ _=>by kernel_rfl,Tryz.func99,Tryz.call99,by kernel_rfl⟩
theorem e100:FO 100 (Tryz.f100,B100):=⟨fun _ _ _ _=>by kernel_rfl,Tryz.func100,Tryz.call100,by kernel_rfl⟩
theorem e101:FO 101 (Tryz.f101,B101):=⟨fun _ _ _ _=>by kernel_rfl,Tryz.func101,Tryz.call101,by kernel_rfl⟩
theorem e102:FO 102 (Tryz.f102,B102):=⟨fun _ _ _ _=>by kernel_rfl,Tryz.func102,Tryz.call102,by kernel_rfl⟩
theorem e103:FO 103 (Tryz.f103,B103):=⟨fun _ _ _ _=>by kernel_rfl,Tryz.func103,Tryz.call103,by kernel_rfl⟩
theorem e104:FO 104 (Tryz.f104,B104):=⟨fun _ _ _ _=>by kernel_rfl,Tryz.func104,Tryz.call104,by kernel_rfl⟩
theorem e112:FO 112 (Tryz.f112,B112):=⟨fun _ _ _ _=>by kernel_rfl,Tryz.func112,Tryz.call112,by kernel_rfl⟩
theorem e113:FO 113 (Tryz.f113,B113):=⟨fun _ _ _ _=>by kernel_rfl,Tryz.func113,Tryz.call113,by kernel_rfl⟩
theorem e116:FO 116 (Tryz.f116,B116):=⟨fun _ _ _ _=>by kernel_rfl,Tryz.func116,Tryz.call116,by kernel_rfl⟩
theorem e117:FO 117 (Tryz.f117,B117):=⟨fun _ _ _ _=>by kernel_rfl,Tryz.func117,Tryz.call117,by kernel_rfl⟩
theorem e118:FO 118 (Tryz.f118,B118):=⟨fun _ _ _ _=>by kernel_rfl,Tryz.func118,Tryz.call118,by kernel_rfl⟩
theorem e119:FO 119 (Tryz.f119,B119):=⟨fun _ _ _ _=>by kernel_rfl,Tryz.func119,Tryz.call119,by kernel_rfl⟩
theorem e120:FO 120 (Tryz.f120,B120):=⟨fun _ _ _ _=>by kernel_rfl,Tryz.func120,Tryz.call120,by kernel_rfl⟩
theorem e121:FO 121 (Tryz.f121,B121):=⟨fun _ _ _ _=>by kernel_rfl,Tryz.func121,Tryz.call121,by kernel_rfl⟩
theorem e122:FO 122 (Tryz.f122,B122):=⟨fun _ _ _ _=>by kernel_rfl,Tryz.func122,Tryz.call122,by kernel_rfl⟩
theorem e123:FO 123 (Tryz.f123,B123):=⟨fun _ _ _ _=>by kernel_rfl,Tryz.func123,Tryz.call123,by kernel_rfl⟩
theorem e124:FO 124 (Tryz.f124,B124):=⟨fun _ _ _ _=>by kernel_rfl,Tryz.func124,Tryz.call124,by kernel_rfl⟩
theorem e125:FO 125 (Tryz.f125,B125):=⟨fun _ _ _ _=>by kernel_rfl,Tryz.func125,Tryz.call125,by kernel_rfl⟩
theorem e126:FO 126 (Tryz.f126,B126):=⟨fun _ _ _ _=>by kernel_rfl,Tryz.func126,Tryz.call126,by kernel_rfl⟩
theorem e127:FO 127 (Tryz.f127,B127):=⟨fun _ _ _ _=>by kernel_rfl,Tryz.func127,Tryz.call127,by kernel_rfl⟩
theorem e128:FO 128 (Tryz.f128,B128):=⟨fun _ _ _ _=>by kernel_rfl,Tryz.func128,Tryz.call128,by kernel_rfl⟩
theorem e129:FO 129 (Tryz.f129,B129):=⟨fun _ _ _ _=>by kernel_rfl,Tryz.func129,Tryz.call129,by kernel_rfl⟩
theorem e130:FO 130 (Tryz.f130,B130):=⟨fun _ _ _ _=>by kernel_rfl,Tryz.func130,Tryz.call130,by kernel_rfl⟩
theorem e131:FO 131 (Tryz.f131,B131):=⟨fun _ _ _ _=>by kernel_rfl,Tryz.func131,Tryz.call131,by kernel_rfl⟩
theorem e132:FO 132 (Tryz.f132,B132):=⟨fun _ _ _ _=>by kernel_rfl,Tryz.func132,Tryz.call132,by kernel_rfl⟩
theorem e133:FO 133 (Tryz.f133,B133):=⟨fun _ _ _ _=>by kernel_rfl,Tryz.func133,Tryz.call133,by kernel_rfl⟩
theorem e134:FO 134 (Tryz.f134,B134):=⟨fun _ _ _ _=>by kernel_rfl,Tryz.func134,Tryz.call134,by kernel_rfl⟩
theorem e136:FO 136 (Tryz.f136,B136):=⟨fun _ _ _ _=>by kernel_rfl,Tryz.func136,Tryz.call136,by kernel_rfl⟩
theorem e137:FO 137 (Tryz.f137,B137):=⟨fun _ _ _ _=>by kernel_rfl,Tryz.func137,Tryz.call137,by kernel_rfl⟩
theorem e140:FO 140 (Tryz.f140,B140):=⟨fun _ _ _ _=>by kernel_rfl,Tryz.func140,Tryz.call140,by kernel_rfl⟩
theorem e141:FO 141 (Tryz.f141,B141):=⟨fun _ _ _ _=>by kernel_rfl,Tryz.func141,Tryz.call141,by kernel_rfl⟩
theorem e142:FO 142 (Tryz.f142,B142):=⟨fun _ _ _ _=>by kernel_rfl,Tryz.func142,Tryz.call142,by kernel_rfl⟩
theorem e143:FO 143 (Tryz.f143,B143):=⟨fun _ _ _ _=>by kernel_rfl,Tryz.func143,Tryz.call143,by kernel_rfl⟩
theorem e144:FO 144 (Tryz.f144,B144):=⟨fun _ _ _ _=>by kernel_rfl,Tryz.func144,Tryz.call144,by kernel_rfl⟩
theorem e145:FO 145 (Tryz.f145,B145):=⟨fun _ _ _ _=>by kernel_rfl,Tryz.func145,Tryz.call145,by kernel_rfl⟩
theorem e146:FO 146 (Tryz.f146,B146):=⟨fun _ _ _ _=>by kernel_rfl,Tryz.func146,Tryz.call146,by kernel_rfl⟩
theorem e147:FO 147 (Tryz.f147,B147):=⟨fun _ _ _ _=>by kernel_rfl,Tryz.func147,Tryz.call147,by kernel_rfl⟩
theorem e148:FO 148 (Tryz.f148,B148):=⟨fun _ _ _ _=>by kernel_rfl,Tryz.func148,Tryz.call148,by kernel_rfl⟩
theorem e149:FO 149 (Tryz.f149,B149):=⟨fun _ _ _ _=>by kernel_rfl,Tryz.func149,Tryz.call149,by kernel_rfl⟩
theorem e150:FO 150 (Tryz.f150,B150):=⟨fun _ _ _ _=>by kernel_rfl,Tryz.func150,Tryz.call150,by kernel_rfl⟩
theorem e151:FO 151 (Tryz.f151,B151):=⟨fun _ _ _ _=>by kernel_rfl,Tryz.func151,Tryz.call151,by kernel_rfl⟩
theorem e152:FO 152 (Tryz.f152,B152):=⟨fun _ _ _ _=>by kernel_rfl,Tryz.func152,Tryz.call152,by kernel_rfl⟩
theorem e153:FO 153 (Tryz.f153,B153):=⟨fun _ _ _ _=>by kernel_rfl,Tryz.func153,Tryz.call153,by kernel_rfl⟩
theorem e154:FO 154 (Tryz.f154,B154):=⟨fun _ _ _ _=>by kernel_rfl,Tryz.func154,Tryz.call154,by kernel_rfl⟩
theorem e155:FO 155 (Tryz.f155,B155):=⟨fun _ _ _ _=>by kernel_rfl,Tryz.func155,Tryz.call155,by kernel_rfl⟩
theorem e156:FO 156 (Tryz.f156,B156):=⟨fun _ _ _ _=>by kernel_rfl,Tryz.func156,Tryz.call156,by kernel_rfl⟩
theorem e157:FO 157 (Tryz.f157,B157):=⟨fun _ _ _ _=>by kernel_rfl,Tryz.func157,Tryz.call157,by kernel_rfl⟩
theorem e158:FO 158 (Tryz.f158,B158):=⟨fun _ _ _ _=>by kernel_rfl,Tryz.func158,Tryz.call158,by kernel_rfl⟩
theorem e159:FO 159 (Tryz.f159,B159):=⟨fun _ _ _ _=>by kernel_rfl,Tryz.func159,Tryz.call159,by kernel_rfl⟩
theorem e160:FO 160 (Tryz.f160,B160):=⟨fun _ _ _ _=>by kernel_rfl,Tryz.func160,Tryz.call160,by kernel_rfl⟩
theorem e161:FO 161 (Tryz.f161,B161):=⟨fun _ _ _ _=>by kernel_rfl,Tryz.func161,Tryz.call161,by kernel_rfl⟩
theorem e162:FO 162 (Tryz.f162,B162):=⟨fun _ _ _ _=>by kernel_rfl,Tryz.func162,Tryz.call162,by kernel_rfl⟩
theorem e163:FO 163 (Tryz.f163,B163):=⟨fun _ _ _ _=>by kernel_rfl,Tryz.func163,Tryz.call163,by kernel_rfl⟩
theorem e164:FO 164 (Tryz.f164,B164):=⟨fun _ _ _ _=>by kernel_rfl,Tryz.func164,Tryz.call164,by kernel_rfl⟩
theorem e165:FO 165 (Tryz.f165,B165):=⟨fun _ _ _ _=>by kernel_rfl,Tryz.func165,Tryz.call165,by kernel_rfl⟩
theorem e167:FO 167 (Tryz.f167,B167):=⟨fun _ _ _ _=>by kernel_rfl,Tryz.func167,Tryz.call167,by kernel_rfl⟩
theorem e168:FO 168 (Tryz.f168,B168):=⟨fun _ _ _ _=>by kernel_rfl,Tryz.func168,Tryz.call168,by kernel_rfl⟩
theorem e169:FO 169 (Tryz.f169,B169):=⟨fun _ _ _ _=>by kernel_rfl,Tryz.func169,Tryz.call169,by kernel_rfl⟩
theorem e170:FO 170 (Tryz.f170,B170):=⟨fun _ _ _ _=>by kernel_rfl,Tryz.func170,Tryz.call170,by kernel_rfl⟩
theorem e173:FO 173 (Tryz.f173,B173):=⟨fun _ _ _ _=>by kernel_rfl,Tryz.func173,Tryz.call173,by kernel_rfl⟩
theorem e174:FO 174 (Tryz.f174,B174):=⟨fun _ _ _ _=>by kernel_rfl,Tryz.func174,Tryz.call174,by kernel_rfl⟩
theorem e175:FO 175 (Tryz.f175,B175):=⟨fun _ _ _ _=>by kernel_rfl,Tryz.func175,Tryz.call175,by kernel_rfl⟩
theorem e176:FO 176 (Tryz.f176,B176):=⟨fun _ _ _ _=>by kernel_rfl,Tryz.func176,Tryz.call176,by kernel_rfl⟩
theorem e177:FO 177 (Tryz.f177,B177):=⟨fun _ _ _ _=>by kernel_rfl,Tryz.func177,Tryz.call177,by kernel_rfl⟩
theorem e178:FO 178 (Tryz.f178,B178):=⟨fun _ _ _ _=>by kernel_rfl,Tryz.func178,Tryz.call178,by kernel_rfl⟩
theorem e179:FO 179 (Tryz.f179,B179):=⟨fun _ _ _ _=>by kernel_rfl,Tryz.func179,Tryz.call179,by kernel_rfl⟩
theorem e180:FO 180 (Tryz.f180,B180):=⟨fun _ _ _ _=>by kernel_rfl,Tryz.func180,Tryz.call180,by kernel_rfl⟩
theorem e181:FO 181 (Tryz.f181,B181):=⟨fun _ _ _ _=>by kernel_rfl,Tryz.func181,Tryz.call181,by kernel_rfl⟩
theorem e182:FO 182 (Tryz.f182,B182):=⟨fun _ _ _ _=>by kernel_rfl,Tryz.func182,Tryz.call182,by kernel_rfl⟩
theorem e183:FO 183 (Tryz.f183,B183):=⟨fun _ _ _ _=>by kernel_rfl,Tryz.func183,Tryz.call183,by kernel_rfl⟩
theorem e184:FO 184 (Tryz.f184,B184):=⟨fun _ _ _ _=>by kernel_rfl,Tryz.func184,Tryz.call184,by kernel_rfl⟩
theorem e185:FO 185 (Tryz.f185,B185):=⟨fun _ _ _ _=>by kernel_rfl,Tryz.func185,Tryz.call185,by kernel_rfl⟩
theorem e186:FO 186 (Tryz.f186,B186):=⟨fun _ _ _ _=>by kernel_rfl,Tryz.func186,Tryz.call186,by kernel_rfl⟩
theorem e187:FO 187 (Tryz.f187,B187):=⟨fun _ _ _ _=>by kernel_rfl,Tryz.func187,Tryz.call187,by kernel_rfl⟩
theorem e188:FO 188 (Tryz.f188,B188):=⟨fun _ _ _ _=>by kernel_rfl,Tryz.func188,Tryz.call188,by kernel_rfl⟩
theorem e189:FO 189 (Tryz.f189,B189):=⟨fun _ _ _ _=>by kernel_rfl,Tryz.func189,Tryz.call189,by kernel_rfl⟩
theorem e190:FO 190 (Tryz.f190,B190):=⟨fun _ _ _ _=>by kernel_rfl,Tryz.func190,Tryz.call190,by kernel_rfl⟩
theorem e191:FO 191 (Tryz.f191,B191):=⟨fun _ _ _ _=>by kernel_rfl,Tryz.func191,Tryz.call191,by kernel_rfl⟩
theorem e192:FO 192 (Tryz.f192,B192):=⟨fun _ _ _ _=>by kernel_rfl,Tryz.func192,Tryz.call192,by kernel_rfl⟩
theorem e193:FO 193 (Tryz.f193,B193):=⟨fun _ _ _ _=>by kernel_rfl,Tryz.func193,Tryz.call193,by kernel_rfl⟩
theorem e194:FO 194 (Tryz.f194,B194):=⟨fun _ _ _ _=>by kernel_rfl,Tryz.func194,Tryz.call194,by kernel_rfl⟩
theorem e195:FO 195 (Tryz.f195,B195):=⟨fun _ _ _ _=>by kernel_rfl,Tryz.func195,Tryz.call195,by kernel_rfl⟩
theorem e196:FO 196 (Tryz.f196,B196):=⟨fun _ _ _ _=>by kernel_rfl,Tryz.func196,Tryz.call196,by kernel_rfl⟩
theorem e197:FO 197 (Tryz.f197,B197):=⟨fun _ _ _ _=>by kernel_rfl,Tryz.func197,Tryz.call197,by kernel_rfl⟩
theorem e198:FO 198 (Tryz.f198,B198):=⟨fun _ _ _ _=>by kernel_rfl,Tryz.func198,Tryz.call198,by kernel_rfl⟩
theorem e199:FO 199 (Tryz.f199,B199):=⟨fun _ _ _ _=>by kernel_rfl,Tryz.func199,Tryz.call199,by kernel_rfl⟩
theorem e200:FO 200 (Tryz.f200,B200):=⟨fun _ _ _ _=>by kernel_rfl,Tryz.func200,Tryz.call200,by kernel_rfl⟩
theorem e201:FO 201 (Tryz.f201,B201):=⟨fun _ _ _ _=>by kernel_rfl,Tryz.func201,Tryz.call201,by kernel_rfl⟩
theorem e202:FO 202 (Tryz.f202,B202):=⟨fun _ _ _ _=>by kernel_rfl,Tryz.func202,Tryz.call202,by kernel_rfl⟩
theorem e203:FO 203 (Tryz.f203,B203):=⟨fun _ _ _ _=>by kernel_rfl,Tryz.func203,Tryz.call203,by kernel_rfl⟩
theorem e204:FO 204 (Tryz.f204,B204):=⟨fun _ _ _ _=>by kernel_rfl,Tryz.func204,Tryz.call204,by kernel_rfl⟩
theorem e205:FO 205 (Tryz.f205,B205):=⟨fun _ _ _ _=>by kernel_rfl,Tryz.func205,Tryz.call205,by kernel_rfl⟩
theorem e206:FO 206 (Tryz.f206,B206):=⟨fun _ _ _ _=>by kernel_rfl,Tryz.func206,Tryz.call206,by kernel_rfl⟩
theorem e207:FO 207 (Tryz.f207,B207):=⟨fun _ _ _ _=>by kernel_rfl,Tryz.func207,Tryz.call207,by kernel_rfl⟩
theorem e209:FO 209 (Tryz.f209,B209):=⟨fun _ _ _ _=>by kernel_rfl,Tryz.func209,Tryz.call209,by kernel_rfl⟩
theorem e210:FO 210 (Tryz.f210,B210):=⟨fun _ _ _ _=>by kernel_rfl,Tryz.func210,Tryz.call210,by kernel_rfl⟩
theorem e211:FO 211 (Tryz.f211,B211):=⟨fun _ _ _ _=>by kernel_rfl,Tryz.func211,Tryz.call211,by kernel_rfl⟩
theorem e212:FO 212 (Tryz.f212,B212):=⟨fun _ _ _ _=>by kernel_rfl,Tryz.func212,Tryz.call212,by kernel_rfl⟩
theorem e213:FO 213 (Tryz.f213,B213):=⟨fun _ _ _ _=>by kernel_rfl,Tryz.func213,Tryz.call213,by kernel_rfl⟩
theorem e214:FO 214 (Tryz.f214,B214):=⟨fun _ _ _ _=>by kernel_rfl,Tryz.func214,Tryz.call214,by kernel_rfl⟩
theorem e215:FO 215 (Tryz.f215,B215):=⟨fun _ _ _ _=>by kernel_rfl,Tryz.func215,Tryz.call215,by kernel_rfl⟩
theorem e216:FO 216 (Tryz.f216,B216):=⟨fun _ _ _ _=>by kernel_rfl,Tryz.func216,Tryz.call216,by kernel_rfl⟩
theorem e217:FO 217 (Tryz.f217,B217):=⟨fun _ _ _ _=>by kernel_rfl,Tryz.func217,Tryz.call217,by kernel_rfl⟩
theorem e218:FO 218 (Tryz.f218,B218):=⟨fun _ _ _ _=>by kernel_rfl,Tryz.func218,Tryz.call218,by kernel_rfl⟩
theorem e219:FO 219 (Tryz.f219,B219):=⟨fun _ _ _ _=>by kernel_rfl,Tryz.func219,Tryz.call219,by kernel_rfl⟩
theorem e220:FO 220 (Tryz.f220,B220):=⟨fun _ _ _ _=>by kernel_rfl,Tryz.func220,Tryz.call220,by kernel_rfl⟩
theorem e221:FO 221 (Tryz.f221,B221):=⟨fun _ _ _ _=>by kernel_rfl,Tryz.func221,Tryz.call221,by kernel_rfl⟩
theorem e222:FO 222 (Tryz.f222,B222):=⟨fun _ _ _ _=>by kernel_rfl,Tryz.func222,Tryz.call222,by kernel_rfl⟩
theorem e223:FO 223 (Tryz.f223,B223):=⟨fun _ _ _ _=>by kernel_rfl,Tryz.func223,Tryz.call223,by kernel_rfl⟩
theorem e224:FO 224 (Tryz.f224,B224):=⟨fun _ _ _ _=>by kernel_rfl,Tryz.func224,Tryz.call224,by kernel_rfl⟩
theorem e225:FO 225 (Tryz.f225,B225):=⟨fun _ _ _ _=>by kernel_rfl,Tryz.func225,Tryz.call225,by kernel_rfl⟩
theorem e226:FO 226 (Tryz.f226,B226):=⟨fun _ _ _ _=>by kernel_rfl,Tryz.func226,Tryz.call226,by kernel_rfl⟩
theorem e227:FO 227 (Tryz.f227,B227):=⟨fun _ _ _ _=>by kernel_rfl,Tryz.func227,Tryz.call227,by kernel_rfl⟩
theorem e228:FO 228 (Tryz.f228,B228):=⟨fun _ _ _ _=>by kernel_rfl,Tryz.func228,Tryz.call228,by kernel_rfl⟩
theorem e229:FO 229 (Tryz.f229,B229):=⟨fun _ _ _ _=>by kernel_rfl,Tryz.func229,Tryz.call229,by kernel_rfl⟩
theorem e230:FO 230 (Tryz.f230,B230):=⟨fun _ _ _ _=>by kernel_rfl,Tryz.func230,Tryz.call230,by kernel_rfl⟩
theorem e231:FO 231 (Tryz.f231,B231):=⟨fun _ _ _ _=>by kernel_rfl,Tryz.func231,Tryz.call231,by kernel_rfl⟩
theorem e232:FO 232 (Tryz.f232,B232):=⟨fun _ _ _ _=>by kernel_rfl,Tryz.func232,Tryz.call232,by kernel_rfl⟩
theorem e233:FO 233 (Tryz.f233,B233):=⟨fun _ _ _ _=>by kernel_rfl,Tryz.func233,Tryz.call233,by kernel_rfl⟩
theorem e234:FO 234 (Tryz.f234,B234):=⟨fun _ _ _ _=>by kernel_rfl,Tryz.func234,Tryz.call234,by kernel_rfl⟩
theorem e235:FO 235 (Tryz.f235,B235):=⟨fun _ _ _ _=>by kernel_rfl,Tryz.func235,Tryz.call235,by kernel_rfl⟩
theorem e236:FO 236 (Tryz.f236,B236):=⟨fun _ _ _ _=>by kernel_rfl,Tryz.func236,Tryz.call236,by kernel_rfl⟩
theorem l0:LO d0:=fun _ _ _ _=>by kernel_rfl
theorem l1:LO d1:=fun _ _ _ _=>by kernel_rfl
theorem l2:LO d2:=fun _ _ _ _=>by kernel_rfl
theorem l3:LO d3:=fun _ _ _ _=>by kernel_rfl
theorem l4:LO d4:=fun _ _ _ _=>by kernel_rfl
theorem l5:LO d5:=fun _ _ _ _=>by kernel_rfl
theorem l6:LO d6:=fun _ _ _ _=>by kernel_rfl
theorem l7:LO d7:=fun _ _ _ _=>by kernel_rfl
theorem l8:LO d8:=fun _ _ _ _=>by kernel_rfl
theorem l9:LO d9:=fun _ _ _ _=>by kernel_rfl
theorem l10:LO d10:=fun _ _ _ _=>by kernel_rfl
theorem l11:LO d11:=fun _ _ _ _=>by kernel_rfl
theorem l12:LO d12:=fun _ _ _ _=>by kernel_rfl
theorem l13:LO d13:=fun _ _ _ _=>by kernel_rfl
theorem l14:LO d14:=fun _ _ _ _=>by kernel_rfl
theorem l15:LO d15:=fun _ _ _ _=>by kernel_rfl
theorem l16:LO d16:=fun _ _ _ _=>by kernel_rfl
theorem l17:LO d17:=fun _ _ _ _=>by kernel_rfl
theorem l18:LO d18:=fun _ _ _ _=>by kernel_rfl
theorem l19:LO d19:=fun _ _ _ _=>by kernel_rfl
theorem l20:LO d20:=fun _ _ _ _=>by kernel_rfl
theorem l21:LO d21:=fun _ _ _ _=>by kernel_rfl
theorem l22:LO d22:=fun _ _ _ _=>by kernel_rfl
theorem l23:LO d23:=fun _ _ _ _=>by kernel_rfl
theorem l24:LO d24:=fun _ _ _ _=>by kernel_rfl
theorem l25:LO d25:=fun _ _ _ _=>by kernel_rfl
theorem l26:LO d26:=fun _ _ _ _=>by kernel_rfl
theorem l27:LO d27:=fun _ _ _ _=>by kernel_rfl
theorem l28:LO d28:=fun _ _ _ _=>by kernel_rfl
theorem l29:LO d29:=fun _ _ _ _=>by kernel_rfl
theorem l30:LO d30:=fun _ _ _ _=>by kernel_rfl
theorem l31:LO d31:=fun _ _ _ _=>by kernel_rfl
theorem l32:LO d32:=fun _ _ _ _=>by kernel_rfl
theorem l33:LO d33:=fun _ _ _ _=>by kernel_rfl
theorem l34:LO d34:=fun _ _ _ _=>by kernel_rfl
theorem l35:LO d35:=fun _ _ _ _=>by kernel_rfl
theorem l36:LO d36:=fun _ _ _ _=>by kernel_rfl
theorem l37:LO d37:=fun _ _ _ _=>by kernel_rfl
theorem l38:LO d38:=fun _ _ _ _=>by kernel_rfl
theorem l39:LO d39:=fun _ _ _ _=>by kernel_rfl
theorem l40:LO d40:=fun _ _ _ _=>by kernel_rfl
theorem l41:LO d41:=fun _ _ _ _=>by kernel_rfl
theorem l42:LO d42:=fun _ _ _ _=>by kernel_rfl
theorem l43:LO d43:=fun _ _ _ _=>by kernel_rfl
theorem l44:LO d44:=fun _ _ _ _=>by kernel_rfl
theorem l45:LO d45:=fun _ _ _ _=>by kernel_rfl
theorem l46:LO d46:=fun _ _ _ _=>by kernel_rfl
theorem l47:LO d47:=fun _ _ _ _=>by kernel_rfl
theorem l48:LO d48:=fun _ _ _ _=>by kernel_rfl
theorem l49:LO d49:=fun _ _ _ _=>by kernel_rfl
theorem l50:LO d50:=fun _ _ _ _=>by kernel_rfl
theorem l51:LO d51:=fun _ _ _ _=>by kernel_rfl
theorem l52:LO d52:=fun _ _ _ _=>by kernel_rfl
theorem l53:LO d53:=fun _ _ _ _=>by kernel_rfl
theorem l54:LO d54:=fun _ _ _ _=>by kernel_rfl
theorem l55:LO d55:=fun _ _ _ _=>by kernel_rfl
theorem l56:LO d56:=fun _ _ _ _=>by kernel_rfl
theorem l57:LO d57:=fun _ _ _ _=>by kernel_rfl
theorem l58:LO d58:=fun _ _ _ _=>by kernel_rfl
theorem l59:LO d59:=fun _ _ _ _=>by kernel_rfl
theorem l60:LO d60:=fun _ _ _ _=>by kernel_rfl
theorem l61:LO d61:=fun _ _ _ _=>by kernel_rfl
theorem l62:LO d62:=fun _ _ _ _=>by kernel_rfl
theorem rtabF_all {f:Nat} {e:Func×Body}:rtabF f=some e->FO f e:=(rN (rN (rN (rN (rN (rN (rN (rL e10) (rL e11)) (rN (rL e17) (rL e30))) (rN (rN (rL e37) (rL e38)) (rN (rL e39) (rL e40)))) (rN (rN (rN (rL e42) (rL e67)) (rN (rL e75) (rL e76))) (rN (rN (rL e77) (rL e78)) (rN (rL e79) (rN (rL e82) (rL e94)))))) (rN (rN (rN (rN (rL e96) (rL e97)) (rN (rL e98) (rL e99))) (rN (rN (rL e100) (rL e101)) (rN (rL e102) (rN (rL e103) (rL e104))))) (rN (rN (rN (rL e112) (rL e113)) (rN (rL e116) (rL e117))) (rN (rN (rL e118) (rL e119)) (rN (rL e120) (rN (rL e121) (rL e122))))))) (rN (rN (rN (rN (rN (rL e123) (rL e124)) (rN (rL e125) (rL e126))) (rN (rN (rL e127) (rL e128)) (rN (rL e129) (rN (rL e130) (rL e131))))) (rN (rN (rN (rL e132) (rL e133)) (rN (rL e134) (rL e136))) (rN (rN (rL e137) (rL e140)) (rN (rL e141) (rN (rL e142) (rL e143)))))) (rN (rN (rN (rN (rL e144) (rL e145)) (rN (rL e146) (rL e147))) (rN (rN (rL e148) (rL e149)) (rN (rL e150) (rN (rL e151) (rL e152))))) (rN (rN (rN (rL e153) (rL e154)) (rN (rL e155) (rL e156))) (rN (rN (rL e157) (rL e158)) (rN (rL e159) (rN (rL e160) (rL e161)))))))) (rN (rN (rN (rN (rN (rN (rL e162) (rL e163)) (rN (rL e164) (rL e165))) (rN (rN (rL e167) (rL e168)) (rN (rL e169) (rL e170)))) (rN (rN (rN (rL e173) (rL e174)) (rN (rL e175) (rL e176))) (rN (rN (rL e177) (rL e178)) (rN (rL e179) (rN (rL e180) (rL e181)))))) (rN (rN (rN (rN (rL e182) (rL e183)) (rN (rL e184) (rL e185))) (rN (rN (rL e186) (rL e187)) (rN (rL e188) (rN (rL e189) (rL e190))))) (rN (rN (rN (rL e191) (rL e192)) (rN (rL e193) (rL e194))) (rN (rN (rL e195) (rL e196)) (rN (rL e197) (rN (rL e198) (rL e199))))))) (rN (rN (rN (rN (rN (rL e200) (rL e201)) (rN (rL e202) (rL e203))) (rN (rN (rL e204) (rL e205)) (rN (rL e206) (rN (rL e207) (rL e209))))) (rN (rN (rN (rL e210) (rL e211)) (rN (rL e212) (rL e213))) (rN (rN (rL e214) (rL e215)) (rN (rL e216) (rN (rL e217) (rL e218)))))) (rN (rN (rN (rN (rL e219) (rL e220)) (rN (rL e221) (rL e222))) (rN (rN (rL e223) (rL e224)) (rN (rL e225) (rN (rL e226) (rL e227))))) (rN (rN (rN (rL e228) (rL e229)) (rN (rL e230) (rL e231))) (rN (rN (rL e232) (rL e233)) (rN (rL e234) (rN (rL e235) (rL e236)))))))))
theorem rtabL_ok {f:Nat} {e:(Code×Cx)×Body}:rtabL f=some e->LO e:=(rN (rN (rN (rN (rN (rL (R:=fun _=>LO) l0) (rN (rL (R:=fun _=>LO) l1) (rL (R:=fun _=>LO) l2))) (rN (rN (rL (R:=fun _=>LO) l3) (rL (R:=fun _=>LO) l4)) (rN (rL (R:=fun _=>LO) l5) (rL (R:=fun _=>LO) l6)))) (rN (rN (rN (rL (R:=fun _=>LO) l7) (rL (R:=fun _=>LO) l8)) (rN (rL (R:=fun _=>LO) l9) (rL (R:=fun _=>LO) l10))) (rN (rN (rL (R:=fun _=>LO) l11) (rL (R:=fun _=>LO) l12)) (rN (rL (R:=fun _=>LO) l13) (rL (R:=fun _=>LO) l14))))) (rN (rN (rN (rN (rL (R:=fun _=>LO) l15) (rL (R:=fun _=>LO) l16)) (rN (rL (R:=fun _=>LO) l17) (rL (R:=fun _=>LO) l18))) (rN (rN (rL (R:=fun _=>LO) l19) (rL (R:=fun _=>LO) l20)) (rN (rL (R:=fun _=>LO) l21) (rL (R:=fun _=>LO) l22)))) (rN (rN (rN (rL (R:=fun _=>LO) l23) (rL (R:=fun _=>LO) l24)) (rN (rL (R:=fun _=>LO) l25) (rL (R:=fun _=>LO) l26))) (rN (rN (rL (R:=fun _=>LO) l27) (rL (R:=fun _=>LO) l28)) (rN (rL (R:=fun _=>LO) l29) (rL (R:=fun _=>LO) l30)))))) (rN (rN (rN (rN (rN (rL (R:=fun _=>LO) l31) (rL (R:=fun _=>LO) l32)) (rN (rL (R:=fun _=>LO) l33) (rL (R:=fun _=>LO) l34))) (rN (rN (rL (R:=fun _=>LO) l35) (rL (R:=fun _=>LO) l36)) (rN (rL (R:=fun _=>LO) l37) (rL (R:=fun _=>LO) l38)))) (rN (rN (rN (rL (R:=fun _=>LO) l39) (rL (R:=fun _=>LO) l40)) (rN (rL (R:=fun _=>LO) l41) (rL (R:=fun _=>LO) l42))) (rN (rN (rL (R:=fun _=>LO) l43) (rL (R:=fun _=>LO) l44)) (rN (rL (R:=fun _=>LO) l45) (rL (R:=fun _=>LO) l46))))) (rN (rN (rN (rN (rL (R:=fun _=>LO) l47) (rL (R:=fun _=>LO) l48)) (rN (rL (R:=fun _=>LO) l49) (rL (R:=fun _=>LO) l50))) (rN (rN (rL (R:=fun _=>LO) l51) (rL (R:=fun _=>LO) l52)) (rN (rL (R:=fun _=>LO) l53) (rL (R:=fun _=>LO) l54)))) (rN (rN (rN (rL (R:=fun _=>LO) l55) (rL (R:=fun _=>LO) l56)) (rN (rL (R:=fun _=>LO) l57) (rL (R:=fun _=>LO) l58))) (rN (rN (rL (R:=fun _=>LO) l59) (rL (R:=fun _=>LO) l60)) (rN (rL (R:=fun _=>LO) l61) (rL (R:=fun _=>LO) l62)))))))
theorem rtab_ok:TabsOk rtab tyTab:=⟨fun h=>(rtabF_all h).1,rtabL_ok⟩
theorem rtabF_fn {f:Nat} {e:Func×Body} (h:rtabF f=some e):Tryz.prog.funcs[f]? = some e.1∧HasBody Tryz.prog f∧okF y e.1=true:=(rtabF_all h).2
end
end Go.Gx
end
section
namespace Go.Gx
open Go Go.Sx
section
variable {P:Program} {gs:Gls} {w0:Base gs} {tb:TB}
theorem callOk_none:CallOk P w0 (fun _ _ _=>none):=fun f us H g H' h=>by cases h
theorem loopOk_none:LoopOk P w0 tb (fun _ _ _ _=>none):=fun b cx vs H out h=>by cases h
theorem evF_ok' {ch:CH} {lp:LH} (hT:TabOk P tb) (hm:P.follows .mixedOrders=true) (hcall:∀w0:Base gs,CallOk P w0 ch) (hloop:LoopOk P w0 tb lp) {f:Nat} {fn:Func} {us:List GV} {H:GH} {out:Out} (h1:P.funcs[f]? = some fn) (hok:okF tb fn=true) (h:evF tb ch lp fn us H=some out) (he:out.e = .ret) {ρ:Rho} {w:World} {vs:List Value} (R:Rel w0 ρ H w) (hr:RlL ρ us vs):
  Calls P f vs.toArray w fun e w'=>∃v ρ',e = .returned v∧ρ.le ρ'∧Rel w0 ρ' out.H w'∧Rl ρ' (pack out.vs) v:=by
 obtain⟨h3,h4⟩:=okF_spec hok
 obtain⟨body,hb,h⟩:=ob_some.1 (show ob fn.body _=some out from h)
 obtain⟨σ,hσ,h⟩:=unpackL_some h
 rw[List.range_eq_range']at hσ
 have hlen:=args_len hσ
 have hvl:vs.length<=fn.ntmps:=by rw[<-hr.len,hlen];exact h4
 refine calls_of_wpr h1 hb ?_
 have F:FrOk ρ fn.ntmps σ {tmps:=vs.toArray++Array.replicate (fn.ntmps - vs.toArray.size) undef,defers:=[]}:=by
  refine args_ok rfl (by simp;omega) hr (fun j v hv=> ?_) hσ
  have hlt:=getElem?_lt hv
  rw[Nat.zero_add,Array.getElem?_append_left (by simpa using hlt)]
  simpa using hv
 refine evC_ok hT hm hcall hloop body _ _ _ ⟨σ,H⟩ out ρ _ w _ (h3 body hb) h F R ⟨fun s' ρ' a' w' hk hle' F' R'=> ?_,fun id s' ρ' a' w' hk hle' F' R'=> ?_,fun s' ρ' a' w' hk hle' F' R'=> ?_⟩
 ·obtain⟨e1,v,hv,hres⟩:=retR_ok (fn:=fn) hT rfl F' R' hk
  exact Sx.body_end (.inr rfl) F'.defers hres ⟨v,ρ',rfl,hle',by rw[e1];exact R',hv⟩
 ·have:=exitOut_e hk
  rw[he]at this;cases this
 ·obtain⟨e1,v,hv,hres⟩:=retR_ok (fn:=fn) hT rfl F' R' hk
  exact Sx.body_end (.inl rfl) F'.defers hres ⟨v,ρ',rfl,hle',by rw[e1];exact R',hv⟩
noncomputable def chOne (tb:TB) (f:Nat) (fn:Func):CH:=fun g us H=>bif Nat.beq g f then resOR (evF tb (fun _ _ _=>none) (fun _ _ _ _=>none) fn us H)else none
theorem chOne_ok (hT:TabOk P tb) (hm:P.follows .mixedOrders=true) {f:Nat} {fn:Func} (h1:P.funcs[f]? = some fn) (hb:HasBody P f) (hok:okF tb fn=true):CallOk P w0 (chOne tb f fn):=fun g us H x H' h ρ w vs R hr=>by
 unfold chOne at h
 cases h2:Nat.beq g f with
 |false=>rw[h2]at h;cases h
 |true=>
 rw[h2]at h
 have h2:=Nat.eq_of_beq_eq_true h2
 subst h2
 replace h:resOR (evF tb (fun _ _ _=>none) (fun _ _ _ _=>none) fn us H)=some (x,H'):=h
 unfold resOR at h
 obtain⟨o,h3,h4⟩:=ob_some.1 h
 cases he:o.e with
 |normal=>rw[he]at h4;cases h4
 |exit id=>rw[he]at h4;cases h4
 |ret=>
  rw[he]at h4;cases h4
  exact .inr ⟨hb _ w,evF_ok' hT hm (fun _=>callOk_none) loopOk_none h1 hok h3 he R hr⟩
theorem wpSIn_rec {id:Nat} {o:Oper} {l:List Oper} {Q:Exit->Act->List Frame->World->Prop} {a:Act} {cs:List Frame} {w:World} (hnd:l.all noDefer=true) (hg:o.guard=none) (hrun:(execOp a.eval o).run P w = .ok .recover w)
  (hrec:recoverD cs=none) (h:Sx.wpList P (o::l).toArray (fun e a' w'=>Q e a' cs w') l (a.put o.dst .nilIface) w):(Code.region id (o::l).toArray false).wpSIn (FR none) 0 P Q a cs w:=by
 intro b k hb hro hF hroom
 have ho:(o::l).toArray[0]? = some o:=by simp
 obtain⟨e,a',w',hq,harr⟩:=wp_opsIn (F:=FR none) (n:=0) (Q:=fun e a' w'=>Q e a' cs w') (ops:=(o::l).toArray) (List.range' 1 l.length) (a.put o.dst .nilIface) w
  (by rw[wpOpsIn_eq_wpListIn l 1 (by intro j;simp[Nat.add_comm 1 j])];exact Sx.wpList_in l _ w hnd h) b k cs hro hF hroom
 have hw:Region.wanted o (yielded (o::l).toArray a.tmps)=true:=by simp[Region.wanted,hg]
 have h0:(lone (b.atR a (.inRegion (o::l).toArray (0::List.range' 1 l.length)::k)) cs w).fenced P (FR none):=fenced_oper hF hroom ho (fun _ _=>trivial)
 have hg':=stepGR_op (P:=P) (b:=b) (k:=k) (cs:=cs) (w:=w) (rest:=List.range' 1 l.length) ho hw
 rw[hro,Oper.semAt_none]at hg'
 have hfin:∀v,(b.atR a (.inRegion (o::l).toArray (0::List.range' 1 l.length)::k)).finish v=b.atR (a.put o.dst v) (.inRegion (o::l).toArray (List.range' 1 l.length)::k):=by
  intro v;rw[Frame.finish_atR,ho];rfl
 have hk:(b.atR a (.inRegion (o::l).toArray (0::List.range' 1 l.length)::k)).kind = .deferred:=hb
 have htr:=tryRecover_deferred hk cs
 have hr:List.range (o::l).toArray.size=0::List.range' 1 l.length:=by simp[List.range_eq_range',List.range'_succ]
 have hs:=stepR_region (P:=P) (b:=b) (a:=a) (k:=k) (cs:=cs) (w:=w) (id:=id) (ops:=(o::l).toArray)
 rw[hr]at hs
 refine⟨e,a',cs,w',rfl,hq,.of_steps (.head (fenced_calm hF hroom rfl) hs (.one h0 (step_lone_go ?_))) harr⟩
 rw[hg',<-hfin]
 simp only[Frame.atR,hro]at htr ⊢
 simp[stepG.apply,hrun,htr,hrec]
theorem caught_ok {ch:CH} {lp:LH} (hT:TabOk P tb) (hm:P.follows .mixedOrders=true) {f:Nat} {fn:Func} {id m d:Nat} {o:Oper} {l:List Oper} {rest:Code} {cx:Cx} {out:Out} {args:Array Value} {w:World}
  (hcall:∀w0:Base [],CallOk P w0 ch) (hloop:LoopOk P (Base.one w) tb lp) (hf:P.funcs[f]? = some fn) (hb:fn.body=some (.seq (.region id (o::l).toArray false) rest)) (hg:o.guard=none) (hd:o.dst=some d) (hdn:d<fn.ntmps)
  (hrun:∀ρ w,(execOp ρ o).run P w = .ok .recover w) (hl:l.all (okOp fn.ntmps)=true) (hr:okC tb fn.ntmps rest=true) (hres:fn.results = #[]) (hsz:args.size<=fn.ntmps)
  (h:evOps tb ch (o::l) (evC tb ch lp rest m cx (retN [])) l ⟨[(d,.inil)],H0⟩=some out) (he:out.e = .normal):
  CallsDIn (FR none) 0 P f args .returning w fun e u' w'=>∃v,e = .returned v∧u' = .returning∧Ext w w':=by
 have hnd:l.all noDefer=true:=List.all_eq_true.2 fun o hmo=>(okOp_spec (List.all_eq_true.1 hl o hmo)).1
 refine callsDIn_of_wpSIn hf hb trivial fun c₀ cs hu=> ?_
 have hrec:recoverD (c₀::cs)=none:=by simp[recoverD,hu]
 refine wpSIn_seq (wpSIn_rec hnd hg (hrun _ _) hrec ?_)
 have F:FrOk (fun _=>none) fn.ntmps [(d,.inil)] (({tmps:=args++Array.replicate (fn.ntmps - args.size) undef,defers:=[]}:Act).put o.dst .nilIface):=by
  rw[hd]
  refine FrOk.put ⟨rfl,by simp;omega,fun t g hg=>(by cases hg)⟩ hdn ?_
  exact .inil
 refine evOps_ok hT (hcall (Base.one w)) l ⟨[(d,.inil)],H0⟩ _ _ w hl F (Rel.start (Base.one w)) h fun s' ρ' a' w' hk hle' F' R'=> ?_
 refine wpSIn_of_wpIn rfl ?_
 refine evC_ok hT hm hcall hloop rest _ _ _ s' out ρ' a' w' _ hr hk F' R' ⟨fun s2 ρ2 a2 w2 hk2 hle2 F2 R2=> ?_,fun id s2 ρ2 a2 w2 hk2 hle2 F2 R2=> ?_,fun s2 ρ2 a2 w2 hk2 hle2 F2 R2=> ?_⟩
 ·refine⟨F2.defers,c₀.mode,rfl,.tuple #[],?_,_,rfl,hu,R2.ext.ext⟩
  simp[results,hres]
 ·have:=exitOut_e hk2
  rw[he]at this;cases this
 ·have:=retR_e hk2
  rw[he]at this;cases this
theorem wpl_val {o:Oper} {l:List Oper} {ops:Array Oper} {Q:Exit->Act->World->Prop} {a:Act} {w w':World} {v:Value} (hg:o.guard=none) (hr:(execOp a.eval o).run P w = .ok (.value v) w') (h:Sx.wpList P ops Q l (a.put o.dst v) w'):Sx.wpList P ops Q (o::l) a w:=by
 unfold Sx.wpList
 rw[if_pos (by simp[Region.wanted,hg])]
 exact .inl (by simp only[Oper.wp,hr,Oper.upon];exact h)
theorem wpl_skip {o:Oper} {l:List Oper} {ops:Array Oper} {Q:Exit->Act->World->Prop} {a:Act} {w w':World} (hg:o.guard=none) (hr:(execOp a.eval o).run P w = .ok .skip w') (h:Sx.wpList P ops Q l (a.put o.dst undef) w'):Sx.wpList P ops Q (o::l) a w:=by
 unfold Sx.wpList
 rw[if_pos (by simp[Region.wanted,hg])]
 exact .inl (by simp only[Oper.wp,hr,Oper.upon];exact h)
theorem wpl_enter {o:Oper} {l:List Oper} {ops:Array Oper} {Q:Exit->Act->World->Prop} {a:Act} {w:World} {f:Nat} {args:Array Value} {S:Value->World->Prop} (hg:o.guard=none) (hr:(execOp a.eval o).run P w = .ok (.enter f args) w)
  (hc:Calls P f args w fun e w'=>∃v,e = .returned v∧S v w') (h:∀v w',S v w'->Sx.wpList P ops Q l (a.put o.dst v) w'):Sx.wpList P ops Q (o::l) a w:=by
 unfold Sx.wpList
 rw[if_pos (by simp[Region.wanted,hg])]
 refine .inl ?_
 simp only[Oper.wp,hr,Oper.upon]
 refine hc.mono ?_
 rintro e w' ⟨v,rfl,hs⟩
 exact h v w' hs
theorem cat_ok (hT:TabOk P tb) {c cc T1 T2 i0 i1 i2 i3 y0 y1 y2 y3 y4 y5 y6 y7:Nat} {p0 p1 p2 p3 p4 p5 p6 p7:String} {e0 e1 e2 e3 e4 e5 e6 e7:Array Edge} {fn:Func} (hf:P.funcs[c]? = some fn) (hbd:HasBody P c) (hcc:HasBody P cc)
  (hb:fn.body=some (.seq (.region i0 #[⟨some 2,.alloc T1,y0,p0,e0,none⟩,⟨some 3,.alloc T2,y1,p1,e1,none⟩] false)
   (.seq (.region i1 #[⟨some 4,.makeFunc (.func cc) #[] #[.tmp 2,.tmp 3],y2,p2,e2,none⟩,⟨none,.defer ⟨.value (.tmp 4),#[],#[]⟩,y3,p3,e3,none⟩] false)
   (.seq (.region i2 #[⟨some 5,.move (.tmp 0),y4,p4,e4,none⟩,⟨some 6,.call ⟨.value (.tmp 5),#[],#[]⟩,y5,p5,e5,none⟩] false)
   (.seq (.region i3 #[⟨none,.store T1 (.tmp 2) (.const (.int .i64 0)),y6,p6,e6,none⟩,⟨none,.store T2 (.tmp 3) (.const (.int .i64 0)),y7,p7,e7,none⟩] false) .ret)))))
  (hn:fn.ntmps=7) (hres:fn.results = #[.cell 2 T1,.cell 3 T2])
  (hA1:∀H,vAlloc tb T1 H=some (.ptr H.n 0,H.new (.cells [z64]))) (hA2:∀H,vAlloc tb T2 H=some (.ptr H.n 0,H.new (.cells [z64])))
  (hS1:∀H h c,GH.cells H h=some [c]->vStore tb T1 (.ptr h 0) z64 H=some (.un,H.set h (.cells [z64]))) (hS2:∀H h c,GH.cells H h=some [c]->vStore tb T2 (.ptr h 0) z64 H=some (.un,H.set h (.cells [z64])))
  (hL1:∀H h,GH.cells H h=some [z64]->vLoad tb T1 (.ptr h 0) H=some z64) (hL2:∀H h,GH.cells H h=some [z64]->vLoad tb T2 (.ptr h 0) H=some z64)
  (hdef:∀args w,args.size=2->CallsDIn (FR none) 0 P cc args .returning w fun e u' w'=>∃v,e = .returned v∧u' = .returning∧Ext w w')
  {ρ:Rho} {g:Nat} {us cs:List Value} {w:World} {H H':GH} {c1 c2:GV} (R:Rel w0 ρ H w) (hc:∀ρ' w',ρ.le ρ'->Rel w0 ρ' ((H.new (.cells [z64])).new (.cells [z64])) w'->∃x,CallSem P w0 ρ' g (us++cs) w' x H') (h1:H'.cells H.n=some [c1]) (h2:H'.cells (H.n+1)=some [c2]):
  CallSem P w0 ρ c [.func (.func g) us.toArray cs.toArray] w (.tup [z64,z64]) ((((H'.set H.n (.cells [z64])).set (H.n+1) (.cells [z64])).del H.n).del (H.n+1)):=by
 refine .inr ⟨hbd _ w,?_⟩
 refine callsFR' (r:=none) (n:=0) (callsIn_of_wp_defers hf hb trivial ?_)
 rw[hn]
 obtain⟨v1,w1,ρ1,hr1,hle1,R1,hv1⟩:=vAlloc_ok (P:=P) hT R (hA1 H)
 obtain⟨v2,w2,ρ2,hr2,hle2,R2,hv2⟩:=vAlloc_ok (P:=P) hT R1 (hA2 _)
 obtain⟨x,hx⟩:=hc ρ2 w2 (Rho.le_trans hle1 hle2) R2
 refine wpIn_seq (wpr_region_lit rfl ?_)
 refine wpl_val rfl (v:=v1) (w':=w1) (by simp[execOp,hr1]) ?_
 refine wpl_val rfl (v:=v2) (w':=w2) (by simp[execOp,hr2]) ?_
 show Code.wpIn (FR none) 0 P _ _ (⟨#[.func (.func g) us.toArray cs.toArray,undef,v1,v2,undef,undef,undef],[]⟩:Act) w2
 refine wpIn_seq (wpIn_region_lit ?_)
 refine wpListIn_plain rfl fun K hK=>⟨fun _ _=>trivial,?_⟩
 have hm:(Oper.semAt (FR none).round (⟨#[.func (.func g) us.toArray cs.toArray,undef,v1,v2,undef,undef,undef],[]⟩:Act).eval ⟨some 4,.makeFunc (.func cc) #[] #[.tmp 2,.tmp 3],y2,p2,e2,none⟩).run P w2 = .ok (.value (.func (.func cc) #[] #[v1,v2])) w2:=by
  rw[show(FR none).round=none from rfl,Oper.semAt_none]
  simp[execOp,Instr.makeFunc,Act.eval]
 rw[hm]
 refine hK _ _ ?_
 show wpListIn _ _ _ _ _ _ (⟨#[.func (.func g) us.toArray cs.toArray,undef,v1,v2,.func (.func cc) #[] #[v1,v2],undef,undef],[]⟩:Act) w2
 refine wpListIn_plain rfl fun K hK=>⟨fun _ _=>trivial,?_⟩
 have hm:(Oper.semAt (FR none).round (⟨#[.func (.func g) us.toArray cs.toArray,undef,v1,v2,.func (.func cc) #[] #[v1,v2],undef,undef],[]⟩:Act).eval ⟨none,.defer ⟨.value (.tmp 4),#[],#[]⟩,y3,p3,e3,none⟩).run P w2 = .ok (.defer ⟨.fn (.func cc) #[v1,v2],#[]⟩) w2:=by
  rw[show(FR none).round=none from rfl,Oper.semAt_none]
  simp[execOp,resolve,Act.eval,Deferred.ofValue]
 rw[hm]
 refine hK _ _ ?_
 show Code.wpIn (FR none) 0 P _ _ (⟨#[.func (.func g) us.toArray cs.toArray,undef,v1,v2,.func (.func cc) #[] #[v1,v2],undef,undef],[⟨.fn (.func cc) #[v1,v2],#[]⟩]⟩:Act) w2
 refine wpIn_seq (wpr_region_lit rfl ?_)
 refine wpl_val rfl (v:= .func (.func g) us.toArray cs.toArray) (w':=w2) (by simp[execOp,Act.eval]) ?_
 show Sx.wpList _ _ _ _ (⟨#[.func (.func g) us.toArray cs.toArray,undef,v1,v2,.func (.func cc) #[] #[v1,v2],.func (.func g) us.toArray cs.toArray,undef],[⟨.fn (.func cc) #[v1,v2],#[]⟩]⟩:Act) w2
 have go:∀v w3 ρ3,ρ2.le ρ3->Rel w0 ρ3 H' w3->Code.wpIn (FR none) 0 P (.seq (.region i3 #[⟨none,.store T1 (.tmp 2) (.const (.int .i64 0)),y6,p6,e6,none⟩,⟨none,.store T2 (.tmp 3) (.const (.int .i64 0)),y7,p7,e7,none⟩] false) .ret) (bodyPostDIn (FR none) 0 P fn fun e w'=>∃v ρ',e = .returned v∧ρ.le ρ'∧Rel w0 ρ' ((((H'.set H.n (.cells [z64])).set (H.n+1) (.cells [z64])).del H.n).del (H.n+1)) w'∧Rl ρ' (.tup [z64,z64]) v) (⟨#[.func (.func g) us.toArray cs.toArray,undef,v1,v2,.func (.func cc) #[] #[v1,v2],.func (.func g) us.toArray cs.toArray,v],[⟨.fn (.func cc) #[v1,v2],#[]⟩]⟩:Act) w3:=by
  intro v w3 ρ3 hle3 R3
  have hz:∀ρ,Rl ρ z64 (.int .i64 0):=fun ρ=> .int _ _
  obtain⟨_,w4,ρ4,hr4,hle4,R4⟩:=vStore_ok (P:=P) (T:=T1) hT R3 ((hv1.le hle2).le hle3) (hz _) (hS1 _ _ _ h1)
  have h2':(H'.set H.n (.cells [z64])).cells (H.n+1)=some [c2]:=by
   rw[GH.cells_eq]at h2 ⊢
   rw[GH.get_set,if_neg (by omega)];exact h2
  obtain⟨_,w5,ρ5,hr5,hle5,R5⟩:=vStore_ok (P:=P) (T:=T2) hT R4 ((hv2.le hle3).le hle4) (hz _) (hS2 _ _ _ h2')
  refine wpIn_seq (wpr_region_lit rfl ?_)
  refine wpl_skip rfl (w':=w4) (by simp[execOp,Act.eval,hr4]) ?_
  refine wpl_skip rfl (w':=w5) (by simp[execOp,Act.eval,Act.put,hr5]) ?_
  refine wpIn_ret ?_
  show LeavesIn (FR none) 0 P fn #[.func (.func g) us.toArray cs.toArray,undef,v1,v2,.func (.func cc) #[] #[v1,v2],.func (.func g) us.toArray cs.toArray,v] _ [⟨.fn (.func cc) #[v1,v2],#[]⟩] .returning w5
  refine leavesIn_cons (f:=cc) (args:= #[v1,v2]) (by simp) (by simp[FR,Fence.wide]) (by simp[invoke,hcc _ w5]) (fun _ _=>trivial) ?_
  refine(hdef #[v1,v2] w5 rfl).mono ?_
  rintro e u' w6 ⟨x6,rfl,rfl,hext⟩
  have R6:=R5.ext' hext
  have F:FrOk ρ5 7 [(2,.ptr H.n 0),(3,.ptr (H.n+1) 0)] (⟨#[.func (.func g) us.toArray cs.toArray,undef,v1,v2,.func (.func cc) #[] #[v1,v2],.func (.func g) us.toArray cs.toArray,v],[]⟩:Act):=by
   refine⟨rfl,rfl,fun t g hg=> ?_⟩
   rw[glk_cons]at hg
   by_cases h2:t=2
   ·rw[if_pos h2]at hg;cases hg;rw[h2]
    exact(((hv1.le hle2).le hle3).le hle4).le hle5
   ·rw[if_neg h2,glk_cons]at hg
    by_cases h3:t=3
    ·rw[if_pos h3]at hg;cases hg;rw[h3]
     exact((hv2.le hle3).le hle4).le hle5
    ·rw[if_neg h3]at hg;cases hg
  have hres':retR tb ⟨fn.results.toList,0,[]⟩ ⟨[(2,.ptr H.n 0),(3,.ptr (H.n+1) 0)],(H'.set H.n (.cells [z64])).set (H.n+1) (.cells [z64])⟩=some ⟨.ret,[z64,z64],(H'.set H.n (.cells [z64])).set (H.n+1) (.cells [z64])⟩:=by
   rw[hres]
   have q1:vLoad tb T1 (.ptr H.n 0) ((H'.set H.n (.cells [z64])).set (H.n+1) (.cells [z64]))=some z64:=hL1 _ _ (by rw[GH.cells_eq,GH.get_set,if_neg (by omega),GH.get_set,if_pos rfl])
   have q2:vLoad tb T2 (.ptr (H.n+1) 0) ((H'.set H.n (.cells [z64])).set (H.n+1) (.cells [z64]))=some z64:=hL2 _ _ (by rw[GH.cells_eq,GH.get_set,if_pos rfl])
   show ob (ob (vLoad tb T1 (.ptr H.n 0) _) fun v=>ob (ob (vLoad tb T2 (.ptr (H.n+1) 0) _) fun v=>ob (some []) fun vs=>some (v::vs)) fun vs=>some (v::vs)) _=_
   rw[q1,q2];rfl
  obtain⟨_,v6,hv6,hr6⟩:=retR_ok (fn:=fn) (P:=P) hT rfl F R6 hres'
  exact⟨v6,hr6,v6,ρ5,rfl,Rho.le_trans hle1 (Rho.le_trans hle2 (Rho.le_trans hle3 (Rho.le_trans hle4 hle5))),(R6.del _).del _,hv6⟩
 rcases hx with⟨v,w3,ρ3,hr,hle3,R3,_⟩|⟨hr,hcalls⟩
 ·refine wpl_val rfl (v:=v) (w':=w3) (by simpa [execOp,resolve,Act.eval,Deferred.ofValue,invoke]using hr) ?_
  exact go v w3 ρ3 hle3 R3
 ·refine wpl_enter rfl (f:=g) (args:=(us++cs).toArray) (S:=fun v w'=>∃ρ',ρ2.le ρ'∧Rel w0 ρ' H' w') (by simpa [execOp,resolve,Act.eval,Deferred.ofValue,invoke]using hr) (hcalls.mono ?_) fun v w3 ⟨ρ3,hle3,R3⟩=>go v w3 ρ3 hle3 R3
  rintro e w' ⟨v,ρ',rfl,hle,R',_⟩
  exact⟨v,rfl,ρ',hle,R'⟩
end
end Go.Gx
end
section
namespace Go.Gx
open Go Go.Sx
noncomputable section
def idxB (n c:Nat) (len:Nat):Nat->Option Nat:=Nat.rec (motive:=fun _=>Nat->Option Nat) (fun _=>none) (fun _ ih i=>Bool.casesOn (motive:=fun _=>Option Nat) (Nat.beq (Nat.mod (Nat.shiftRight n (Nat.mul 8 i)) 256) c) (ih (Nat.succ i)) (some i)) len
def isU8 (k:IntKind):Bool:=match k with
 | .u8=>true
 |_=>false
def gexn (fx:Nat) (f:Nat) (us:List GV):Option GV:=bif Nat.beq f fx then List.casesOn (motive:=fun _=>Option GV) us none (fun a r=>List.casesOn (motive:=fun _=>Option GV) r none fun c r=>List.casesOn (motive:=fun _=>Option GV) r (ob a.asStr fun s=>ob c.asI fun p=>ob (asN p.2) fun k=>
 bif isU8 p.1 then(bif Nat.blt k 256 then Option.casesOn (motive:=fun _=>Option GV) (idxB s.1 k s.2 0) (some (.int .i64 (.negSucc 0))) (fun i=>some (.int .i64 (.ofNat i)))else none)else none) fun _ _=>none)else none
theorem idxB_eq (x:List UInt8) (c:Nat) (hc:c<256):∀k i,i+k=x.length->(match idxB (encB x) c k i with|none=>(-1:Int)|some j=>(j:Int))=(if Lib.indexByte (x.drop i) c.toUInt8 = -1 then -1 else Lib.indexByte (x.drop i) c.toUInt8+i)
 |0,i,h=>by
  rw[List.drop_of_length_le (by omega)]
  simp[idxB,Lib.indexByte]
 | k + 1, i, h => by
  have ih:=idxB_eq x c hc k (i+1) (by omega)
  have hi:i<x.length:=by omega
  have e:idxB (encB x) c (k+1) i=Bool.casesOn (motive:=fun _=>Option Nat) (Nat.beq (Nat.mod (Nat.shiftRight (encB x) (Nat.mul 8 i)) 256) c) (idxB (encB x) c k (i+1)) (some i):=rfl
  rw[e,encB_at x i hi,List.drop_eq_getElem_cons hi]
  have hcc:(x[i]).toNat=c↔x[i]=c.toUInt8:=by
   rw[<-UInt8.toNat_inj]
   have:c.toUInt8.toNat=c:=by simp[Nat.toUInt8];omega
   rw[this]
  unfold Lib.indexByte
  cases hb:Nat.beq (x[i]).toNat c with
  |true=>
   have:=hcc.1 (Nat.eq_of_beq_eq_true hb)
   simp[this]
  | false =>
   have hne:¬x[i]=c.toUInt8:=fun h'=>by
    have:=hcc.2 h'
    rw[this]at hb
    simp at hb
   have hge:=Lib.indexByte_ge (x.drop (i+1)) c.toUInt8
   simp only[beq_iff_eq,hne,if_false]
   rw[ih]
   by_cases h1:Lib.indexByte (x.drop (i+1)) c.toUInt8 = -1
   ·simp[h1]
   ·rw[if_neg h1,if_neg h1,if_neg (by omega)]
    push_cast;omega
section
variable {P:Program} {gs:Gls} {w0:Base gs}
theorem gexn_ok {fx:Nat} {fn:Func} (hf:P.funcs[fx]? = some fn) (hname:(fn.name == "runtime.NumGoroutine")=false) (hb:fn.body.isNone=true) (hn:Extern.findNext fn=none) (he:Extern.find fn=some Extern.BytealgIndexByte.indexByte)
  {f:Nat} {us:List GV} {g:GV} (h:gexn fx f us=some g) (ρ:Rho) (w:World) (vs:List Value) (H:GH) (R:Rel w0 ρ H w) (hr:RlL ρ us vs):CallSem P w0 ρ f vs w g H:=by
 unfold gexn at h
 replace h:=bif_some.1 h
 have h1:=Nat.eq_of_beq_eq_true h.1
 replace h:=h.2
 subst h1
 cases us with
 |nil=>cases h
 |cons a us=>
 cases us with
 |nil=>cases h
 |cons c us=>
 cases us with
 |cons _ _=>cases h
 |nil=>
 obtain⟨s,hs,h⟩:=ob_some.1 (show ob a.asStr _=some g from h)
 obtain⟨p,hp,h⟩:=ob_some.1 h
 obtain⟨k,hk,h⟩:=ob_some.1 h
 obtain⟨hu,h⟩:=bif_some.1 h
 obtain⟨hlt,h⟩:=bif_some.1 h
 obtain⟨v,vs,rfl,hv,hr⟩:=hr.of_cons
 obtain⟨v',vs,rfl,hv',hr⟩:=hr.of_cons
 rw[hr.of_nil]
 rw[asStr_eq hs]at hv
 rw[asI_eq hp]at hv'
 obtain⟨S,rfl,e1,e2⟩:=hv.str_inv
 have hv':=hv'.int_inv
 subst hv'
 have hpu:p.1 = .u8:=by cases hq:p.1<;>rw[hq]at hu<;>first|rfl|cases hu
 have hk':p.2=(k:Int):=asN_eq hk
 have hlt:k<256:=by simpa using hlt
 refine .inl ⟨.int .i64 (Lib.indexByte S.data.toList p.2.toNat.toUInt8),w,ρ,?_,Rho.le_refl _,R,?_⟩
 ·rw[run_callFunc_extern hf hname hb hn he,hpu,Lib.run_indexByteString]
  rfl
 ·have key:=idxB_eq (bytesOfV S) k hlt s.2 0 (by omega)
  rw[e1]at h
  rw[List.drop_zero]at key
  have e3:Lib.indexByte S.data.toList p.2.toNat.toUInt8=(match idxB (encB (bytesOfV S)) k s.2 0 with|none=>(-1:Int)|some j=>(j:Int)):=by
   rw[key,hk']
   have:bytesOfV S=S.data.toList:=rfl
   rw[this]
   simp only[Int.toNat_natCast]
   split
   ·assumption
   ·omega
  rw[e3]
  cases hx:idxB (encB (bytesOfV S)) k s.2 0 with
  |none=>rw[hx]at h;cases h;exact .int _ _
  |some j=>rw[hx]at h;cases h;exact .int _ _
end
end
end Go.Gx
end
section
namespace Go.Gx
open Go Go.Sx
noncomputable section
def decL {β:Type} (sz:Nat) (d:List GV->Option β) (n:Nat):List GV->Option (List β):=Nat.rec (motive:=fun _=>List GV->Option (List β)) (fun _=>some []) (fun _ ih cs=>ob (d (cs.take sz)) fun y=>ob (ih (cs.drop sz)) fun ys=>some (y::ys)) n
def decS {β:Type} (H:GH) (sz:Nat) (d:List GV->Option β) (v:GV):Option (List β):=ob (content H sz v) fun p=>bif Nat.ble p.1 1099511627776 then decL sz d p.1 p.2 else none
def dI (k:IntKind) (cs:List GV):Option Int:=List.casesOn (motive:=fun _=>Option Int) cs none fun c r=>List.casesOn (motive:=fun _=>Option Int) r (ob c.asI fun p=>bif decide (p.1=k)then some p.2 else none) fun _ _=>none
def dP {α β:Type} (n:Nat) (d:List GV->Option α) (e:List GV->Option β) (cs:List GV):Option (α×β):=ob (d (cs.take n)) fun x=>ob (e (cs.drop n)) fun y=>some (x,y)
def dS {β:Type} (H:GH) (sz:Nat) (d:List GV->Option β) (cs:List GV):Option (List β):=List.casesOn (motive:=fun _=>Option (List β)) cs none fun c r=>List.casesOn (motive:=fun _=>Option (List β)) r (decS H sz d c) fun _ _=>none
end
section
variable {P:Program} {gs:Gls} {w0:Base gs} {w:World} {ρ:Rho} {H:GH}
def All (_:Nat):Prop:=True
def Reads {α β:Type} (ρ:Rho) (w:World) (d:List GV->Option β) (r:Rep α) (er:α->β):Prop:=∀gs vs y,RlL ρ gs vs->d gs=some y->gs.length=r.sz->∃z,er z=y∧r.R w All vs z
theorem Reads.int (k:IntKind):Reads ρ w (dI k) (Rep.int k) id:=fun gs vs y hr h _=>by
 cases gs with
 |nil=>cases h
 |cons c gs=>
 cases gs with
 |cons _ _=>cases h
 |nil=>
 obtain⟨p,hp,h⟩:=ob_some.1 (show ob c.asI _=some y from h)
 obtain⟨hk,h⟩:=bif_some.1 h
 cases h
 obtain⟨v,vs,rfl,hv,hr⟩:=hr.of_cons
 rw[hr.of_nil]
 rw[asI_eq hp]at hv
 rw[hv.int_inv]
 have hk:=of_decide_eq_true hk
 exact⟨p.2,rfl,by rw[hk];rfl⟩
theorem Reads.pair {α β α' β':Type} {d:List GV->Option α'} {e:List GV->Option β'} {r:Rep α} {s:Rep β} {er:α->α'} {es:β->β'} (h1:Reads ρ w d r er) (h2:Reads ρ w e s es):Reads ρ w (dP r.sz d e) (Rep.pair r s) (fun z=>(er z.1,es z.2)):=fun gs vs y hr h hl=>by
 obtain⟨x,hx,h⟩:=ob_some.1 (show ob (d (gs.take r.sz)) _=some y from h)
 obtain⟨x',hx',h⟩:=ob_some.1 h
 cases h
 have hl:gs.length=r.sz+s.sz:=hl
 have hv:=hr.len
 obtain⟨z,rfl,hz⟩:=h1 _ (vs.take r.sz) _ (by simpa using hr.sub 0 r.sz) hx (by simp;omega)
 obtain⟨z',rfl,hz'⟩:=h2 _ (vs.drop r.sz) _ ⟨by simp;omega,fun i g v hg hv'=>by rw[List.getElem?_drop]at hg hv';exact hr.at' _ _ _ hg hv'⟩ hx' (by simp;omega)
 exact⟨(z,z'),rfl,_,_,(List.take_append_drop r.sz vs).symm,hz,hz'⟩
theorem decL_ok {α β:Type} {d:List GV->Option β} {r:Rep α} {er:α->β} (hd:Reads ρ w d r er) (b:Nat):∀(n:Nat) (cs:List GV) (ns:List Value) (off:Nat) (ys:List β),decL r.sz d n cs=some ys->RlL ρ cs ns->cs.length=n*r.sz->(∀(j:Nat) x,ns[j]? = some x->w.cell? ⟨b,off+j,none⟩=some x)->
  ∃zs:List α,zs.map er=ys∧zs.length=n∧∀(i:Nat) z,zs[i]? = some z->∃es,(∀(j:Nat) e,es[j]? = some e->w.cell? ⟨b,off+(i*r.sz+j),none⟩=some e)∧r.R w All es z
 |0,cs,ns,off,ys,h,hr,hl,hc=>by
  cases h
  exact⟨[],rfl,rfl,fun i z hz=>by simp at hz⟩
 | n + 1, cs, ns, off, ys, h, hr, hl, hc => by
  obtain⟨y,hy,h⟩:=ob_some.1 (show ob (d (cs.take r.sz)) (fun y=>ob (decL r.sz d n (cs.drop r.sz)) fun ys=>some (y::ys))=some ys from h)
  obtain⟨ys',hys,h⟩:=ob_some.1 h
  cases h
  rw[Nat.succ_mul]at hl
  have hv:=hr.len
  obtain⟨z,rfl,hz⟩:=hd _ (ns.take r.sz) _ (by simpa using hr.sub 0 r.sz) hy (by simp;omega)
  obtain⟨zs,rfl,hzl,hzs⟩:=decL_ok hd b n (cs.drop r.sz) (ns.drop r.sz) (off+r.sz) ys' hys ⟨by simp;omega,fun i g v hg hv'=>by rw[List.getElem?_drop]at hg hv';exact hr.at' _ _ _ hg hv'⟩ (by simp;omega) (fun j x hx=>by
   rw[List.getElem?_drop]at hx
   rw[Nat.add_assoc];exact hc _ _ hx)
  refine⟨z::zs,rfl,by simp[hzl],fun i z' hz'=> ?_⟩
  cases i with
  | zero =>
   simp at hz';subst hz'
   refine⟨_,fun j e he=> ?_,hz⟩
   rw[List.getElem?_take]at he
   by_cases hj:j<r.sz
   ·rw[if_pos hj]at he
    have:=hc j e he
    simpa using this
   ·rw[if_neg hj]at he;cases he
  |succ i=>
   simp at hz'
   obtain⟨es,h1,h2⟩:=hzs i z' hz'
   refine⟨es,fun j e he=> ?_,h2⟩
   have:=h1 j e he
   rw[Nat.succ_mul]
   rw[show off+(i*r.sz+r.sz+j)=off+r.sz+(i*r.sz+j) by omega]
   exact this
theorem content_slR (R:Rel w0 ρ H w) {v:GV} {V:Value} {sz:Nat} {p:Nat×List GV} (hv:Rl ρ v V) (h:content H sz v=some p):
  p.2.length=p.1*sz∧∃a cap,V = .slice a p.1 cap∧p.1<=cap∧(p.1=0∨∃b off ns,a=some ⟨b,off,none⟩∧RlL ρ p.2 ns∧∀(j:Nat) x,ns[j]? = some x->w.cell? ⟨b,off+j,none⟩=some x):=by
 obtain⟨ns,C⟩:=content_ok R hv h
 refine⟨by rw[C.rel.len,C.len],?_⟩
 obtain⟨base,cap,hV,hc,hh⟩:=C.val
 refine⟨base,cap,hV,hc,?_⟩
 rcases hh with⟨_,h0,_⟩|⟨A,rfl,hcell⟩
 ·exact .inl h0
 ·by_cases h0:p.1=0
  ·exact .inl h0
  ·refine .inr ?_
   unfold content at h
   cases hz:v.isSnil with
   |true=>rw[hz]at h;cases h;exact absurd rfl h0
   | false =>
    rw[hz]at h
    obtain⟨s,hs,h⟩:=ob_some.1 (show ob v.asS _=some p from h)
    rw[asS_eq hs,hV]at hv
    obtain⟨l,cap',A',hl,e,hc',ha⟩:=hv.sl_inv
    injection e with e1 e2 e3
    injection e1 with e1
    rcases ha with ha|⟨ha,_⟩
    ·omega
    ·rw[ha]at e1
     subst e1
     exact⟨l.b,l.off+s.2.1,ns,rfl,C.rel,fun j x hx=>by have:=hcell j x hx;rwa[add_none]at this⟩
theorem decS_ok {α β:Type} {d:List GV->Option β} {r:Rep α} {er:α->β} (R:Rel w0 ρ H w) (hd:Reads ρ w d r er) {v:GV} {V:Value} {ys:List β} (hv:Rl ρ v V) (h:decS H r.sz d v=some ys):∃zs:List α,zs.map er=ys∧SlR r w All V zs:=by
 obtain⟨p,hp,h⟩:=ob_some.1 (show ob (content H r.sz v) _=some ys from h)
 obtain⟨hle,h⟩:=bif_some.1 h
 have hle:p.1<=1099511627776:=by simpa using hle
 obtain⟨hlen,a,cap,rfl,hc,hh⟩:=content_slR R hv hp
 rcases hh with h0|⟨b,off,ns,rfl,hr,hcell⟩
 ·rw[h0]at h;cases h
  exact⟨[],rfl,a,cap,by rw[h0];rfl,by simp,.inl rfl⟩
 ·obtain⟨zs,rfl,hl,hz⟩:=decL_ok hd b p.1 p.2 ns off ys h hr hlen hcell
  exact⟨zs,rfl,some ⟨b,off,none⟩,cap,by rw[hl],by rw[hl];omega,.inr ⟨b,off,rfl,trivial,hz⟩⟩
theorem Reads.sl {α β:Type} {d:List GV->Option β} {r:Rep α} {er:α->β} (R:Rel w0 ρ H w) (hd:Reads ρ w d r er):Reads ρ w (dS H r.sz d) (Rep.sl r) (fun z=>z.2.map er):=fun gs vs y hr h hl=>by
 cases gs with
 |nil=>cases h
 |cons c gs=>
 cases gs with
 |cons _ _=>cases h
 |nil=>
 have h:decS H r.sz d c=some y:=h
 obtain⟨v,vs,rfl,hv,hr⟩:=hr.of_cons
 rw[hr.of_nil]
 obtain⟨zs,rfl,hz⟩:=decS_ok R hd hv h
 exact⟨(v,zs),rfl,rfl,hz⟩
end
end Go.Gx
end
