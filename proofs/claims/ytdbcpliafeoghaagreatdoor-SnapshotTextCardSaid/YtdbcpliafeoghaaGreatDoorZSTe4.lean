/- Models of functions with their proofs, by program (gen/xt.py), and plain laws, in one text. Conditions: none. -/
import Derived.Test.YtdbcpliafeoghaaGreatDoorZSTe3
import Derived.Test.YtdbcpliafeoghaaGreatDoorZSTe1
import Derived.RecoverIn
import Derived.DefersIn
import Derived.Lib.Bytealg
import Derived.Test.YtdbcpliafeoghaaGreatDoorZSTe2
set_option linter.unusedVariables false
set_option linter.unusedSimpArgs false
set_option maxHeartbeats 4000000
set_option maxRecDepth 20000
section
set_option maxRecDepth 100000
namespace Go.Gx
open Go Go.Sx Go.Proofs
noncomputable section
abbrev y:=tyTab
def gB (f:Func) (c:CH) (_:QH) (us:List GV) (H:GH):RS:=evF y c (fun _ _ _ _=>none) f us H
def i (n:Nat):GV:= .int .i64 (.ofNat n)
def bC (q:Bool) (f t:RS):RS:=Bool.casesOn (motive:=fun _=>RS) q f t
def K (c:CH) (f:Nat) (us:List GV) (H:GH) (k:GV->GH->RS):RS:=kOR (c f us H) k
def bn (op:BinOp) (T:Nat) (v u:GV) (k:GV->RS):RS:=ob (vBin y op T v u) k
def ld (T:Nat) (v:GV) (H:GH) (k:GV->RS):RS:=ob (vLoad y T v H) k
def fd (T n:Nat) (v:GV) (k:GV->RS):RS:=ob (vField y T n v) k
def pt (T n:Nat) (v:GV) (k:GV->RS):RS:=ob (vPart y T n v) k
def ix (T:Nat) (v u:GV) (k:GV->RS):RS:=ob (vIndex y T v u) k
def ln (T:Nat) (v:GV) (k:GV->RS):RS:=ob (vLen y T v) k
def ex (n:Nat) (v:GV) (k:GV->RS):RS:=ob (vExt n v) k
def bd (T:Nat) (l:List (Nat×GV)) (k:GV->RS):RS:=ob (vBuild y T l) k
theorem rN {α:Type} {f n:Nat} {x y:Option α} {e:α} {R:Prop} (hx:x=some e->R) (hy:y=some e->R):tN f n x y=some e->R:=by
 unfold tN
 cases Nat.blt f n
 ·exact hy
 ·exact hx
theorem rL {α:Type} {f n:Nat} {x e:α} {R:Nat->α->Prop} (h:R n x):tL f n x=some e->R f e:=by
 intro he
 unfold tL at he
 cases hb:Nat.beq f n with
 |false=>rw[hb]at he;cases he
 |true=>rw[hb]at he;cases he;rw[Nat.eq_of_beq_eq_true hb];exact h
def B15 (c:CH) (ql:QH) (us:List GV) (H:GH):RS:=U1 us fun x1=>
 ln 9 x1 fun t2=>
 bn .gtr 3 t2 (i 16384) fun t3=>
 ob (GV.asB t3) fun q4=>jn (bC q4 (oN [x1] H) (oR [.snil,(i 0),(i 3)] H)) fun vs5 h6=>U1 vs5 fun a7=>K c 31 [a7,(i 0)] h6 fun t8 h9=>
 jn (nB 0 (ql 0 [a7,.snil,t8] h9)) fun vs10 h11=>U1 vs10 fun a12=>oR [a12,(i 0),(i 0)] h11
def L0 (c:CH) (ql:QH) (us:List GV) (H:GH):RS:=U3 us fun a13 a14 a15=>jn (ln 9 a13 fun t16=>
 bn .lss 3 a15 t16 fun t17=>
 ob (GV.asB t17) fun q18=>jn (bC q18 (oX 0 [a14] H) (oN [a13,a14,a15] H)) fun vs19 h20=>U3 vs19 fun a21 a22 a23=>jn (nB 1 (ln 36 a22 fun t24=>
 bn .eql 3 t24 (i 4096) fun t25=>
 ob (GV.asB t25) fun q26=>jn (bC q26 (oN [a21,a22,a23] h20) (oR [.snil,a23,(i 3)] h20)) fun vs27 h28=>U3 vs27 fun a29 a30 a31=>K c 32 [a29,a31] h28 fun t32 h33=>
 ex 0 t32 fun t34=>
 ex 1 t32 fun t35=>
 kOR (vAlloc y 77 h33) fun t36 h37=>
 kOR (vStore y 77 t36 t34 h37) fun t38 h39=>
 bn .neq 26 t35 (i 0) fun t40=>
 ob (GV.asB t40) fun q41=>jn (bC q41 (oN [a29,a30,t36] h39) (oR [.snil,a31,t35] h39)) fun vs42 h43=>U3 vs42 fun a44 a45 a46=>ld 77 a46 h43 fun t47=>
 kOR (vBuildS y 36 1 [(0,t47)] h43) fun t48 h49=>
 kOR (vApp y 36 36 a45 t48 h49) fun t50 h51=>
 fd 77 2 a46 fun t52=>
 ld 3 t52 h51 fun t53=>
 K c 31 [a44,t53] h51 fun t54 h55=>
 oN [a44,t50,t54] h55)) fun vs56 h57=>U3 vs56 fun a58 a59 a60=>oN [a58,a59,a60] h57) (ql 0)
def B18 (c:CH) (ql:QH) (us:List GV) (H:GH):RS:=U1 us fun x1=>
 kOR (vBox x1 H) fun t2 h3=>
 fd 25 1 t2 fun t4=>
 ld 22 t4 h3 fun t5=>
 ln 22 t5 fun t6=>
 bn .eql 3 t6 (i 0) fun t7=>
 kOR (rG t7 false h3 (ob (vField y 25 1 t2) fun g8=>some (g8,h3))) fun t9 h10=>
 kOR (rG t7 false h10 (ob (vLoad y 22 t9 h10) fun g11=>some (g11,h10))) fun t12 h13=>
 kOR (rG t7 false h13 (ob (vLen y 22 t12) fun g14=>some (g14,h13))) fun t15 h16=>
 kOR (rG t7 false h16 (ob (vBin y .gtr 3 t15 (i 6)) fun g17=>some (g17,h16))) fun t18 h19=>
 ob (vPick t7 (.bool true) t18) fun t20=>
 kOR (rG t20 false h19 (ob (vField y 25 2 t2) fun g21=>some (g21,h19))) fun t22 h23=>
 kOR (rG t20 false h23 (ob (vLoad y 23 t22 h23) fun g24=>some (g24,h23))) fun t25 h26=>
 kOR (rG t20 false h26 (ob (vLen y 23 t25) fun g27=>some (g27,h26))) fun t28 h29=>
 kOR (rG t20 false h29 (ob (vBin y .gtr 3 t28 (i 12)) fun g30=>some (g30,h29))) fun t31 h32=>
 ob (vPick t20 (.bool true) t31) fun t33=>
 ob (GV.asB t33) fun q34=>jn (bC q34 (oN [t2] h32) (oR [(i 3)] h32)) fun vs35 h36=>U1 vs35 fun a37=>ld 25 a37 h36 fun t38=>
 K c 42 [t38] h36 fun t39 h40=>
 ob (vUn .not t39) fun t41=>
 ob (GV.asB t41) fun q42=>jn (bC q42 (oN [a37] h40) (oR [(i 5)] h40)) fun vs43 h44=>U1 vs43 fun a45=>fd 25 1 a45 fun t46=>
 ld 22 t46 h44 fun t47=>
 ln 22 t47 fun t48=>
 jn (nB 0 (ql 1 [a45,t47,t48,(i 0)] h44)) fun vs49 h50=>U1 vs49 fun a51=>fd 25 2 a51 fun t52=>
 ld 23 t52 h50 fun t53=>
 ln 23 t53 fun t54=>
 jn (nB 2 (ql 2 [a51,t53,t54,(i 0)] h50)) fun vs55 h56=>U1 vs55 fun a57=>ld 25 a57 h56 fun t58=>
 K c 45 [t58] h56 fun t59 h60=>
 fd 25 2 a57 fun t61=>
 ld 23 t61 h60 fun t62=>
 ln 23 t62 fun t63=>
 jn (nB 4 (ql 3 [t59,t62,t63,(i 0)] h60)) fun vs64 h65=>U0 vs64 (oR [(i 0)] h65)
def L1 (c:CH) (ql:QH) (us:List GV) (H:GH):RS:=U4 us fun a66 a67 a68 a69=>jn (bn .lss 3 a69 a68 fun t70=>
 ob (GV.asB t70) fun q71=>jn (bC q71 (oX 0 [a66] H) (oN [a66,a67,a68,a69] H)) fun vs72 h73=>U4 vs72 fun a74 a75 a76 a77=>jn (nB 1 (ix 22 a75 a77 fun t78=>
 ld 33 t78 h73 fun t79=>
 kOR (vAlloc y 33 h73) fun t80 h81=>
 kOR (vStore y 33 t80 t79 h81) fun t82 h83=>
 ld 33 t80 h83 fun t84=>
 K c 43 [t84] h83 fun t85 h86=>
 ob (vUn .not t85) fun t87=>
 ob (GV.asB t87) fun q88=>jn (bC q88 (oN [a74,a75,a76,a77] h86) (oR [(i 2)] h86)) fun vs89 h90=>U4 vs89 fun a91 a92 a93 a94=>oN [a91,a92,a93,a94] h90)) fun vs95 h96=>U4 vs95 fun a97 a98 a99 a100=>bn .add 3 a100 (i 1) fun t101=>
 oN [a97,a98,a99,t101] h96) (ql 1)
def L2 (c:CH) (ql:QH) (us:List GV) (H:GH):RS:=U4 us fun a102 a103 a104 a105=>jn (bn .lss 3 a105 a104 fun t106=>
 ob (GV.asB t106) fun q107=>jn (bC q107 (oX 2 [a102] H) (oN [a102,a103,a104,a105] H)) fun vs108 h109=>U4 vs108 fun a110 a111 a112 a113=>jn (nB 3 (ix 23 a111 a113 fun t114=>
 ld 93 t114 h109 fun t115=>
 kOR (vAlloc y 93 h109) fun t116 h117=>
 kOR (vStore y 93 t116 t115 h117) fun t118 h119=>
 ld 93 t116 h119 fun t120=>
 fd 25 1 a110 fun t121=>
 ld 22 t121 h119 fun t122=>
 ln 22 t122 fun t123=>
 K c 44 [t120,t123] h119 fun t124 h125=>
 ob (vUn .not t124) fun t126=>
 ob (GV.asB t126) fun q127=>jn (bC q127 (oN [a110,a111,a112,a113] h125) (oR [(i 7)] h125)) fun vs128 h129=>U4 vs128 fun a130 a131 a132 a133=>oN [a130,a131,a132,a133] h129)) fun vs134 h135=>U4 vs134 fun a136 a137 a138 a139=>bn .add 3 a139 (i 1) fun t140=>
 oN [a136,a137,a138,t140] h135) (ql 2)
def L3 (c:CH) (ql:QH) (us:List GV) (H:GH):RS:=U4 us fun a141 a142 a143 a144=>jn (bn .lss 3 a144 a143 fun t145=>
 ob (GV.asB t145) fun q146=>jn (bC q146 (oX 4 [] H) (oN [a141,a142,a143,a144] H)) fun vs147 h148=>U4 vs147 fun a149 a150 a151 a152=>jn (nB 5 (ix 23 a150 a152 fun t153=>
 ld 93 t153 h148 fun t154=>
 kOR (vAlloc y 93 h148) fun t155 h156=>
 kOR (vStore y 93 t155 t154 h156) fun t157 h158=>
 ld 93 t155 h158 fun t159=>
 K c 46 [t159,a149] h158 fun t160 h161=>
 ob (vUn .not t160) fun t162=>
 ob (GV.asB t162) fun q163=>jn (bC q163 (oN [a149,a150,a151,a152] h161) (oR [(i 6)] h161)) fun vs164 h165=>U4 vs164 fun a166 a167 a168 a169=>oN [a166,a167,a168,a169] h165)) fun vs170 h171=>U4 vs170 fun a172 a173 a174 a175=>bn .add 3 a175 (i 1) fun t176=>
 oN [a172,a173,a174,t176] h171) (ql 3)
def B31 (c:CH) (ql:QH) (us:List GV) (H:GH):RS:=U2 us fun x1 x2=>
 jn (nB 0 (ql 4 [x1,x2] H)) fun vs3 h4=>U1 vs3 fun a5=>oR [a5] h4
def L4 (c:CH) (ql:QH) (us:List GV) (H:GH):RS:=U2 us fun a6 a7=>jn (ln 9 a6 fun t8=>
 bn .lss 3 a7 t8 fun t9=>
 ob (GV.asB t9) fun q10=>jn (bC q10 (oX 0 [a7] H) (oN [a6,a7] H)) fun vs11 h12=>U2 vs11 fun a13 a14=>jn (nB 1 (ob (vAt y 9 a13 a14) fun t15=>
 jn (nB 2 (bn .eql 5 t15 (.int .u8 (.ofNat 32)) fun t16=>
 ob (GV.asB t16) fun q17=>jn (bC q17 (bn .eql 5 t15 (.int .u8 (.ofNat 9)) fun t18=>
 ob (GV.asB t18) fun q19=>jn (bC q19 (bn .eql 5 t15 (.int .u8 (.ofNat 10)) fun t20=>
 ob (GV.asB t20) fun q21=>jn (bC q21 (bn .eql 5 t15 (.int .u8 (.ofNat 13)) fun t22=>
 oN [a13,a14,t15,t22] h12) (oN [a13,a14,t15,t20] h12)) fun vs23 h24=>U4 vs23 fun a25 a26 a27 a28=>oN [a25,a26,a27,a28] h24) (oN [a13,a14,t15,t18] h12)) fun vs29 h30=>U4 vs29 fun a31 a32 a33 a34=>oN [a31,a32,a33,a34] h30) (oN [a13,a14,t15,t16] h12)) fun vs35 h36=>U4 vs35 fun a37 a38 a39 a40=>ob (GV.asB a40) fun q41=>jn (bC q41 (bn .eql 5 a39 (.int .u8 (.ofNat 35)) fun t43=>
 ob (GV.asB t43) fun q44=>jn (bC q44 (oR [a38] h36) (jn (nB 3 (ql 5 [a37,a38] h36)) fun vs45 h46=>U2 vs45 fun a47 a48=>oN [a47,a48] h46)) fun vs49 h50=>U2 vs49 fun a51 a52=>oN [a51,a52] h50) (bn .add 3 a38 (i 1) fun t42=>
 oN [a37,t42] h36)) fun vs53 h54=>U2 vs53 fun a55 a56=>oN [a55,a56] h54)) fun vs57 h58=>U2 vs57 fun a59 a60=>oN [a59,a60] h58)) fun vs61 h62=>U2 vs61 fun a63 a64=>oN [a63,a64] h62) (ql 4)
def L5 (c:CH) (ql:QH) (us:List GV) (H:GH):RS:=U2 us fun a65 a66=>jn (ln 9 a65 fun t67=>
 bn .lss 3 a66 t67 fun t68=>
 kOR (rG t68 true H (some (a65,H))) fun t69 h70=>
 kOR (rG t68 true h70 (some (a66,h70))) fun t71 h72=>
 kOR (rG t68 true h72 (ob (vAt y 9 t69 t71) fun g73=>some (g73,h72))) fun t74 h75=>
 kOR (rG t68 true h75 (ob (vBin y .neq 5 t74 (.int .u8 (.ofNat 10))) fun g76=>some (g76,h75))) fun t77 h78=>
 ob (vPick t68 t77 (.bool false)) fun t79=>
 ob (GV.asB t79) fun q80=>jn (bC q80 (oX 3 [a65,a66] h78) (oN [a65,a66] h78)) fun vs81 h82=>U2 vs81 fun a83 a84=>jn (nB 4 (bn .add 3 a84 (i 1) fun t85=>
 oN [a83,t85] h82)) fun vs86 h87=>U2 vs86 fun a88 a89=>oN [a88,a89] h87) (ql 5)
def B32 (c:CH) (ql:QH) (us:List GV) (H:GH):RS:=U2 us fun x1 x2=>
 kOR (vBox x1 H) fun t3 h4=>
 kOR (vBox x2 h4) fun t5 h6=>
 kOR (vAlloc y 77 h6) fun t7 h8=>
 ld 9 t3 h8 fun t9=>
 ld 3 t5 h8 fun t10=>
 ob (vAt y 9 t9 t10) fun t11=>
 jn (nB 0 (K c 65 [t11] h8 fun t12 h13=>
 ob (GV.asB t12) fun q14=>jn (bC q14 (K c 67 [t11] h13 fun t38 h39=>
 ob (GV.asB t38) fun q40=>jn (bC q40 (oN [t3,t5,t7] h39) (ob (GV.asF (.fn 64 [] [t5,t3])) fun p43=>kOR (c p43.1 (p43.2.1++[(.fn 67 [] [])]++p43.2.2) h39) fun t41 h42=>
 ld 9 t3 h42 fun t44=>
 ld 3 t5 h42 fun t45=>
 ob (vSlice y 9 t44 (some t45) (some t41) h42) fun t46=>
 K c 68 [t46] h42 fun t47 h48=>
 ex 0 t47 fun t49=>
 ex 1 t47 fun t50=>
 ob (vUn .not t50) fun t51=>
 ob (GV.asB t51) fun q52=>jn (bC q52 (oN [t5,t7,t41,t49] h48) (bd 77 [] fun t53=>
 kOR (vStore y 77 t7 t53 h48) fun t54 h55=>
 ob (ob (vLoad y 77 t7 h55) fun r56=>some [r56,(i 2)]) fun vs57=>oR vs57 h55)) fun vs58 h59=>U4 vs58 fun a60 a61 a62 a63=>ld 3 a60 h59 fun t64=>
 bd 77 [(0,(i 2)),(1,t64),(2,a62),(3,a63)] fun t65=>
 kOR (vStore y 77 a61 t65 h59) fun t66 h67=>
 ob (ob (vLoad y 77 a61 h67) fun r68=>some [r68,(i 0)]) fun vs69=>oR vs69 h67)) fun vs70 h71=>U3 vs70 fun a72 a73 a74=>oN [a72,a73,a74] h71) (ob (GV.asF (.fn 64 [] [t5,t3])) fun p17=>kOR (c p17.1 (p17.2.1++[(.fn 66 [] [])]++p17.2.2) h13) fun t15 h16=>
 ld 3 t5 h16 fun t18=>
 bn .sub 3 t15 t18 fun t19=>
 bn .gtr 3 t19 (i 24) fun t20=>
 ob (GV.asB t20) fun q21=>jn (bC q21 (oN [t5,t7,t15] h16) (bd 77 [] fun t22=>
 kOR (vStore y 77 t7 t22 h16) fun t23 h24=>
 ob (ob (vLoad y 77 t7 h24) fun r25=>some [r25,(i 5)]) fun vs26=>oR vs26 h24)) fun vs27 h28=>U3 vs27 fun a29 a30 a31=>ld 3 a29 h28 fun t32=>
 bd 77 [(0,(i 1)),(1,t32),(2,a31)] fun t33=>
 kOR (vStore y 77 a30 t33 h28) fun t34 h35=>
 ob (ob (vLoad y 77 a30 h35) fun r36=>some [r36,(i 0)]) fun vs37=>oR vs37 h35)) fun vs75 h76=>U3 vs75 fun a77 a78 a79=>oN [a77,a78,a79] h76)) fun vs80 h81=>U3 vs80 fun a82 a83 a84=>ld 9 a82 h81 fun t85=>
 ld 3 a83 h81 fun t86=>
 ob (vSlice y 9 t85 (some t86) none h81) fun t87=>
 K c 69 [t87] h81 fun t88 h89=>
 bn .eql 3 t88 (i 0) fun t90=>
 ob (GV.asB t90) fun q91=>jn (bC q91 (oN [a83,a84,t88] h89) (bd 77 [] fun t92=>
 kOR (vStore y 77 a84 t92 h89) fun t93 h94=>
 ob (ob (vLoad y 77 a84 h94) fun r95=>some [r95,(i 4)]) fun vs96=>oR vs96 h94)) fun vs97 h98=>U3 vs97 fun a99 a100 a101=>ld 3 a99 h98 fun t102=>
 ld 3 a99 h98 fun t103=>
 bn .add 3 t103 a101 fun t104=>
 bd 77 [(0,(i 3)),(1,t102),(2,t104)] fun t105=>
 kOR (vStore y 77 a100 t105 h98) fun t106 h107=>
 ob (ob (vLoad y 77 a100 h107) fun r108=>some [r108,(i 0)]) fun vs109=>oR vs109 h107
def B36 (c:CH) (ql:QH) (us:List GV) (H:GH):RS:=U2 us fun x1 x2=>
 ob (GV.nilck x1) fun t3=>
 fd 44 0 t3 fun t4=>
 K c 71 [t4] H fun t5 h6=>
 ob (GV.nilck x1) fun t7=>
 fd 44 0 t7 fun t8=>
 K c 72 [t8] h6 fun t9 h10=>
 bn .neq 3 t9 (i 1) fun t11=>
 kOR (rG t11 false h10 (some (t5,h10))) fun t12 h13=>
 kOR (rG t11 false h13 (kOR (c 73 [t12] h13) orK)) fun t14 h15=>
 kOR (rG t11 false h15 (ob (vUn .not t14) fun g16=>some (g16,h15))) fun t17 h18=>
 ob (vPick t11 (.bool true) t17) fun t19=>
 ob (GV.asB t19) fun q20=>jn (bC q20 (oN [x1,x2,t5] h18) (ob (GV.nilck x1) fun t21=>
 fd 44 0 t21 fun t22=>
 K c 41 [t22,(i 4)] h18 fun t23 h24=>
 oN [x1,x2,t5] h24)) fun vs25 h26=>U3 vs25 fun a27 a28 a29=>ln 40 a28 fun t30=>
 jn (nB 0 (ql 6 [a27,a29,a28,t30,(i 0)] h26)) fun vs31 h32=>U2 vs31 fun a33 a34=>ob (GV.nilck a33) fun t35=>
 fd 44 0 t35 fun t36=>
 K c 74 [t36] h32 fun t37 h38=>
 oR [a34] h38
def L6 (c:CH) (ql:QH) (us:List GV) (H:GH):RS:=U5 us fun a39 a40 a41 a42 a43=>jn (bn .lss 3 a43 a42 fun t44=>
 ob (GV.asB t44) fun q45=>jn (bC q45 (oX 0 [a39,a40] H) (oN [a39,a40,a41,a42,a43] H)) fun vs46 h47=>U5 vs46 fun a48 a49 a50 a51 a52=>jn (nB 1 (ix 40 a50 a52 fun t53=>
 ld 9 t53 h47 fun t54=>
 bn .eql 9 t54 a49 fun t55=>
 ob (GV.asB t55) fun q56=>jn (bC q56 (oN [a48,a49,a50,a51,a52] h47) (ob (GV.nilck a48) fun t57=>
 fd 44 0 t57 fun t58=>
 K c 41 [t58,(i 5)] h47 fun t59 h60=>
 oN [a48,a49,a50,a51,a52] h60)) fun vs61 h62=>U5 vs61 fun a63 a64 a65 a66 a67=>oN [a63,a64,a65,a66,a67] h62)) fun vs68 h69=>U5 vs68 fun a70 a71 a72 a73 a74=>bn .add 3 a74 (i 1) fun t75=>
 oN [a70,a71,a72,a73,t75] h69) (ql 6)
def B37 (c:CH) (ql:QH) (us:List GV) (H:GH):RS:=U4 us fun x1 x2 x3 x4=>
 jn (nB 0 (ql 7 [x1,x2,x3,x4,(i 0)] H)) fun vs5 h6=>U0 vs5 (oR [] h6)
def L7 (c:CH) (ql:QH) (us:List GV) (H:GH):RS:=U5 us fun a7 a8 a9 a10 a11=>jn (ob (GV.nilck a7) fun t12=>
 fd 44 0 t12 fun t13=>
 K c 71 [t13] H fun t14 h15=>
 bn .eql 9 t14 a8 fun t16=>
 ob (GV.asB t16) fun q17=>jn (bC q17 (oX 0 [] h15) (oN [a7,a8,a9,a10,a11] h15)) fun vs18 h19=>U5 vs18 fun a20 a21 a22 a23 a24=>jn (nB 1 (bn .eql 3 a24 a22 fun t25=>
 ob (GV.asB t25) fun q26=>jn (bC q26 (oN [a20,a21,a22,a23,a24] h19) (ob (GV.nilck a20) fun t27=>
 fd 44 0 t27 fun t28=>
 K c 41 [t28,(i 3)] h19 fun t29 h30=>
 oN [a20,a21,a22,a23,a24] h30)) fun vs31 h32=>U5 vs31 fun a33 a34 a35 a36 a37=>ob (GV.nilck a33) fun t38=>
 fd 44 0 t38 fun t39=>
 K c 74 [t39] h32 fun t40 h41=>
 ob (GV.asF a36) fun p44=>kOR (c p44.1 (p44.2.1++[]++p44.2.2) h41) fun t42 h43=>
 oN [a33,a34,a35,a36,a37] h43)) fun vs45 h46=>U5 vs45 fun a47 a48 a49 a50 a51=>bn .add 3 a51 (i 1) fun t52=>
 oN [a47,a48,a49,a50,t52] h46) (ql 7)
def B39 (c:CH) (ql:QH) (us:List GV) (H:GH):RS:=U1 us fun x1=>
 ob (GV.nilck x1) fun t2=>
 fd 44 2 t2 fun t3=>
 ld 40 t3 H fun t4=>
 K c 36 [x1,t4] H fun t5 h6=>
 bd 93 [(0,t5)] fun t7=>
 kOR (vAlloc y 93 h6) fun t8 h9=>
 kOR (vStore y 93 t8 t7 h9) fun t10 h11=>
 ob (GV.nilck x1) fun t12=>
 fd 44 2 t12 fun t13=>
 ld 40 t13 h11 fun t14=>
 ob (Option.casesOn (motive:=fun _=>Option (Option (Nat×Nat))) (ob (GV.asP t13) fun p=>some p.1) (some none) fun k16=>ob (GH.ver h11 k16) fun k17=>some (some (k16,k17))) fun e15=>
 fd 93 0 t8 fun t18=>
 ld 9 t18 h11 fun t19=>
 ob (Option.casesOn (motive:=fun _=>Option (Option (Nat×Nat))) (ob (GV.asP t18) fun p=>some p.1) (some none) fun k21=>ob (GH.ver h11 k21) fun k22=>some (some (k21,k22))) fun e20=>
 kOR (vBuildS y 40 1 [(0,t19)] h11) fun t23 h24=>
 ob (pck h24 e15 (some ())) fun _=>
 kOR (vApp y 40 40 t14 t23 h24) fun t25 h26=>
 ob (some ()) fun _=>
 ob (GV.nilck x1) fun t27=>
 fd 44 2 t27 fun t28=>
 kOR (vStore y 40 t28 t25 h26) fun t29 h30=>
 ob (some ()) fun _=>
 ob (GV.nilck x1) fun t31=>
 fd 44 0 t31 fun t32=>
 K c 35 [t32,(.str 58 1)] h30 fun t33 h34=>
 ob (GV.nilck x1) fun t35=>
 fd 44 0 t35 fun t36=>
 K c 77 [t36] h34 fun t37 h38=>
 fd 93 1 t8 fun t39=>
 kOR (vStore y 90 t39 t37 h38) fun t40 h41=>
 ob (GV.nilck x1) fun t42=>
 fd 44 0 t42 fun t43=>
 K c 35 [t43,(.str 15917 2)] h41 fun t44 h45=>
 jn (nB 0 (ql 8 [x1,t8] h45)) fun vs46 h47=>U2 vs46 fun a48 a49=>ob (GV.nilck a48) fun t50=>
 fd 44 0 t50 fun t51=>
 K c 35 [t51,(.str 59 1)] h47 fun t52 h53=>
 ob (GV.nilck a48) fun t54=>
 fd 44 1 t54 fun t55=>
 fd 25 2 t55 fun t56=>
 ld 23 t56 h53 fun t57=>
 ob (Option.casesOn (motive:=fun _=>Option (Option (Nat×Nat))) (ob (GV.asP t56) fun p=>some p.1) (some none) fun k59=>ob (GH.ver h53 k59) fun k60=>some (some (k59,k60))) fun e58=>
 ld 93 a49 h53 fun t61=>
 ob (Option.casesOn (motive:=fun _=>Option (Option (Nat×Nat))) (ob (GV.asP a49) fun p=>some p.1) (some none) fun k63=>ob (GH.ver h53 k63) fun k64=>some (some (k63,k64))) fun e62=>
 kOR (vBuildS y 23 1 [(0,t61)] h53) fun t65 h66=>
 ob (pck h66 e58 (some ())) fun _=>
 kOR (vApp y 23 23 t57 t65 h66) fun t67 h68=>
 ob (some ()) fun _=>
 ob (GV.nilck a48) fun t69=>
 fd 44 1 t69 fun t70=>
 fd 25 2 t70 fun t71=>
 kOR (vStore y 23 t71 t67 h68) fun t72 h73=>
 ob (some ()) fun _=>
 oR [] h73
def L8 (c:CH) (ql:QH) (us:List GV) (H:GH):RS:=U2 us fun a74 a75=>jn (jn (nB 1 (ob (GV.nilck a74) fun t76=>
 fd 44 0 t76 fun t77=>
 K c 78 [t77] H fun t78 h79=>
 bd 123 [(0,t78)] fun t80=>
 kOR (vAlloc y 123 h79) fun t81 h82=>
 kOR (vStore y 123 t81 t80 h82) fun t83 h84=>
 ob (GV.nilck a74) fun t85=>
 fd 44 0 t85 fun t86=>
 K c 35 [t86,(.str 15674 2)] h84 fun t87 h88=>
 ob (GV.nilck a74) fun t89=>
 fd 44 0 t89 fun t90=>
 K c 77 [t90] h88 fun t91 h92=>
 fd 123 1 t81 fun t93=>
 kOR (vStore y 90 t93 t91 h92) fun t94 h95=>
 fd 93 2 a75 fun t96=>
 ld 91 t96 h95 fun t97=>
 ld 123 t81 h95 fun t98=>
 kOR (vBuildS y 91 1 [(0,t98)] h95) fun t99 h100=>
 kOR (vApp y 91 91 t97 t99 h100) fun t101 h102=>
 fd 93 2 a75 fun t103=>
 kOR (vStore y 91 t103 t101 h102) fun t104 h105=>
 ob (GV.nilck a74) fun t106=>
 fd 44 0 t106 fun t107=>
 K c 70 [t107,(.str 44 1)] h105 fun t108 h109=>
 ob (vUn .not t108) fun t110=>
 ob (GV.asB t110) fun q111=>jn (bC q111 (oN [a74,a75] h109) (oX 0 [a74,a75] h109)) fun vs112 h113=>U2 vs112 fun a114 a115=>oN [a114,a115] h113)) fun vs116 h117=>U2 vs116 fun a118 a119=>oN [a118,a119] h117) (ql 8)
def B42 (c:CH) (ql:QH) (us:List GV) (H:GH):RS:=U1 us fun x1=>
 kOR (vBox x1 H) fun t2 h3=>
 fd 25 0 t2 fun t4=>
 ld 9 t4 h3 fun t5=>
 K c 73 [t5] h3 fun t6 h7=>
 ob (vUn .not t6) fun t8=>
 ob (GV.asB t8) fun q9=>jn (bC q9 (oN [t2] h7) (oR [(.bool false)] h7)) fun vs10 h11=>U1 vs10 fun a12=>kOR (vMakeMap h11) fun t13 h14=>
 fd 25 1 a12 fun t15=>
 ld 22 t15 h14 fun t16=>
 ln 22 t16 fun t17=>
 jn (nB 0 (ql 9 [a12,t13,t16,t17,(i 0)] h14)) fun vs18 h19=>U1 vs18 fun a20=>kOR (vMakeMap h19) fun t21 h22=>
 fd 25 2 a20 fun t23=>
 ld 23 t23 h22 fun t24=>
 ln 23 t24 fun t25=>
 jn (nB 2 (ql 10 [t21,t24,t25,(i 0)] h22)) fun vs26 h27=>U0 vs26 (oR [(.bool true)] h27)
def L9 (c:CH) (ql:QH) (us:List GV) (H:GH):RS:=U5 us fun a28 a29 a30 a31 a32=>jn (bn .lss 3 a32 a31 fun t33=>
 ob (GV.asB t33) fun q34=>jn (bC q34 (oX 0 [a28] H) (oN [a28,a29,a30,a31,a32] H)) fun vs35 h36=>U5 vs35 fun a37 a38 a39 a40 a41=>jn (nB 1 (ix 22 a39 a41 fun t42=>
 ld 33 t42 h36 fun t43=>
 kOR (vAlloc y 33 h36) fun t44 h45=>
 kOR (vStore y 33 t44 t43 h45) fun t46 h47=>
 fd 33 0 t44 fun t48=>
 ld 9 t48 h47 fun t49=>
 K c 73 [t49] h47 fun t50 h51=>
 ob (vUn .not t50) fun t52=>
 kOR (rG t52 false h51 (some (a38,h51))) fun t53 h54=>
 kOR (rG t52 false h54 (ob (vField y 33 0 t44) fun g55=>some (g55,h54))) fun t56 h57=>
 kOR (rG t52 false h57 (ob (vLoad y 9 t56 h57) fun g58=>some (g58,h57))) fun t59 h60=>
 kOR (rG t52 false h60 (ob (vLook y 124 false t53 t59 h60) fun g61=>some (g61,h60))) fun t62 h63=>
 ob (vPick t52 (.bool true) t62) fun t64=>
 ob (GV.asB t64) fun q65=>jn (bC q65 (oN [a37,a38,t44,a39,a40,a41] h63) (oR [(.bool false)] h63)) fun vs66 h67=>U6 vs66 fun a68 a69 a70 a71 a72 a73=>fd 33 0 a70 fun t74=>
 ld 9 t74 h67 fun t75=>
 kOR (vMapUp y 124 a69 t75 (.bool true) h67) fun t76 h77=>
 oN [a68,a69,a71,a72,a73] h77)) fun vs78 h79=>U5 vs78 fun a80 a81 a82 a83 a84=>bn .add 3 a84 (i 1) fun t85=>
 oN [a80,a81,a82,a83,t85] h79) (ql 9)
def L10 (c:CH) (ql:QH) (us:List GV) (H:GH):RS:=U4 us fun a86 a87 a88 a89=>jn (bn .lss 3 a89 a88 fun t90=>
 ob (GV.asB t90) fun q91=>jn (bC q91 (oX 2 [] H) (oN [a86,a87,a88,a89] H)) fun vs92 h93=>U4 vs92 fun a94 a95 a96 a97=>jn (nB 3 (ix 23 a95 a97 fun t98=>
 ld 93 t98 h93 fun t99=>
 kOR (vAlloc y 93 h93) fun t100 h101=>
 kOR (vStore y 93 t100 t99 h101) fun t102 h103=>
 fd 93 0 t100 fun t104=>
 ld 9 t104 h103 fun t105=>
 K c 73 [t105] h103 fun t106 h107=>
 ob (vUn .not t106) fun t108=>
 kOR (rG t108 false h107 (some (a94,h107))) fun t109 h110=>
 kOR (rG t108 false h110 (ob (vField y 93 0 t100) fun g111=>some (g111,h110))) fun t112 h113=>
 kOR (rG t108 false h113 (ob (vLoad y 9 t112 h113) fun g114=>some (g114,h113))) fun t115 h116=>
 kOR (rG t108 false h116 (ob (vLook y 124 false t109 t115 h116) fun g117=>some (g117,h116))) fun t118 h119=>
 ob (vPick t108 (.bool true) t118) fun t120=>
 ob (GV.asB t120) fun q121=>jn (bC q121 (oN [a94,t100,a95,a96,a97] h119) (oR [(.bool false)] h119)) fun vs122 h123=>U5 vs122 fun a124 a125 a126 a127 a128=>fd 93 0 a125 fun t129=>
 ld 9 t129 h123 fun t130=>
 kOR (vMapUp y 124 a124 t130 (.bool true) h123) fun t131 h132=>
 oN [a124,a126,a127,a128] h132)) fun vs133 h134=>U4 vs133 fun a135 a136 a137 a138=>bn .add 3 a138 (i 1) fun t139=>
 oN [a135,a136,a137,t139] h134) (ql 10)
def B44 (c:CH) (ql:QH) (us:List GV) (H:GH):RS:=U2 us fun x1 x2=>
 kOR (vBox x1 H) fun t3 h4=>
 fd 93 2 t3 fun t5=>
 ld 91 t5 h4 fun t6=>
 ln 91 t6 fun t7=>
 bn .eql 3 t7 (i 0) fun t8=>
 kOR (rG t8 false h4 (ob (vField y 93 2 t3) fun g9=>some (g9,h4))) fun t10 h11=>
 kOR (rG t8 false h11 (ob (vLoad y 91 t10 h11) fun g12=>some (g12,h11))) fun t13 h14=>
 kOR (rG t8 false h14 (ob (vLen y 91 t13) fun g15=>some (g15,h14))) fun t16 h17=>
 kOR (rG t8 false h17 (ob (vBin y .gtr 3 t16 (i 6)) fun g18=>some (g18,h17))) fun t19 h20=>
 ob (vPick t8 (.bool true) t19) fun t21=>
 kOR (rG t21 false h20 (ob (vField y 93 1 t3) fun g22=>some (g22,h20))) fun t23 h24=>
 kOR (rG t21 false h24 (ob (vLoad y 90 t23 h24) fun g25=>some (g25,h24))) fun t26 h27=>
 kOR (rG t21 false h27 (some (x2,h27))) fun t28 h29=>
 kOR (rG t21 false h29 (kOR (c 81 [t26,t28] h29) orK)) fun t30 h31=>
 kOR (rG t21 false h31 (ob (vUn .not t30) fun g32=>some (g32,h31))) fun t33 h34=>
 ob (vPick t21 (.bool true) t33) fun t35=>
 ob (GV.asB t35) fun q36=>jn (bC q36 (oN [x2,t3] h34) (oR [(.bool false)] h34)) fun vs37 h38=>U2 vs37 fun a39 a40=>kOR (vMakeMap h38) fun t41 h42=>
 fd 93 2 a40 fun t43=>
 ld 91 t43 h42 fun t44=>
 ln 91 t44 fun t45=>
 jn (nB 0 (ql 11 [a39,t41,t44,t45,(i 0)] h42)) fun vs46 h47=>U0 vs46 (oR [(.bool true)] h47)
def L11 (c:CH) (ql:QH) (us:List GV) (H:GH):RS:=U5 us fun a48 a49 a50 a51 a52=>jn (bn .lss 3 a52 a51 fun t53=>
 ob (GV.asB t53) fun q54=>jn (bC q54 (oX 0 [] H) (oN [a48,a49,a50,a51,a52] H)) fun vs55 h56=>U5 vs55 fun a57 a58 a59 a60 a61=>jn (nB 1 (ix 91 a59 a61 fun t62=>
 ld 123 t62 h56 fun t63=>
 kOR (vAlloc y 123 h56) fun t64 h65=>
 kOR (vStore y 123 t64 t63 h65) fun t66 h67=>
 fd 123 0 t64 fun t68=>
 ld 3 t68 h67 fun t69=>
 bn .sub 3 a57 (i 1) fun t70=>
 K c 80 [t69,(i 0),t70] h67 fun t71 h72=>
 ob (vUn .not t71) fun t73=>
 kOR (rG t73 false h72 (some (a58,h72))) fun t74 h75=>
 kOR (rG t73 false h75 (ob (vField y 123 0 t64) fun g76=>some (g76,h75))) fun t77 h78=>
 kOR (rG t73 false h78 (ob (vLoad y 3 t77 h78) fun g79=>some (g79,h78))) fun t80 h81=>
 kOR (rG t73 false h81 (ob (vLook y 127 false t74 t80 h81) fun g82=>some (g82,h81))) fun t83 h84=>
 ob (vPick t73 (.bool true) t83) fun t85=>
 kOR (rG t85 false h84 (ob (vField y 123 1 t64) fun g86=>some (g86,h84))) fun t87 h88=>
 kOR (rG t85 false h88 (ob (vLoad y 90 t87 h88) fun g89=>some (g89,h88))) fun t90 h91=>
 kOR (rG t85 false h91 (some (a57,h91))) fun t92 h93=>
 kOR (rG t85 false h93 (kOR (c 81 [t90,t92] h93) orK)) fun t94 h95=>
 kOR (rG t85 false h95 (ob (vUn .not t94) fun g96=>some (g96,h95))) fun t97 h98=>
 ob (vPick t85 (.bool true) t97) fun t99=>
 ob (GV.asB t99) fun q100=>jn (bC q100 (oN [a57,a58,t64,a59,a60,a61] h98) (oR [(.bool false)] h98)) fun vs101 h102=>U6 vs101 fun a103 a104 a105 a106 a107 a108=>fd 123 0 a105 fun t109=>
 ld 3 t109 h102 fun t110=>
 kOR (vMapUp y 127 a104 t110 (.bool true) h102) fun t111 h112=>
 oN [a103,a104,a106,a107,a108] h112)) fun vs113 h114=>U5 vs113 fun a115 a116 a117 a118 a119=>bn .add 3 a119 (i 1) fun t120=>
 oN [a115,a116,a117,a118,t120] h114) (ql 11)
def B45 (c:CH) (ql:QH) (us:List GV) (H:GH):RS:=U1 us fun x1=>
 kOR (vBox x1 H) fun t2 h3=>
 fd 25 1 t2 fun t4=>
 ld 22 t4 h3 fun t5=>
 ln 22 t5 fun t6=>
 kOR (vMake y 50 t6 t6 h3) fun t7 h8=>
 fd 25 1 t2 fun t9=>
 ld 22 t9 h8 fun t10=>
 ln 22 t10 fun t11=>
 jn (nB 0 (ql 12 [t7,t10,t11,(i 0)] h8)) fun vs12 h13=>U1 vs12 fun a14=>oR [a14] h13
def L12 (c:CH) (ql:QH) (us:List GV) (H:GH):RS:=U4 us fun a15 a16 a17 a18=>jn (bn .lss 3 a18 a17 fun t19=>
 ob (GV.asB t19) fun q20=>jn (bC q20 (oX 0 [a15] H) (oN [a15,a16,a17,a18] H)) fun vs21 h22=>U4 vs21 fun a23 a24 a25 a26=>jn (nB 1 (ix 22 a24 a26 fun t27=>
 ld 33 t27 h22 fun t28=>
 kOR (vAlloc y 33 h22) fun t29 h30=>
 kOR (vStore y 33 t29 t28 h30) fun t31 h32=>
 fd 33 1 t29 fun t33=>
 ld 3 t33 h32 fun t34=>
 ix 50 a23 a26 fun t35=>
 kOR (vStore y 3 t35 t34 h32) fun t36 h37=>
 oN [a23,a24,a25,a26] h37)) fun vs38 h39=>U4 vs38 fun a40 a41 a42 a43=>bn .add 3 a43 (i 1) fun t44=>
 oN [a40,a41,a42,t44] h39) (ql 12)
def B46 (c:CH) (ql:QH) (us:List GV) (H:GH):RS:=U2 us fun x1 x2=>
 kOR (vBox x1 H) fun t3 h4=>
 fd 93 1 t3 fun t5=>
 ld 90 t5 h4 fun t6=>
 K c 82 [t6,x2,(.bool false)] h4 fun t7 h8=>
 ex 0 t7 fun t9=>
 ex 1 t7 fun t10=>
 bn .neq 3 t9 (i 2) fun t11=>
 ob (GV.asB t11) fun q12=>jn (bC q12 (oN [x2,t3] h8) (oR [(.bool false)] h8)) fun vs13 h14=>U2 vs13 fun a15 a16=>fd 93 2 a16 fun t17=>
 ld 91 t17 h14 fun t18=>
 ln 91 t18 fun t19=>
 jn (nB 0 (ql 13 [a15,t18,t19,(i 0)] h14)) fun vs20 h21=>U0 vs20 (oR [(.bool true)] h21)
def L13 (c:CH) (ql:QH) (us:List GV) (H:GH):RS:=U4 us fun a22 a23 a24 a25=>jn (bn .lss 3 a25 a24 fun t26=>
 ob (GV.asB t26) fun q27=>jn (bC q27 (oX 0 [] H) (oN [a22,a23,a24,a25] H)) fun vs28 h29=>U4 vs28 fun a30 a31 a32 a33=>jn (nB 1 (ix 91 a31 a33 fun t34=>
 ld 123 t34 h29 fun t35=>
 kOR (vAlloc y 123 h29) fun t36 h37=>
 kOR (vStore y 123 t36 t35 h37) fun t38 h39=>
 fd 123 1 t36 fun t40=>
 ld 90 t40 h39 fun t41=>
 K c 82 [t41,a30,(.bool false)] h39 fun t42 h43=>
 ex 0 t42 fun t44=>
 ex 1 t42 fun t45=>
 fd 123 0 t36 fun t46=>
 ld 3 t46 h43 fun t47=>
 ix 50 a30 t47 fun t48=>
 ld 3 t48 h43 fun t49=>
 bn .neq 3 t44 t49 fun t50=>
 ob (GV.asB t50) fun q51=>jn (bC q51 (oN [a30,a31,a32,a33] h43) (oR [(.bool false)] h43)) fun vs52 h53=>U4 vs52 fun a54 a55 a56 a57=>oN [a54,a55,a56,a57] h53)) fun vs58 h59=>U4 vs58 fun a60 a61 a62 a63=>bn .add 3 a63 (i 1) fun t64=>
 oN [a60,a61,a62,t64] h59) (ql 13)
def B64 (c:CH) (ql:QH) (us:List GV) (H:GH):RS:=U3 us fun x1 x2 x3=>
 ld 3 x2 H fun t4=>
 jn (nB 0 (ql 14 [x1,x3,t4] H)) fun vs5 h6=>U1 vs5 fun a7=>oR [a7] h6
def L14 (c:CH) (ql:QH) (us:List GV) (H:GH):RS:=U3 us fun a8 a9 a10=>jn (ld 9 a9 H fun t11=>
 ln 9 t11 fun t12=>
 bn .lss 3 a10 t12 fun t13=>
 kOR (rG t13 true H (some (a8,H))) fun t14 h15=>
 kOR (rG t13 true h15 (ob (vLoad y 9 a9 h15) fun g16=>some (g16,h15))) fun t17 h18=>
 kOR (rG t13 true h18 (some (a10,h18))) fun t19 h20=>
 kOR (rG t13 true h20 (ob (vAt y 9 t17 t19) fun g21=>some (g21,h20))) fun t22 h23=>
 kOR (rG t13 true h23 (ob (GV.asF t14) fun p24=>kOR (c p24.1 (p24.2.1++[t22]++p24.2.2) h23) orK)) fun t25 h26=>
 ob (vPick t13 t25 (.bool false)) fun t27=>
 ob (GV.asB t27) fun q28=>jn (bC q28 (oX 0 [a10] h26) (oN [a8,a9,a10] h26)) fun vs29 h30=>U3 vs29 fun a31 a32 a33=>jn (nB 1 (bn .add 3 a33 (i 1) fun t34=>
 oN [a31,a32,t34] h30)) fun vs35 h36=>U3 vs35 fun a37 a38 a39=>oN [a37,a38,a39] h36) (ql 14)
def B65 (c:CH) (ql:QH) (us:List GV) (H:GH):RS:=U1 us fun x1=>
 bn .geq 5 x1 (.int .u8 (.ofNat 97)) fun t2=>
 kOR (rG t2 true H (some (x1,H))) fun t3 h4=>
 kOR (rG t2 true h4 (ob (vBin y .leq 5 t3 (.int .u8 (.ofNat 122))) fun g5=>some (g5,h4))) fun t6 h7=>
 ob (vPick t2 t6 (.bool false)) fun t8=>
 kOR (rG t8 false h7 (some (x1,h7))) fun t9 h10=>
 kOR (rG t8 false h10 (ob (vBin y .geq 5 t9 (.int .u8 (.ofNat 65))) fun g11=>some (g11,h10))) fun t12 h13=>
 kOR (rG t8 false h13 (some (t12,h13))) fun t14 h15=>
 kOR (rG t14 true h15 (some (x1,h15))) fun t16 h17=>
 kOR (rG t14 true h17 (ob (vBin y .leq 5 t16 (.int .u8 (.ofNat 90))) fun g18=>some (g18,h17))) fun t19 h20=>
 kOR (rG t8 false h20 (ob (vPick t14 t19 (.bool false)) fun g21=>some (g21,h20))) fun t22 h23=>
 ob (vPick t8 (.bool true) t22) fun t24=>
 oR [t24] h23
def B66 (c:CH) (ql:QH) (us:List GV) (H:GH):RS:=U1 us fun x1=>
 K c 65 [x1] H fun t2 h3=>
 kOR (rG t2 false h3 (some (x1,h3))) fun t4 h5=>
 kOR (rG t2 false h5 (kOR (c 67 [t4] h5) orK)) fun t6 h7=>
 ob (vPick t2 (.bool true) t6) fun t8=>
 kOR (rG t8 false h7 (some (x1,h7))) fun t9 h10=>
 kOR (rG t8 false h10 (ob (vBin y .eql 5 t9 (.int .u8 (.ofNat 95))) fun g11=>some (g11,h10))) fun t12 h13=>
 ob (vPick t8 (.bool true) t12) fun t14=>
 oR [t14] h13
def B67 (c:CH) (ql:QH) (us:List GV) (H:GH):RS:=U1 us fun x1=>
 bn .geq 5 x1 (.int .u8 (.ofNat 48)) fun t2=>
 kOR (rG t2 true H (some (x1,H))) fun t3 h4=>
 kOR (rG t2 true h4 (ob (vBin y .leq 5 t3 (.int .u8 (.ofNat 57))) fun g5=>some (g5,h4))) fun t6 h7=>
 ob (vPick t2 t6 (.bool false)) fun t8=>
 oR [t8] h7
def B68 (c:CH) (ql:QH) (us:List GV) (H:GH):RS:=U1 us fun x1=>
 ob (vAt y 9 x1 (i 0)) fun t2=>
 bn .eql 5 t2 (.int .u8 (.ofNat 48)) fun t3=>
 kOR (rG t3 true H (some (x1,H))) fun t4 h5=>
 kOR (rG t3 true h5 (ob (vLen y 9 t4) fun g6=>some (g6,h5))) fun t7 h8=>
 kOR (rG t3 true h8 (ob (vBin y .gtr 3 t7 (i 1)) fun g9=>some (g9,h8))) fun t10 h11=>
 ob (vPick t3 t10 (.bool false)) fun t12=>
 ob (GV.asB t12) fun q13=>jn (bC q13 (oN [x1] h11) (oR [(i 0),(.bool false)] h11)) fun vs14 h15=>U1 vs14 fun a16=>ln 9 a16 fun t17=>
 jn (nB 0 (ql 15 [a16,(i 0),t17,(i 0)] h15)) fun vs18 h19=>U1 vs18 fun a20=>oR [a20,(.bool true)] h19
def L15 (c:CH) (ql:QH) (us:List GV) (H:GH):RS:=U4 us fun a21 a22 a23 a24=>jn (bn .lss 3 a24 a23 fun t25=>
 ob (GV.asB t25) fun q26=>jn (bC q26 (oX 0 [a22] H) (oN [a21,a22,a23,a24] H)) fun vs27 h28=>U4 vs27 fun a29 a30 a31 a32=>jn (nB 1 (bn .mul 3 (i 10) a30 fun t33=>
 ob (vAt y 9 a29 a32) fun t34=>
 bn .sub 5 t34 (.int .u8 (.ofNat 48)) fun t35=>
 ob (vConv y 5 3 t35) fun t36=>
 bn .add 3 t33 t36 fun t37=>
 bn .gtr 3 t37 (i 1073741824) fun t38=>
 ob (GV.asB t38) fun q39=>jn (bC q39 (oN [a29,t37,a31,a32] h28) (oR [(i 0),(.bool false)] h28)) fun vs40 h41=>U4 vs40 fun a42 a43 a44 a45=>oN [a42,a43,a44,a45] h41)) fun vs46 h47=>U4 vs46 fun a48 a49 a50 a51=>bn .add 3 a51 (i 1) fun t52=>
 oN [a48,a49,a50,t52] h47) (ql 15)
def B69 (c:CH) (ql:QH) (us:List GV) (H:GH):RS:=U1 us fun x1=>
 kOR (vBuildS y 40 9 [(0,(.str 11822 2)),(1,(.str 15917 2)),(2,(.str 15674 2)),(3,(.str 9766 2)),(4,(.str 31868 2)),(5,(.str 15677 2)),(6,(.str 15649 2)),(7,(.str 15676 2)),(8,(.str 15678 2))] H) fun t2 h3=>
 ln 40 t2 fun t4=>
 jn (nB 0 (ql 16 [x1,t2,t4,(i 0)] h3)) fun vs5 h6=>U1 vs5 fun a7=>ob (vAt y 9 a7 (i 0)) fun t8=>
 K c 105 [(.str 172099982263598878148345807877454395 15),t8] h6 fun t9 h10=>
 bn .geq 3 t9 (i 0) fun t11=>
 ob (GV.asB t11) fun q12=>jn (bC q12 (oN [] h10) (oR [(i 1)] h10)) fun vs13 h14=>U0 vs13 (oR [(i 0)] h14)
def L16 (c:CH) (ql:QH) (us:List GV) (H:GH):RS:=U4 us fun a15 a16 a17 a18=>jn (bn .lss 3 a18 a17 fun t19=>
 ob (GV.asB t19) fun q20=>jn (bC q20 (oX 0 [a15] H) (oN [a15,a16,a17,a18] H)) fun vs21 h22=>U4 vs21 fun a23 a24 a25 a26=>jn (nB 1 (ix 40 a24 a26 fun t27=>
 ld 9 t27 h22 fun t28=>
 K c 104 [a23,t28] h22 fun t29 h30=>
 ob (GV.asB t29) fun q31=>jn (bC q31 (oN [a23,a24,a25,a26] h30) (oR [(i 2)] h30)) fun vs32 h33=>U4 vs32 fun a34 a35 a36 a37=>oN [a34,a35,a36,a37] h33)) fun vs38 h39=>U4 vs38 fun a40 a41 a42 a43=>bn .add 3 a43 (i 1) fun t44=>
 oN [a40,a41,a42,t44] h39) (ql 16)
def B70 (c:CH) (ql:QH) (us:List GV) (H:GH):RS:=U2 us fun x1 x2=>
 K c 71 [x1] H fun t3 h4=>
 bn .neq 9 t3 x2 fun t5=>
 ob (GV.asB t5) fun q6=>jn (bC q6 (oN [x1] h4) (oR [(.bool false)] h4)) fun vs7 h8=>U1 vs7 fun a9=>K c 74 [a9] h8 fun t10 h11=>
 oR [(.bool true)] h11
def B71 (c:CH) (ql:QH) (us:List GV) (H:GH):RS:=U1 us fun x1=>
 ob (GV.nilck x1) fun t2=>
 fd 42 1 t2 fun t3=>
 ld 36 t3 H fun t4=>
 ln 36 t4 fun t5=>
 bn .eql 3 t5 (i 0) fun t6=>
 ob (GV.asB t6) fun q7=>jn (bC q7 (oN [x1] H) (oR [(.str 0 0)] H)) fun vs8 h9=>U1 vs8 fun a10=>ob (GV.nilck a10) fun t11=>
 fd 42 0 t11 fun t12=>
 ld 9 t12 h9 fun t13=>
 ob (GV.nilck a10) fun t14=>
 fd 42 1 t14 fun t15=>
 ld 36 t15 h9 fun t16=>
 ix 36 t16 (i 0) fun t17=>
 fd 77 1 t17 fun t18=>
 ld 3 t18 h9 fun t19=>
 ob (GV.nilck a10) fun t20=>
 fd 42 1 t20 fun t21=>
 ld 36 t21 h9 fun t22=>
 ix 36 t22 (i 0) fun t23=>
 fd 77 2 t23 fun t24=>
 ld 3 t24 h9 fun t25=>
 ob (vSlice y 9 t13 (some t19) (some t25) h9) fun t26=>
 oR [t26] h9
def B72 (c:CH) (ql:QH) (us:List GV) (H:GH):RS:=U1 us fun x1=>
 ob (GV.nilck x1) fun t2=>
 fd 42 1 t2 fun t3=>
 ld 36 t3 H fun t4=>
 ln 36 t4 fun t5=>
 bn .eql 3 t5 (i 0) fun t6=>
 ob (GV.asB t6) fun q7=>jn (bC q7 (oN [x1] H) (oR [(i 0)] H)) fun vs8 h9=>U1 vs8 fun a10=>ob (GV.nilck a10) fun t11=>
 fd 42 1 t11 fun t12=>
 ld 36 t12 h9 fun t13=>
 ix 36 t13 (i 0) fun t14=>
 fd 77 0 t14 fun t15=>
 ld 3 t15 h9 fun t16=>
 oR [t16] h9
def B73 (c:CH) (ql:QH) (us:List GV) (H:GH):RS:=U1 us fun x1=>
 ln 9 x1 fun t2=>
 bn .lss 3 t2 (i 1) fun t3=>
 kOR (rG t3 false H (some (x1,H))) fun t4 h5=>
 kOR (rG t3 false h5 (ob (vLen y 9 t4) fun g6=>some (g6,h5))) fun t7 h8=>
 kOR (rG t3 false h8 (ob (vBin y .gtr 3 t7 (i 24)) fun g9=>some (g9,h8))) fun t10 h11=>
 ob (vPick t3 (.bool true) t10) fun t12=>
 kOR (rG t12 false h11 (some (x1,h11))) fun t13 h14=>
 kOR (rG t12 false h14 (ob (vAt y 9 t13 (i 0)) fun g15=>some (g15,h14))) fun t16 h17=>
 kOR (rG t12 false h17 (kOR (c 65 [t16] h17) orK)) fun t18 h19=>
 kOR (rG t12 false h19 (ob (vUn .not t18) fun g20=>some (g20,h19))) fun t21 h22=>
 ob (vPick t12 (.bool true) t21) fun t23=>
 ob (GV.asB t23) fun q24=>jn (bC q24 (oN [x1] h22) (oR [(.bool false)] h22)) fun vs25 h26=>U1 vs25 fun a27=>ln 9 a27 fun t28=>
 jn (nB 0 (ql 17 [a27,t28,(i 0)] h26)) fun vs29 h30=>U1 vs29 fun a31=>K c 106 [a31] h30 fun t32 h33=>
 ob (vUn .not t32) fun t34=>
 oR [t34] h33
def L17 (c:CH) (ql:QH) (us:List GV) (H:GH):RS:=U3 us fun a35 a36 a37=>jn (bn .lss 3 a37 a36 fun t38=>
 ob (GV.asB t38) fun q39=>jn (bC q39 (oX 0 [a35] H) (oN [a35,a36,a37] H)) fun vs40 h41=>U3 vs40 fun a42 a43 a44=>jn (nB 1 (ob (vAt y 9 a42 a44) fun t45=>
 K c 66 [t45] h41 fun t46 h47=>
 ob (vUn .not t46) fun t48=>
 ob (GV.asB t48) fun q49=>jn (bC q49 (oN [a42,a43,a44] h47) (oR [(.bool false)] h47)) fun vs50 h51=>U3 vs50 fun a52 a53 a54=>oN [a52,a53,a54] h51)) fun vs55 h56=>U3 vs55 fun a57 a58 a59=>bn .add 3 a59 (i 1) fun t60=>
 oN [a57,a58,t60] h56) (ql 17)
def B74 (c:CH) (ql:QH) (us:List GV) (H:GH):RS:=U1 us fun x1=>
 kOR (vAlloc y 77 H) fun t2 h3=>
 ob (GV.nilck x1) fun t4=>
 fd 42 1 t4 fun t5=>
 ld 36 t5 h3 fun t6=>
 ln 36 t6 fun t7=>
 bn .eql 3 t7 (i 0) fun t8=>
 ob (GV.asB t8) fun q9=>jn (bC q9 (oN [x1,t2] h3) (K c 41 [x1,(i 4)] h3 fun t10 h11=>
 oN [x1,t2] h11)) fun vs12 h13=>U2 vs12 fun a14 a15=>ob (GV.nilck a14) fun t16=>
 fd 42 1 t16 fun t17=>
 ld 36 t17 h13 fun t18=>
 ix 36 t18 (i 0) fun t19=>
 ld 77 t19 h13 fun t20=>
 kOR (vAlloc y 77 h13) fun t21 h22=>
 kOR (vStore y 77 t21 t20 h22) fun t23 h24=>
 ob (GV.nilck a14) fun t25=>
 fd 42 1 t25 fun t26=>
 ld 36 t26 h24 fun t27=>
 ob (vSlice y 36 t27 (some (i 1)) none h24) fun t28=>
 ob (GV.nilck a14) fun t29=>
 fd 42 1 t29 fun t30=>
 kOR (vStore y 36 t30 t28 h24) fun t31 h32=>
 ld 77 t21 h32 fun t33=>
 kOR (vStore y 77 a15 t33 h32) fun t34 h35=>
 ob (ob (vLoad y 77 a15 h35) fun r36=>some [r36]) fun vs37=>oR vs37 h35
def B79 (c:CH) (ql:QH) (us:List GV) (H:GH):RS:=U1 us fun x1=>
 bn .eql 3 x1 (i 1) fun t2=>
 kOR (rG t2 false H (some (x1,H))) fun t3 h4=>
 kOR (rG t2 false h4 (ob (vBin y .eql 3 t3 (i 2)) fun g5=>some (g5,h4))) fun t6 h7=>
 ob (vPick t2 (.bool true) t6) fun t8=>
 kOR (rG t8 false h7 (some (x1,h7))) fun t9 h10=>
 kOR (rG t8 false h10 (ob (vBin y .eql 3 t9 (i 3)) fun g11=>some (g11,h10))) fun t12 h13=>
 ob (vPick t8 (.bool true) t12) fun t14=>
 oR [t14] h13
def B81 (c:CH) (ql:QH) (us:List GV) (H:GH):RS:=U2 us fun x1 x2=>
 ln 90 x1 fun t3=>
 bn .gtr 3 t3 (i 200) fun t4=>
 kOR (rG t4 false H (some (x1,H))) fun t5 h6=>
 kOR (rG t4 false h6 (kOR (c 111 [t5,(i 0)] h6) orK)) fun t7 h8=>
 kOR (rG t4 false h8 (some (x1,h8))) fun t9 h10=>
 kOR (rG t4 false h10 (ob (vLen y 90 t9) fun g11=>some (g11,h10))) fun t12 h13=>
 kOR (rG t4 false h13 (ob (vBin y .neq 3 t7 t12) fun g14=>some (g14,h13))) fun t15 h16=>
 ob (vPick t4 (.bool true) t15) fun t17=>
 ob (GV.asB t17) fun q18=>jn (bC q18 (oN [x1,x2] h16) (oR [(.bool false)] h16)) fun vs19 h20=>U2 vs19 fun a21 a22=>ln 90 a21 fun t23=>
 jn (nB 0 (ql 18 [a21,a22,a21,t23,(i 0)] h20)) fun vs24 h25=>U1 vs24 fun a26=>K c 113 [a26] h25 fun t27 h28=>
 bn .leq 3 t27 (i 24) fun t29=>
 kOR (rG t29 true h28 (some (a26,h28))) fun t30 h31=>
 kOR (rG t29 true h31 (kOR (c 114 [t30] h31) orK)) fun t32 h33=>
 kOR (rG t29 true h33 (ob (vBin y .leq 3 t32 (i 2)) fun g34=>some (g34,h33))) fun t35 h36=>
 ob (vPick t29 t35 (.bool false)) fun t37=>
 oR [t37] h36
def L18 (c:CH) (ql:QH) (us:List GV) (H:GH):RS:=U5 us fun a38 a39 a40 a41 a42=>jn (bn .lss 3 a42 a41 fun t43=>
 ob (GV.asB t43) fun q44=>jn (bC q44 (oX 0 [a38] H) (oN [a38,a39,a40,a41,a42] H)) fun vs45 h46=>U5 vs45 fun a47 a48 a49 a50 a51=>jn (nB 1 (ix 90 a49 a51 fun t52=>
 ld 152 t52 h46 fun t53=>
 kOR (vAlloc y 152 h46) fun t54 h55=>
 kOR (vStore y 152 t54 t53 h55) fun t56 h57=>
 ld 152 t54 h57 fun t58=>
 K c 112 [t58,a48] h57 fun t59 h60=>
 ob (vUn .not t59) fun t61=>
 ob (GV.asB t61) fun q62=>jn (bC q62 (oN [a47,a48,a49,a50,a51] h60) (oR [(.bool false)] h60)) fun vs63 h64=>U5 vs63 fun a65 a66 a67 a68 a69=>oN [a65,a66,a67,a68,a69] h64)) fun vs70 h71=>U5 vs70 fun a72 a73 a74 a75 a76=>bn .add 3 a76 (i 1) fun t77=>
 oN [a72,a73,a74,a75,t77] h71) (ql 18)
def B82 (c:CH) (ql:QH) (us:List GV) (H:GH):RS:=U3 us fun x1 x2 x3=>
 ln 50 x2 fun t4=>
 bn .gtr 3 t4 (i 6) fun t5=>
 ob (GV.asB t5) fun q6=>jn (bC q6 (oN [x1,x2,x3] H) (oR [(i 0),(i 7)] H)) fun vs7 h8=>U3 vs7 fun a9 a10 a11=>ln 50 a10 fun t12=>
 jn (nB 0 (ql 19 [a9,a10,a11,a10,t12,(i 0)] h8)) fun vs13 h14=>U3 vs13 fun a15 a16 a17=>ln 50 a16 fun t18=>
 K c 81 [a15,t18] h14 fun t19 h20=>
 ob (vUn .not t19) fun t21=>
 ob (GV.asB t21) fun q22=>jn (bC q22 (oN [a15,a16,a17] h20) (oR [(i 0),(i 7)] h20)) fun vs23 h24=>U3 vs23 fun a25 a26 a27=>bd 156 [(0,a25),(1,a26)] fun t28=>
 kOR (vAlloc y 156 h24) fun t29 h30=>
 kOR (vStore y 156 t29 t28 h30) fun t31 h32=>
 ld 156 t29 h32 fun t33=>
 K c 115 [t33,(i 0),a27] h32 fun t34 h35=>
 ex 0 t34 fun t36=>
 ex 1 t34 fun t37=>
 bn .eql 3 t36 (i 0) fun t38=>
 ob (GV.asB t38) fun q39=>jn (bC q39 (oN [t36] h35) (oR [(i 0),(i 6)] h35)) fun vs40 h41=>U1 vs40 fun a42=>oR [a42,(i 0)] h41
def L19 (c:CH) (ql:QH) (us:List GV) (H:GH):RS:=U6 us fun a43 a44 a45 a46 a47 a48=>jn (bn .lss 3 a48 a47 fun t49=>
 ob (GV.asB t49) fun q50=>jn (bC q50 (oX 0 [a43,a44,a45] H) (oN [a43,a44,a45,a46,a47,a48] H)) fun vs51 h52=>U6 vs51 fun a53 a54 a55 a56 a57 a58=>jn (nB 1 (ix 50 a56 a58 fun t59=>
 ld 3 t59 h52 fun t60=>
 K c 79 [t60] h52 fun t61 h62=>
 ob (vUn .not t61) fun t63=>
 ob (GV.asB t63) fun q64=>jn (bC q64 (oN [a53,a54,a55,a56,a57,a58] h62) (oR [(i 0),(i 7)] h62)) fun vs65 h66=>U6 vs65 fun a67 a68 a69 a70 a71 a72=>oN [a67,a68,a69,a70,a71,a72] h66)) fun vs73 h74=>U6 vs73 fun a75 a76 a77 a78 a79 a80=>bn .add 3 a80 (i 1) fun t81=>
 oN [a75,a76,a77,a78,a79,t81] h74) (ql 19)
def B88 (c:CH) (ql:QH) (us:List GV) (H:GH):RS:=U1 us fun x1=>
 kOR (vBox x1 H) fun t2 h3=>
 fd 53 1 t2 fun t4=>
 ld 51 t4 h3 fun t5=>
 ln 51 t5 fun t6=>
 kOR (vMake y 101 t6 t6 h3) fun t7 h8=>
 fd 53 1 t2 fun t9=>
 ld 51 t9 h8 fun t10=>
 ln 51 t10 fun t11=>
 jn (nB 0 (ql 20 [t7,t10,t11,(i 0)] h8)) fun vs12 h13=>U1 vs12 fun a14=>oR [a14] h13
def L20 (c:CH) (ql:QH) (us:List GV) (H:GH):RS:=U4 us fun a15 a16 a17 a18=>jn (bn .lss 3 a18 a17 fun t19=>
 ob (GV.asB t19) fun q20=>jn (bC q20 (oX 0 [a15] H) (oN [a15,a16,a17,a18] H)) fun vs21 h22=>U4 vs21 fun a23 a24 a25 a26=>jn (nB 1 (ix 51 a24 a26 fun t27=>
 ld 132 t27 h22 fun t28=>
 ln 132 t28 fun t29=>
 jn (nB 2 (ql 21 [a23,a26,a24,a25,a26,t28,t29,(i 0)] h22)) fun vs30 h31=>U4 vs30 fun a32 a33 a34 a35=>oN [a32,a33,a34,a35] h31)) fun vs36 h37=>U4 vs36 fun a38 a39 a40 a41=>bn .add 3 a41 (i 1) fun t42=>
 oN [a38,a39,a40,t42] h37) (ql 20)
def L21 (c:CH) (ql:QH) (us:List GV) (H:GH):RS:=U8 us fun a43 a44 a45 a46 a47 a48 a49 a50=>jn (bn .lss 3 a50 a49 fun t51=>
 ob (GV.asB t51) fun q52=>jn (bC q52 (oX 2 [a43,a45,a46,a47] H) (oN [a43,a44,a45,a46,a47,a48,a49,a50] H)) fun vs53 h54=>U8 vs53 fun a55 a56 a57 a58 a59 a60 a61 a62=>jn (nB 3 (ix 132 a60 a62 fun t63=>
 ld 131 t63 h54 fun t64=>
 kOR (vAlloc y 131 h54) fun t65 h66=>
 kOR (vStore y 131 t65 t64 h66) fun t67 h68=>
 ix 101 a55 a56 fun t69=>
 ld 59 t69 h68 fun t70=>
 fd 131 0 t65 fun t71=>
 ld 3 t71 h68 fun t72=>
 bn .shl 59 (.int .u32 (.ofNat 1)) t72 fun t73=>
 bn .or 59 t70 t73 fun t74=>
 ix 101 a55 a56 fun t75=>
 kOR (vStore y 59 t75 t74 h68) fun t76 h77=>
 oN [a55,a56,a57,a58,a59,a60,a61,a62] h77)) fun vs78 h79=>U8 vs78 fun a80 a81 a82 a83 a84 a85 a86 a87=>bn .add 3 a87 (i 1) fun t88=>
 oN [a80,a81,a82,a83,a84,a85,a86,t88] h79) (ql 21)
def B90 (c:CH) (ql:QH) (us:List GV) (H:GH):RS:=U4 us fun x1 x2 x3 x4=>
 kOR (vBox x1 H) fun t5 h6=>
 kOR (vAlloc y 63 h6) fun t7 h8=>
 kOR (vAlloc y 63 h8) fun t9 h10=>
 K c 120 [x2] h10 fun t11 h12=>
 fd 104 0 t5 fun t13=>
 ld 100 t13 h12 fun t14=>
 ob (Option.casesOn (motive:=fun _=>Option (Option (Nat×Nat))) (ob (GV.asP t13) fun p=>some p.1) (some none) fun k16=>ob (GH.ver h12 k16) fun k17=>some (some (k16,k17))) fun e15=>
 K c 121 [t14,t11] h12 fun t18 h19=>
 ob (some ()) fun _=>
 fd 104 3 t5 fun t20=>
 ld 59 t20 h19 fun t21=>
 ob (Option.casesOn (motive:=fun _=>Option (Option (Nat×Nat))) (ob (GV.asP t20) fun p=>some p.1) (some none) fun k23=>ob (GH.ver h19 k23) fun k24=>vck h12 k23 k24 (some (some (k23,k24)))) fun e22=>
 bn .and 59 t18 t21 fun t25=>
 K c 122 [t25] h19 fun t26 h27=>
 kOR (vAlloc y 61 h27) fun t28 h29=>
 kOR (vStore y 61 t28 t26 h29) fun t30 h31=>
 fd 104 4 t5 fun t32=>
 ld 102 t32 h31 fun t33=>
 ld 61 t28 h31 fun t34=>
 ob (GV.asF t33) fun p37=>kOR (c p37.1 (p37.2.1++[t11,t25,t34]++p37.2.2) h31) fun t35 h36=>
 fd 63 1 t9 fun t38=>
 ld 58 t38 h36 fun t39=>
 kOR (vBuildS y 58 1 [(0,t25)] h36) fun t40 h41=>
 kOR (vApp y 58 58 t39 t40 h41) fun t42 h43=>
 fd 63 1 t9 fun t44=>
 kOR (vStore y 58 t44 t42 h43) fun t45 h46=>
 jn (nB 0 (ql 22 [t11,x4,t5,t7,t9,t25,t28,x3,(i 0)] h46)) fun vs47 h48=>U4 vs47 fun a49 a50 a51 a52=>ld 61 a52 h48 fun t53=>
 ob (Option.casesOn (motive:=fun _=>Option (Option (Nat×Nat))) (ob (GV.asP a52) fun p=>some p.1) (some none) fun k55=>ob (GH.ver h48 k55) fun k56=>some (some (k55,k56))) fun e54=>
 fd 63 2 a51 fun t57=>
 kOR (vStore y 57 t57 a49 h48) fun t58 h59=>
 ob (pck h59 e54 (some ())) fun _=>
 fd 63 3 a51 fun t60=>
 kOR (vStore y 61 t60 t53 h59) fun t61 h62=>
 ob (some ()) fun _=>
 ld 63 a51 h62 fun t63=>
 kOR (vStore y 63 a50 t63 h62) fun t64 h65=>
 ob (ob (vLoad y 63 a50 h65) fun r66=>some [r66,(i 0)]) fun vs67=>oR vs67 h65
def L22 (c:CH) (ql:QH) (us:List GV) (H:GH):RS:=U9 us fun a68 a69 a70 a71 a72 a73 a74 a75 a76=>jn (bn .lss 3 a76 a75 fun t77=>
 ob (GV.asB t77) fun q78=>jn (bC q78 (oX 0 [a68,a71,a72,a74] H) (oN [a68,a69,a70,a71,a72,a73,a74,a75,a76] H)) fun vs79 h80=>U9 vs79 fun a81 a82 a83 a84 a85 a86 a87 a88 a89=>jn (nB 1 (ob (GV.asF a82) fun p92=>kOR (c p92.1 (p92.2.1++[a89,a86]++p92.2.2) h80) fun t90 h91=>
 ex 0 t90 fun t93=>
 ex 1 t90 fun t94=>
 ob (vUn .not t94) fun t95=>
 ob (GV.asB t95) fun q96=>jn (bC q96 (oN [a81,a82,a83,a84,a85,a86,a87,t93,a88,a89] h91) (oX 0 [a81,a84,a85,a87] h91)) fun vs97 h98=>U10 vs97 fun a99 a100 a101 a102 a103 a104 a105 a106 a107 a108=>fd 104 1 a101 fun t109=>
 ld 101 t109 h98 fun t110=>
 fd 104 2 a101 fun t111=>
 ld 3 t111 h98 fun t112=>
 K c 123 [t110,t112,a104,a106] h98 fun t113 h114=>
 ob (vUn .not t113) fun t115=>
 ob (GV.asB t115) fun q116=>jn (bC q116 (oN [a99,a100,a101,a102,a103,a105,a106,a107,a108] h114) (bd 63 [] fun t117=>
 kOR (vStore y 63 a102 t117 h114) fun t118 h119=>
 ob (ob (vLoad y 63 a102 h119) fun r120=>some [r120,(i 11)]) fun vs121=>oR vs121 h119)) fun vs122 h123=>U9 vs122 fun a124 a125 a126 a127 a128 a129 a130 a131 a132=>fd 104 0 a126 fun t133=>
 ld 100 t133 h123 fun t134=>
 K c 124 [t134,a124,a130] h123 fun t135 h136=>
 fd 104 0 a126 fun t137=>
 ld 100 t137 h136 fun t138=>
 ob (Option.casesOn (motive:=fun _=>Option (Option (Nat×Nat))) (ob (GV.asP t137) fun p=>some p.1) (some none) fun k140=>ob (GH.ver h136 k140) fun k141=>some (some (k140,k141))) fun e139=>
 K c 121 [t138,t135] h136 fun t142 h143=>
 ob (some ()) fun _=>
 fd 104 3 a126 fun t144=>
 ld 59 t144 h143 fun t145=>
 ob (Option.casesOn (motive:=fun _=>Option (Option (Nat×Nat))) (ob (GV.asP t144) fun p=>some p.1) (some none) fun k147=>ob (GH.ver h143 k147) fun k148=>vck h136 k147 k148 (some (some (k147,k148)))) fun e146=>
 bn .and 59 t142 t145 fun t149=>
 ld 61 a129 h143 fun t150=>
 K c 125 [t150,a130,t149] h143 fun t151 h152=>
 ex 0 t151 fun t153=>
 ex 1 t151 fun t154=>
 kOR (vStore y 61 a129 t153 h152) fun t155 h156=>
 fd 104 4 a126 fun t157=>
 ld 102 t157 h156 fun t158=>
 ld 61 a129 h156 fun t159=>
 ob (GV.asF t158) fun p162=>kOR (c p162.1 (p162.2.1++[t135,t149,t159]++p162.2.2) h156) fun t160 h161=>
 fd 63 0 a128 fun t163=>
 ld 58 t163 h161 fun t164=>
 kOR (vBuildS y 58 1 [(0,a130)] h161) fun t165 h166=>
 kOR (vApp y 58 58 t164 t165 h166) fun t167 h168=>
 fd 63 0 a128 fun t169=>
 kOR (vStore y 58 t169 t167 h168) fun t170 h171=>
 fd 63 1 a128 fun t172=>
 ld 58 t172 h171 fun t173=>
 kOR (vBuildS y 58 1 [(0,t149)] h171) fun t174 h175=>
 kOR (vApp y 58 58 t173 t174 h175) fun t176 h177=>
 fd 63 1 a128 fun t178=>
 kOR (vStore y 58 t178 t176 h177) fun t179 h180=>
 oN [t135,a125,a126,a127,a128,t149,a129,a131,a132] h180)) fun vs181 h182=>U9 vs181 fun a183 a184 a185 a186 a187 a188 a189 a190 a191=>bn .add 3 a191 (i 1) fun t192=>
 oN [a183,a184,a185,a186,a187,a188,a189,a190,t192] h182) (ql 22)
def B101 (c:CH) (ql:QH) (us:List GV) (H:GH):RS:=U1 us fun x1=>
 kOR (vBox x1 H) fun t2 h3=>
 ld 53 t2 h3 fun t4=>
 K c 128 [t4] h3 fun t5 h6=>
 ob (vUn .not t5) fun t7=>
 ob (GV.asB t7) fun q8=>jn (bC q8 (oN [t2] h6) (oR [(.bool false)] h6)) fun vs9 h10=>U1 vs9 fun a11=>ld 53 a11 h10 fun t12=>
 K c 103 [t12,(i 0)] h10 fun t13 h14=>
 ln 50 t13 fun t15=>
 jn (nB 0 (ql 23 [t13,t15,(i 0)] h14)) fun vs16 h17=>U0 vs16 (oR [(.bool true)] h17)
def L23 (c:CH) (ql:QH) (us:List GV) (H:GH):RS:=U3 us fun a18 a19 a20=>jn (bn .lss 3 a20 a19 fun t21=>
 ob (GV.asB t21) fun q22=>jn (bC q22 (oX 0 [] H) (oN [a18,a19,a20] H)) fun vs23 h24=>U3 vs23 fun a25 a26 a27=>jn (nB 1 (ix 50 a25 a27 fun t28=>
 ld 3 t28 h24 fun t29=>
 bn .lss 3 t29 (i 0) fun t30=>
 ob (GV.asB t30) fun q31=>jn (bC q31 (oN [a25,a26,a27] h24) (oR [(.bool false)] h24)) fun vs32 h33=>U3 vs32 fun a34 a35 a36=>oN [a34,a35,a36] h33)) fun vs37 h38=>U3 vs37 fun a39 a40 a41=>bn .add 3 a41 (i 1) fun t42=>
 oN [a39,a40,t42] h38) (ql 23)
def B102 (c:CH) (ql:QH) (us:List GV) (H:GH):RS:=U1 us fun x1=>
 ln 50 x1 fun t2=>
 jn (nB 0 (ql 24 [(.int .i64 (.negSucc 0)),x1,t2,(i 0)] H)) fun vs3 h4=>U1 vs3 fun a5=>oR [a5] h4
def L24 (c:CH) (ql:QH) (us:List GV) (H:GH):RS:=U4 us fun a6 a7 a8 a9=>jn (bn .lss 3 a9 a8 fun t10=>
 ob (GV.asB t10) fun q11=>jn (bC q11 (oX 0 [a6] H) (oN [a6,a7,a8,a9] H)) fun vs12 h13=>U4 vs12 fun a14 a15 a16 a17=>jn (nB 1 (ix 50 a15 a17 fun t18=>
 ld 3 t18 h13 fun t19=>
 ob (vMax a14 t19) fun t20=>
 oN [t20,a15,a16,a17] h13)) fun vs21 h22=>U4 vs21 fun a23 a24 a25 a26=>bn .add 3 a26 (i 1) fun t27=>
 oN [a23,a24,a25,t27] h22) (ql 24)
def B103 (c:CH) (ql:QH) (us:List GV) (H:GH):RS:=U2 us fun x1 x2=>
 kOR (vBox x1 H) fun t3 h4=>
 fd 53 1 t3 fun t5=>
 ld 51 t5 h4 fun t6=>
 ln 51 t6 fun t7=>
 kOR (vMake y 50 t7 t7 h4) fun t8 h9=>
 ln 50 t8 fun t10=>
 jn (nB 0 (ql 25 [x2,t3,t8,t10,(i 0)] h9)) fun vs11 h12=>U3 vs11 fun a13 a14 a15=>ix 50 a15 a13 fun t16=>
 kOR (vStore y 3 t16 (i 0) h12) fun t17 h18=>
 kOR (vBuildS y 50 1 [(0,a13)] h18) fun t19 h20=>
 jn (nB 2 (ql 26 [a14,a15,t19] h20)) fun vs21 h22=>U1 vs21 fun a23=>oR [a23] h22
def L25 (c:CH) (ql:QH) (us:List GV) (H:GH):RS:=U5 us fun a24 a25 a26 a27 a28=>jn (bn .lss 3 a28 a27 fun t29=>
 ob (GV.asB t29) fun q30=>jn (bC q30 (oX 0 [a24,a25,a26] H) (oN [a24,a25,a26,a27,a28] H)) fun vs31 h32=>U5 vs31 fun a33 a34 a35 a36 a37=>jn (nB 1 (ix 50 a35 a37 fun t38=>
 kOR (vStore y 3 t38 (.int .i64 (.negSucc 0)) h32) fun t39 h40=>
 oN [a33,a34,a35,a36,a37] h40)) fun vs41 h42=>U5 vs41 fun a43 a44 a45 a46 a47=>bn .add 3 a47 (i 1) fun t48=>
 oN [a43,a44,a45,a46,t48] h42) (ql 25)
def L26 (c:CH) (ql:QH) (us:List GV) (H:GH):RS:=U3 us fun a49 a50 a51=>jn (ln 50 a51 fun t52=>
 bn .gtr 3 t52 (i 0) fun t53=>
 ob (GV.asB t53) fun q54=>jn (bC q54 (oX 2 [a50] H) (oN [a49,a50,a51] H)) fun vs55 h56=>U3 vs55 fun a57 a58 a59=>jn (nB 3 (ix 50 a59 (i 0) fun t60=>
 ld 3 t60 h56 fun t61=>
 ob (vSlice y 50 a59 (some (i 1)) none h56) fun t62=>
 fd 53 1 a57 fun t63=>
 ld 51 t63 h56 fun t64=>
 ix 51 t64 t61 fun t65=>
 ld 132 t65 h56 fun t66=>
 ln 132 t66 fun t67=>
 jn (nB 4 (ql 27 [a57,a58,t62,t61,t66,t67,(i 0)] h56)) fun vs68 h69=>U3 vs68 fun a70 a71 a72=>oN [a70,a71,a72] h69)) fun vs73 h74=>U3 vs73 fun a75 a76 a77=>oN [a75,a76,a77] h74) (ql 26)
def L27 (c:CH) (ql:QH) (us:List GV) (H:GH):RS:=U7 us fun a78 a79 a80 a81 a82 a83 a84=>jn (bn .lss 3 a84 a83 fun t85=>
 ob (GV.asB t85) fun q86=>jn (bC q86 (oX 4 [a78,a79,a80] H) (oN [a78,a79,a80,a81,a82,a83,a84] H)) fun vs87 h88=>U7 vs87 fun a89 a90 a91 a92 a93 a94 a95=>jn (nB 5 (ix 132 a93 a95 fun t96=>
 ld 131 t96 h88 fun t97=>
 kOR (vAlloc y 131 h88) fun t98 h99=>
 kOR (vStore y 131 t98 t97 h99) fun t100 h101=>
 fd 131 0 t98 fun t102=>
 ld 3 t102 h101 fun t103=>
 ix 50 a90 t103 fun t104=>
 ld 3 t104 h101 fun t105=>
 bn .lss 3 t105 (i 0) fun t106=>
 ob (GV.asB t106) fun q107=>jn (bC q107 (oN [a89,a90,a91,a92,a93,a94,a95] h101) (fd 131 0 t98 fun t108=>
 ld 3 t108 h101 fun t109=>
 ix 50 a90 a92 fun t110=>
 ld 3 t110 h101 fun t111=>
 bn .add 3 t111 (i 1) fun t112=>
 ix 50 a90 t109 fun t113=>
 kOR (vStore y 3 t113 t112 h101) fun t114 h115=>
 fd 131 0 t98 fun t116=>
 ld 3 t116 h115 fun t117=>
 kOR (vBuildS y 50 1 [(0,t117)] h115) fun t118 h119=>
 kOR (vApp y 50 50 a91 t118 h119) fun t120 h121=>
 oN [a89,a90,t120,a92,a93,a94,a95] h121)) fun vs122 h123=>U7 vs122 fun a124 a125 a126 a127 a128 a129 a130=>oN [a124,a125,a126,a127,a128,a129,a130] h123)) fun vs131 h132=>U7 vs131 fun a133 a134 a135 a136 a137 a138 a139=>bn .add 3 a139 (i 1) fun t140=>
 oN [a133,a134,a135,a136,a137,a138,t140] h132) (ql 27)
def B104 (c:CH) (ql:QH) (us:List GV) (H:GH):RS:=U2 us fun x1 x2=>
 K c 133 [x1,x2] H fun t3 h4=>
 oR [t3] h4
def B106 (c:CH) (ql:QH) (us:List GV) (H:GH):RS:=U1 us fun x1=>
 jn (nB 0 (bn .eql 9 x1 (.str 30787916450984560 7) fun t2=>
 ob (GV.asB t2) fun q3=>jn (bC q3 (bn .eql 9 x1 (.str 7496054 3) fun t4=>
 ob (GV.asB t4) fun q5=>jn (bC q5 (bn .eql 9 x1 (.str 1701606770 4) fun t6=>
 ob (GV.asB t6) fun q7=>jn (bC q7 (bn .eql 9 x1 (.str 1819242338 4) fun t8=>
 ob (GV.asB t8) fun q9=>jn (bC q9 (bn .eql 9 x1 (.str 1953656688 4) fun t10=>
 ob (GV.asB t10) fun q11=>jn (bC q11 (bn .eql 9 x1 (.str 1702195828 4) fun t12=>
 ob (GV.asB t12) fun q13=>jn (bC q13 (bn .eql 9 x1 (.str 435728179558 5) fun t14=>
 ob (GV.asB t14) fun q15=>jn (bC q15 (bn .eql 9 x1 (.str 1701736302 4) fun t16=>
 oN [x1,t16] H) (oN [x1,t14] H)) fun vs17 h18=>U2 vs17 fun a19 a20=>oN [a19,a20] h18) (oN [x1,t12] H)) fun vs21 h22=>U2 vs21 fun a23 a24=>oN [a23,a24] h22) (oN [x1,t10] H)) fun vs25 h26=>U2 vs25 fun a27 a28=>oN [a27,a28] h26) (oN [x1,t8] H)) fun vs29 h30=>U2 vs29 fun a31 a32=>oN [a31,a32] h30) (oN [x1,t6] H)) fun vs33 h34=>U2 vs33 fun a35 a36=>oN [a35,a36] h34) (oN [x1,t4] H)) fun vs37 h38=>U2 vs37 fun a39 a40=>oN [a39,a40] h38) (oN [x1,t2] H)) fun vs41 h42=>U2 vs41 fun a43 a44=>ob (GV.asB a44) fun q45=>jn (bC q45 (bn .eql 9 a43 (.str 110 1) fun t46=>
 ob (GV.asB t46) fun q47=>jn (bC q47 (bn .eql 9 a43 (.str 7562345 3) fun t48=>
 ob (GV.asB t48) fun q49=>jn (bC q49 (bn .eql 9 a43 (.str 25705 2) fun t50=>
 ob (GV.asB t50) fun q51=>jn (bC q51 (bn .eql 9 a43 (.str 6776164 3) fun t52=>
 ob (GV.asB t52) fun q53=>jn (bC q53 (bn .eql 9 a43 (.str 1953460082 4) fun t54=>
 ob (GV.asB t54) fun q55=>jn (bC q55 (bn .eql 9 a43 (.str 113 1) fun t56=>
 ob (GV.asB t56) fun q57=>jn (bC q57 (bn .eql 9 a43 (.str 127991760381303 6) fun t58=>
 ob (GV.asB t58) fun q59=>jn (bC q59 (bn .eql 9 a43 (.str 1801675106 4) fun t60=>
 oN [a43,t60] h42) (oN [a43,t58] h42)) fun vs61 h62=>U2 vs61 fun a63 a64=>oN [a63,a64] h62) (oN [a43,t56] h42)) fun vs65 h66=>U2 vs65 fun a67 a68=>oN [a67,a68] h66) (oN [a43,t54] h42)) fun vs69 h70=>U2 vs69 fun a71 a72=>oN [a71,a72] h70) (oN [a43,t52] h42)) fun vs73 h74=>U2 vs73 fun a75 a76=>oN [a75,a76] h74) (oN [a43,t50] h42)) fun vs77 h78=>U2 vs77 fun a79 a80=>oN [a79,a80] h78) (oN [a43,t48] h42)) fun vs81 h82=>U2 vs81 fun a83 a84=>oN [a83,a84] h82) (oN [a43,t46] h42)) fun vs85 h86=>U2 vs85 fun a87 a88=>ob (GV.asB a88) fun q89=>jn (bC q89 (bn .eql 9 a87 (.str 7105633 3) fun t90=>
 ob (GV.asB t90) fun q91=>jn (bC q91 (bn .eql 9 a87 (.str 1701670771 4) fun t92=>
 ob (GV.asB t92) fun q93=>jn (bC q93 (bn .eql 9 a87 (.str 500069396323 5) fun t94=>
 ob (GV.asB t94) fun q95=>jn (bC q95 (bn .eql 9 a87 (.str 500153084262 5) fun t96=>
 ob (GV.asB t96) fun q97=>jn (bC q97 (bn .eql 9 a87 (.str 7235949 3) fun t98=>
 ob (GV.asB t98) fun q99=>jn (bC q99 (bn .eql 9 a87 (.str 7889261 3) fun t100=>
 ob (GV.asB t100) fun q101=>jn (bC q101 (bn .eql 9 a87 (.str 7173491 3) fun t102=>
 ob (GV.asB t102) fun q103=>jn (bC q103 (bn .eql 9 a87 (.str 7890285 3) fun t104=>
 ob (GV.asB t104) fun q105=>jn (bC q105 (bn .eql 9 a87 (.str 110425477965171 6) fun t106=>
 ob (GV.asB t106) fun q107=>jn (bC q107 (bn .eql 9 a87 (.str 1684104552 4) fun t108=>
 oN [t108] h86) (oN [t106] h86)) fun vs109 h110=>U1 vs109 fun a111=>oN [a111] h110) (oN [t104] h86)) fun vs112 h113=>U1 vs112 fun a114=>oN [a114] h113) (oN [t102] h86)) fun vs115 h116=>U1 vs115 fun a117=>oN [a117] h116) (oN [t100] h86)) fun vs118 h119=>U1 vs118 fun a120=>oN [a120] h119) (oN [t98] h86)) fun vs121 h122=>U1 vs121 fun a123=>oN [a123] h122) (oN [t96] h86)) fun vs124 h125=>U1 vs124 fun a126=>oN [a126] h125) (oN [t94] h86)) fun vs127 h128=>U1 vs127 fun a129=>oN [a129] h128) (oN [t92] h86)) fun vs130 h131=>U1 vs130 fun a132=>oN [a132] h131) (oN [t90] h86)) fun vs133 h134=>U1 vs133 fun a135=>ob (GV.asB a135) fun q136=>jn (bC q136 (oN [] h134) (oR [(.bool true)] h134)) fun vs137 h138=>U0 vs137 (oN [] h138)) (oR [(.bool true)] h86)) fun vs139 h140=>U0 vs139 (oN [] h140)) (oR [(.bool true)] h42)) fun vs141 h142=>U0 vs141 (oN [] h142))) fun vs143 h144=>U0 vs143 (oR [(.bool false)] h144)
def B108 (c:CH) (ql:QH) (us:List GV) (H:GH):RS:=U2 us fun x1 x2=>
 bn .eql 3 x2 (i 6) fun t3=>
 ob (GV.asB t3) fun q4=>jn (bC q4 (oN [x1,x2] H) (K c 136 [x1] H fun t5 h6=>
 oR [t5] h6)) fun vs7 h8=>U2 vs7 fun a9 a10=>bn .add 3 a10 (i 1) fun t11=>
 K c 108 [a9,t11] h8 fun t12 h13=>
 jn (nB 0 (ql 28 [a9,a10,t12] h13)) fun vs14 h15=>U1 vs14 fun a16=>oR [a16] h15
def L28 (c:CH) (ql:QH) (us:List GV) (H:GH):RS:=U3 us fun a17 a18 a19=>jn (jn (nB 1 (K c 71 [a17] H fun t20 h21=>
 K c 137 [t20] h21 fun t22 h23=>
 bn .eql 3 t22 (i 0) fun t24=>
 kOR (rG t24 false h23 (some (t22,h23))) fun t25 h26=>
 kOR (rG t24 false h26 (kOR (c 138 [t25] h26) orK)) fun t27 h28=>
 kOR (rG t24 false h28 (some (a18,h28))) fun t29 h30=>
 kOR (rG t24 false h30 (ob (vBin y .neq 3 t27 t29) fun g31=>some (g31,h30))) fun t32 h33=>
 ob (vPick t24 (.bool true) t32) fun t34=>
 ob (GV.asB t34) fun q35=>jn (bC q35 (oN [a17,a18,a19,t22] h33) (oR [a19] h33)) fun vs36 h37=>U4 vs36 fun a38 a39 a40 a41=>K c 74 [a38] h37 fun t42 h43=>
 bn .add 3 a39 (i 1) fun t44=>
 K c 108 [a38,t44] h43 fun t45 h46=>
 kOR (vBuildS y 180 2 [(0,a40),(1,t45)] h46) fun t47 h48=>
 K c 109 [a41,t47] h48 fun t49 h50=>
 bn .eql 3 a39 (i 3) fun t51=>
 ob (GV.asB t51) fun q52=>jn (bC q52 (oN [a38,a39,t49] h50) (oR [t49] h50)) fun vs53 h54=>U3 vs53 fun a55 a56 a57=>oN [a55,a56,a57] h54)) fun vs58 h59=>U3 vs58 fun a60 a61 a62=>oN [a60,a61,a62] h59) (ql 28)
def B109 (c:CH) (ql:QH) (us:List GV) (H:GH):RS:=U2 us fun x1 x2=>
 K c 139 [x1,(i 0)] H fun t3 h4=>
 ln 180 x2 fun t5=>
 jn (nB 0 (ql 29 [t3,x2,t5,(i 0)] h4)) fun vs6 h7=>U1 vs6 fun a8=>oR [a8] h7
def L29 (c:CH) (ql:QH) (us:List GV) (H:GH):RS:=U4 us fun a9 a10 a11 a12=>jn (bn .lss 3 a12 a11 fun t13=>
 ob (GV.asB t13) fun q14=>jn (bC q14 (oX 0 [a9] H) (oN [a9,a10,a11,a12] H)) fun vs15 h16=>U4 vs15 fun a17 a18 a19 a20=>jn (nB 1 (ix 180 a18 a20 fun t21=>
 ld 90 t21 h16 fun t22=>
 kOR (vApp y 90 90 a17 t22 h16) fun t23 h24=>
 oN [t23,a18,a19,a20] h24)) fun vs25 h26=>U4 vs25 fun a27 a28 a29 a30=>bn .add 3 a30 (i 1) fun t31=>
 oN [a27,a28,a29,t31] h26) (ql 29)
def B110 (c:CH) (ql:QH) (us:List GV) (H:GH):RS:=U2 us fun x1 x2=>
 ln 40 x1 fun t3=>
 jn (nB 0 (ql 30 [x1,x2,t3,(i 0)] H)) fun vs4 h5=>U0 vs4 (oR [(.int .i64 (.negSucc 0))] h5)
def L30 (c:CH) (ql:QH) (us:List GV) (H:GH):RS:=U4 us fun a6 a7 a8 a9=>jn (bn .lss 3 a9 a8 fun t10=>
 ob (GV.asB t10) fun q11=>jn (bC q11 (oX 0 [] H) (oN [a6,a7,a8,a9] H)) fun vs12 h13=>U4 vs12 fun a14 a15 a16 a17=>jn (nB 1 (ix 40 a14 a17 fun t18=>
 ld 9 t18 h13 fun t19=>
 bn .eql 9 a15 t19 fun t20=>
 ob (GV.asB t20) fun q21=>jn (bC q21 (oN [a14,a15,a16,a17] h13) (oR [a17] h13)) fun vs22 h23=>U4 vs22 fun a24 a25 a26 a27=>oN [a24,a25,a26,a27] h23)) fun vs28 h29=>U4 vs28 fun a30 a31 a32 a33=>bn .add 3 a33 (i 1) fun t34=>
 oN [a30,a31,a32,t34] h29) (ql 30)
def B111 (c:CH) (ql:QH) (us:List GV) (H:GH):RS:=U2 us fun x1 x2=>
 bn .lss 3 x2 (i 0) fun t3=>
 kOR (rG t3 false H (some (x2,H))) fun t4 h5=>
 kOR (rG t3 false h5 (some (x1,h5))) fun t6 h7=>
 kOR (rG t3 false h7 (ob (vLen y 90 t6) fun g8=>some (g8,h7))) fun t9 h10=>
 kOR (rG t3 false h10 (ob (vBin y .geq 3 t4 t9) fun g11=>some (g11,h10))) fun t12 h13=>
 ob (vPick t3 (.bool true) t12) fun t14=>
 ob (GV.asB t14) fun q15=>jn (bC q15 (oN [x1,x2] h13) (oR [(.int .i64 (.negSucc 0))] h13)) fun vs16 h17=>U2 vs16 fun a18 a19=>jn (nB 0 (ql 31 [a18,a19,(i 1)] h17)) fun vs20 h21=>U0 vs20 (oR [(.int .i64 (.negSucc 0))] h21)
def L31 (c:CH) (ql:QH) (us:List GV) (H:GH):RS:=U3 us fun a22 a23 a24=>jn (ln 90 a22 fun t25=>
 bn .lss 3 a23 t25 fun t26=>
 ob (GV.asB t26) fun q27=>jn (bC q27 (oX 0 [] H) (oN [a22,a23,a24] H)) fun vs28 h29=>U3 vs28 fun a30 a31 a32=>jn (nB 1 (ix 90 a30 a31 fun t33=>
 fd 152 0 t33 fun t34=>
 ld 3 t34 h29 fun t35=>
 K c 140 [t35] h29 fun t36 h37=>
 bn .lss 3 t36 (i 0) fun t38=>
 ob (GV.asB t38) fun q39=>jn (bC q39 (oN [a30,a31,a32,t36] h37) (oR [(.int .i64 (.negSucc 0))] h37)) fun vs40 h41=>U4 vs40 fun a42 a43 a44 a45=>bn .sub 3 a45 (i 1) fun t46=>
 bn .add 3 a44 t46 fun t47=>
 bn .eql 3 t47 (i 0) fun t48=>
 ob (GV.asB t48) fun q49=>jn (bC q49 (oN [a42,a43,t47] h41) (bn .add 3 a43 (i 1) fun t50=>
 oR [t50] h41)) fun vs51 h52=>U3 vs51 fun a53 a54 a55=>oN [a53,a54,a55] h52)) fun vs56 h57=>U3 vs56 fun a58 a59 a60=>bn .add 3 a59 (i 1) fun t61=>
 oN [a58,t61,a60] h57) (ql 31)
def B112 (c:CH) (ql:QH) (us:List GV) (H:GH):RS:=U2 us fun x1 x2=>
 kOR (vBox x1 H) fun t3 h4=>
 fd 152 0 t3 fun t5=>
 ld 3 t5 h4 fun t6=>
 jn (nB 0 (bn .eql 3 t6 (i 1) fun t7=>
 ob (GV.asB t7) fun q8=>jn (bC q8 (bn .eql 3 t6 (i 5) fun t22=>
 ob (GV.asB t22) fun q23=>jn (bC q23 (bn .eql 3 t6 (i 12) fun t24=>
 oN [x2,t3,t24] h4) (oN [x2,t3,t22] h4)) fun vs25 h26=>U3 vs25 fun a27 a28 a29=>ob (GV.asB a29) fun q30=>jn (bC q30 (oN [a28] h26) (fd 152 1 a28 fun t31=>
 ld 3 t31 h26 fun t32=>
 bn .geq 3 t32 (i 0) fun t33=>
 kOR (rG t33 true h26 (ob (vField y 152 1 a28) fun g34=>some (g34,h26))) fun t35 h36=>
 kOR (rG t33 true h36 (ob (vLoad y 3 t35 h36) fun g37=>some (g37,h36))) fun t38 h39=>
 kOR (rG t33 true h39 (some (a27,h39))) fun t40 h41=>
 kOR (rG t33 true h41 (ob (vBin y .lss 3 t38 t40) fun g42=>some (g42,h41))) fun t43 h44=>
 ob (vPick t33 t43 (.bool false)) fun t45=>
 oR [t45] h44)) fun vs46 h47=>U1 vs46 fun a48=>oN [a48] h47) (fd 152 1 t3 fun t9=>
 ld 3 t9 h4 fun t10=>
 bn .geq 3 t10 (i 0) fun t11=>
 kOR (rG t11 true h4 (ob (vField y 152 1 t3) fun g12=>some (g12,h4))) fun t13 h14=>
 kOR (rG t11 true h14 (ob (vLoad y 3 t13 h14) fun g15=>some (g15,h14))) fun t16 h17=>
 kOR (rG t11 true h17 (ob (vBin y .leq 3 t16 (i 1073741824)) fun g18=>some (g18,h17))) fun t19 h20=>
 ob (vPick t11 t19 (.bool false)) fun t21=>
 oR [t21] h20)) fun vs49 h50=>U1 vs49 fun a51=>oN [a51] h50)) fun vs52 h53=>U1 vs52 fun a54=>fd 152 1 a54 fun t55=>
 ld 3 t55 h53 fun t56=>
 bn .eql 3 t56 (i 0) fun t57=>
 oR [t57] h53
def B115 (c:CH) (ql:QH) (us:List GV) (H:GH):RS:=U3 us fun x1 x2 x3=>
 kOR (vBox x1 H) fun t4 h5=>
 fd 156 0 t4 fun t6=>
 ld 90 t6 h5 fun t7=>
 ix 90 t7 x2 fun t8=>
 ld 152 t8 h5 fun t9=>
 kOR (vAlloc y 152 h5) fun t10 h11=>
 kOR (vStore y 152 t10 t9 h11) fun t12 h13=>
 bn .add 3 x2 (i 1) fun t14=>
 fd 152 0 t10 fun t15=>
 ld 3 t15 h13 fun t16=>
 K c 140 [t16] h13 fun t17 h18=>
 bn .eql 3 t17 (i 0) fun t19=>
 ob (GV.asB t19) fun q20=>jn (bC q20 (oN [x3,t4,t14,t10] h18) (fd 152 0 t10 fun t21=>
 ld 3 t21 h18 fun t22=>
 K c 145 [t22] h18 fun t23 h24=>
 kOR (rG t23 true h24 (some (x3,h24))) fun t25 h26=>
 kOR (rG t23 true h26 (ob (vUn .not t25) fun g27=>some (g27,h26))) fun t28 h29=>
 ob (vPick t23 t28 (.bool false)) fun t30=>
 ob (GV.asB t30) fun q31=>jn (bC q31 (oN [t4,t14,t10] h29) (oR [(i 0),t14] h29)) fun vs32 h33=>U3 vs32 fun a34 a35 a36=>ld 156 a34 h33 fun t37=>
 ld 152 a36 h33 fun t38=>
 K c 146 [t37,t38] h33 fun t39 h40=>
 oR [t39,a35] h40)) fun vs41 h42=>U4 vs41 fun a43 a44 a45 a46=>kOR (rG a43 false h42 (ob (vField y 152 0 a46) fun g47=>some (g47,h42))) fun t48 h49=>
 kOR (rG a43 false h49 (ob (vLoad y 3 t48 h49) fun g50=>some (g50,h49))) fun t51 h52=>
 kOR (rG a43 false h52 (kOR (c 144 [t51] h52) orK)) fun t53 h54=>
 ob (vPick a43 (.bool true) t53) fun t55=>
 kOR (vAlloc y 184 h54) fun t56 h57=>
 fd 152 0 a46 fun t58=>
 ld 3 t58 h57 fun t59=>
 K c 140 [t59] h57 fun t60 h61=>
 jn (nB 0 (ql 32 [a44,a45,a46,t55,t56,t60,(i 0)] h61)) fun vs62 h63=>U3 vs62 fun a64 a65 a66=>fd 152 0 a65 fun t67=>
 ld 3 t67 h63 fun t68=>
 ld 184 a66 h63 fun t69=>
 K c 147 [t68,t69] h63 fun t70 h71=>
 oR [t70,a64] h71
def L32 (c:CH) (ql:QH) (us:List GV) (H:GH):RS:=U7 us fun a72 a73 a74 a75 a76 a77 a78=>jn (bn .lss 3 a78 a77 fun t79=>
 ob (GV.asB t79) fun q80=>jn (bC q80 (oX 0 [a73,a74,a76] H) (oN [a72,a73,a74,a75,a76,a77,a78] H)) fun vs81 h82=>U7 vs81 fun a83 a84 a85 a86 a87 a88 a89=>jn (nB 1 (ld 156 a83 h82 fun t90=>
 K c 115 [t90,a84,a86] h82 fun t91 h92=>
 ex 0 t91 fun t93=>
 ex 1 t91 fun t94=>
 ix 184 a87 a89 fun t95=>
 kOR (vStore y 3 t95 t93 h92) fun t96 h97=>
 oN [a83,t94,a85,a86,a87,a88,a89] h97)) fun vs98 h99=>U7 vs98 fun a100 a101 a102 a103 a104 a105 a106=>bn .add 3 a106 (i 1) fun t107=>
 oN [a100,a101,a102,a103,a104,a105,t107] h99) (ql 32)
def B116 (c:CH) (ql:QH) (us:List GV) (H:GH):RS:=U2 us fun x1 x2=>
 kOR (vBox x1 H) fun t3 h4=>
 kOR (vBox x2 h4) fun t5 h6=>
 ld 25 t3 h6 fun t7=>
 K c 148 [t7] h6 fun t8 h9=>
 ob (vUn .not t8) fun t10=>
 ob (GV.asB t10) fun q11=>jn (bC q11 (oN [t3,t5] h9) (oR [(i 8)] h9)) fun vs12 h13=>U2 vs12 fun a14 a15=>ld 53 a15 h13 fun t16=>
 K c 128 [t16] h13 fun t17 h18=>
 ob (vUn .not t17) fun t19=>
 ob (GV.asB t19) fun q20=>jn (bC q20 (oN [a14,a15] h18) (oR [(i 1)] h18)) fun vs21 h22=>U2 vs21 fun a23 a24=>fd 25 1 a23 fun t25=>
 ld 22 t25 h22 fun t26=>
 ln 22 t26 fun t27=>
 jn (nB 0 (ql 33 [a24,t26,t27,(i 0)] h22)) fun vs28 h29=>U0 vs28 (oR [(i 0)] h29)
def L33 (c:CH) (ql:QH) (us:List GV) (H:GH):RS:=U4 us fun a30 a31 a32 a33=>jn (bn .lss 3 a33 a32 fun t34=>
 ob (GV.asB t34) fun q35=>jn (bC q35 (oX 0 [] H) (oN [a30,a31,a32,a33] H)) fun vs36 h37=>U4 vs36 fun a38 a39 a40 a41=>jn (nB 1 (ix 22 a39 a41 fun t42=>
 ld 33 t42 h37 fun t43=>
 kOR (vAlloc y 33 h37) fun t44 h45=>
 kOR (vStore y 33 t44 t43 h45) fun t46 h47=>
 fd 33 1 t44 fun t48=>
 ld 3 t48 h47 fun t49=>
 bn .neq 3 t49 (i 1) fun t50=>
 ob (GV.asB t50) fun q51=>jn (bC q51 (oN [a38,t44,a39,a40,a41] h47) (oX 1 [a38,a39,a40,a41] h47)) fun vs52 h53=>U5 vs52 fun a54 a55 a56 a57 a58=>ld 33 a55 h53 fun t59=>
 ld 53 a54 h53 fun t60=>
 K c 149 [t59,t60,(i 0)] h53 fun t61 h62=>
 ex 0 t61 fun t63=>
 ex 1 t61 fun t64=>
 bn .lss 3 t64 t63 fun t65=>
 kOR (rG t65 false h62 (some (t64,h62))) fun t66 h67=>
 kOR (rG t65 false h67 (some (t63,h67))) fun t68 h69=>
 kOR (rG t65 false h69 (ob (vBin y .sub 3 t66 t68) fun g70=>some (g70,h69))) fun t71 h72=>
 kOR (rG t65 false h72 (ob (vBin y .add 3 t71 (i 1)) fun g73=>some (g73,h72))) fun t74 h75=>
 kOR (rG t65 false h75 (ob (vBin y .gtr 3 t74 (i 4096)) fun g76=>some (g76,h75))) fun t77 h78=>
 ob (vPick t65 (.bool true) t77) fun t79=>
 ob (GV.asB t79) fun q80=>jn (bC q80 (oN [a54,a56,a57,a58] h78) (oR [(i 9)] h78)) fun vs81 h82=>U4 vs81 fun a83 a84 a85 a86=>oN [a83,a84,a85,a86] h82)) fun vs87 h88=>U4 vs87 fun a89 a90 a91 a92=>bn .add 3 a92 (i 1) fun t93=>
 oN [a89,a90,a91,t93] h88) (ql 33)
def B117 (c:CH) (ql:QH) (us:List GV) (H:GH):RS:=U2 us fun x1 x2=>
 ln 57 x2 fun t3=>
 ln 161 x1 fun t4=>
 bn .neq 3 t3 t4 fun t5=>
 ob (GV.asB t5) fun q6=>jn (bC q6 (oN [x1,x2] H) (oR [(.bool false)] H)) fun vs7 h8=>U2 vs7 fun a9 a10=>ln 161 a9 fun t11=>
 jn (nB 0 (ql 34 [a10,a9,t11,(i 0)] h8)) fun vs12 h13=>U0 vs12 (oR [(.bool true)] h13)
def L34 (c:CH) (ql:QH) (us:List GV) (H:GH):RS:=U4 us fun a14 a15 a16 a17=>jn (bn .lss 3 a17 a16 fun t18=>
 ob (GV.asB t18) fun q19=>jn (bC q19 (oX 0 [] H) (oN [a14,a15,a16,a17] H)) fun vs20 h21=>U4 vs20 fun a22 a23 a24 a25=>jn (nB 1 (ix 161 a23 a25 fun t26=>
 ld 187 t26 h21 fun t27=>
 ix 57 a22 a25 fun t28=>
 ld 50 t28 h21 fun t29=>
 K c 150 [t27,t29] h21 fun t30 h31=>
 ob (vUn .not t30) fun t32=>
 ob (GV.asB t32) fun q33=>jn (bC q33 (oN [a22,a23,a24,a25] h31) (oR [(.bool false)] h31)) fun vs34 h35=>U4 vs34 fun a36 a37 a38 a39=>oN [a36,a37,a38,a39] h35)) fun vs40 h41=>U4 vs40 fun a42 a43 a44 a45=>bn .add 3 a45 (i 1) fun t46=>
 oN [a42,a43,a44,t46] h41) (ql 34)
def B118 (c:CH) (ql:QH) (us:List GV) (H:GH):RS:=U2 us fun x1 x2=>
 kOR (vBox x1 H) fun t3 h4=>
 kOR (vBox x2 h4) fun t5 h6=>
 fd 53 0 t5 fun t7=>
 ld 50 t7 h6 fun t8=>
 ln 50 t8 fun t9=>
 kOR (vMake y 161 t9 t9 h6) fun t10 h11=>
 ln 161 t10 fun t12=>
 jn (nB 0 (ql 35 [t3,t5,t10,t12,(i 0)] h11)) fun vs13 h14=>U1 vs13 fun a15=>oR [a15] h14
def L35 (c:CH) (ql:QH) (us:List GV) (H:GH):RS:=U5 us fun a16 a17 a18 a19 a20=>jn (bn .lss 3 a20 a19 fun t21=>
 ob (GV.asB t21) fun q22=>jn (bC q22 (oX 0 [a18] H) (oN [a16,a17,a18,a19,a20] H)) fun vs23 h24=>U5 vs23 fun a25 a26 a27 a28 a29=>jn (nB 1 (fd 25 1 a25 fun t30=>
 ld 22 t30 h24 fun t31=>
 ln 22 t31 fun t32=>
 kOR (vMake y 187 t32 t32 h24) fun t33 h34=>
 ix 161 a27 a29 fun t35=>
 kOR (vStore y 187 t35 t33 h34) fun t36 h37=>
 fd 25 1 a25 fun t38=>
 ld 22 t38 h37 fun t39=>
 ln 22 t39 fun t40=>
 jn (nB 2 (ql 36 [a25,a26,a27,a29,a28,a29,t39,t40,(i 0)] h37)) fun vs41 h42=>U5 vs41 fun a43 a44 a45 a46 a47=>oN [a43,a44,a45,a46,a47] h42)) fun vs48 h49=>U5 vs48 fun a50 a51 a52 a53 a54=>bn .add 3 a54 (i 1) fun t55=>
 oN [a50,a51,a52,a53,t55] h49) (ql 35)
def L36 (c:CH) (ql:QH) (us:List GV) (H:GH):RS:=U9 us fun a56 a57 a58 a59 a60 a61 a62 a63 a64=>jn (bn .lss 3 a64 a63 fun t65=>
 ob (GV.asB t65) fun q66=>jn (bC q66 (oX 2 [a56,a57,a58,a60,a61] H) (oN [a56,a57,a58,a59,a60,a61,a62,a63,a64] H)) fun vs67 h68=>U9 vs67 fun a69 a70 a71 a72 a73 a74 a75 a76 a77=>jn (nB 3 (ix 22 a75 a77 fun t78=>
 ld 33 t78 h68 fun t79=>
 kOR (vAlloc y 33 h68) fun t80 h81=>
 kOR (vStore y 33 t80 t79 h81) fun t82 h83=>
 ix 161 a71 a72 fun t84=>
 ld 187 t84 h83 fun t85=>
 ob (Option.casesOn (motive:=fun _=>Option (Option (Nat×Nat))) (ob (GV.asP t84) fun p=>some p.1) (some none) fun k87=>ob (GH.ver h83 k87) fun k88=>some (some (k87,k88))) fun e86=>
 ix 161 a71 a72 fun t89=>
 ld 187 t89 h83 fun t90=>
 ob (Option.casesOn (motive:=fun _=>Option (Option (Nat×Nat))) (ob (GV.asP t89) fun p=>some p.1) (some none) fun k92=>ob (GH.ver h83 k92) fun k93=>some (some (k92,k93))) fun e91=>
 ld 33 t80 h83 fun t94=>
 ob (Option.casesOn (motive:=fun _=>Option (Option (Nat×Nat))) (ob (GV.asP t80) fun p=>some p.1) (some none) fun k96=>ob (GH.ver h83 k96) fun k97=>some (some (k96,k97))) fun e95=>
 ld 53 a70 h83 fun t98=>
 ob (Option.casesOn (motive:=fun _=>Option (Option (Nat×Nat))) (ob (GV.asP a70) fun p=>some p.1) (some none) fun k100=>ob (GH.ver h83 k100) fun k101=>some (some (k100,k101))) fun e99=>
 K c 149 [t94,t98,a72] h83 fun t102 h103=>
 ob (pck h103 e91 (pck h103 e86 (some ()))) fun _=>
 ex 0 t102 fun t104=>
 ex 1 t102 fun t105=>
 ix 187 t85 a77 fun t106=>
 ix 189 t106 (i 0) fun t107=>
 kOR (vStore y 3 t107 t104 h103) fun t108 h109=>
 ob (some ()) fun _=>
 ix 187 t90 a77 fun t110=>
 ix 189 t110 (i 1) fun t111=>
 kOR (vStore y 3 t111 t105 h109) fun t112 h113=>
 ob (some ()) fun _=>
 oN [a69,a70,a71,a72,a73,a74,a75,a76,a77] h113)) fun vs114 h115=>U9 vs114 fun a116 a117 a118 a119 a120 a121 a122 a123 a124=>bn .add 3 a124 (i 1) fun t125=>
 oN [a116,a117,a118,a119,a120,a121,a122,a123,t125] h115) (ql 36)
def B119 (c:CH) (ql:QH) (us:List GV) (H:GH):RS:=U2 us fun x1 x2=>
 kOR (vBox x1 H) fun t3 h4=>
 kOR (vBox x2 h4) fun t5 h6=>
 ld 25 t3 h6 fun t7=>
 ob (Option.casesOn (motive:=fun _=>Option (Option (Nat×Nat))) (ob (GV.asP t3) fun p=>some p.1) (some none) fun k9=>ob (GH.ver h6 k9) fun k10=>some (some (k9,k10))) fun e8=>
 ld 53 t5 h6 fun t11=>
 ob (Option.casesOn (motive:=fun _=>Option (Option (Nat×Nat))) (ob (GV.asP t5) fun p=>some p.1) (some none) fun k13=>ob (GH.ver h6 k13) fun k14=>some (some (k13,k14))) fun e12=>
 fd 53 1 t5 fun t15=>
 ld 51 t15 h6 fun t16=>
 ob (Option.casesOn (motive:=fun _=>Option (Option (Nat×Nat))) (ob (GV.asP t15) fun p=>some p.1) (some none) fun k18=>ob (GH.ver h6 k18) fun k19=>some (some (k18,k19))) fun e17=>
 ln 51 t16 fun t20=>
 kOR (vMake y 57 t20 t20 h6) fun t21 h22=>
 ob (pck h22 e12 (pck h22 e8 (some ()))) fun _=>
 bd 191 [(0,t7),(1,t11),(3,t21)] fun t23=>
 kOR (vBox t23 h22) fun t24 h25=>
 ob (some ()) fun _=>
 fd 53 1 t5 fun t26=>
 ld 51 t26 h25 fun t27=>
 ln 51 t27 fun t28=>
 jn (nB 0 (ql 37 [t5,t24,t27,t28,(i 0)] h25)) fun vs29 h30=>U1 vs29 fun a31=>oR [a31] h30
def L37 (c:CH) (ql:QH) (us:List GV) (H:GH):RS:=U5 us fun a32 a33 a34 a35 a36=>jn (bn .lss 3 a36 a35 fun t37=>
 ob (GV.asB t37) fun q38=>jn (bC q38 (oX 0 [a33] H) (oN [a32,a33,a34,a35,a36] H)) fun vs39 h40=>U5 vs39 fun a41 a42 a43 a44 a45=>jn (nB 1 (ix 51 a43 a45 fun t46=>
 ld 132 t46 h40 fun t47=>
 ob (GV.nilck a42) fun t48=>
 fd 191 2 t48 fun t49=>
 ld 3 t49 h40 fun t50=>
 fd 53 0 a41 fun t51=>
 ld 50 t51 h40 fun t52=>
 ix 50 t52 a45 fun t53=>
 ld 3 t53 h40 fun t54=>
 ob (vMax t50 t54) fun t55=>
 ob (GV.nilck a42) fun t56=>
 fd 191 2 t56 fun t57=>
 kOR (vStore y 3 t57 t55 h40) fun t58 h59=>
 ln 132 t47 fun t60=>
 jn (nB 2 (ql 38 [a41,a42,a45,a43,a44,a45,t47,t60,(i 0)] h59)) fun vs61 h62=>U5 vs61 fun a63 a64 a65 a66 a67=>oN [a63,a64,a65,a66,a67] h62)) fun vs68 h69=>U5 vs68 fun a70 a71 a72 a73 a74=>bn .add 3 a74 (i 1) fun t75=>
 oN [a70,a71,a72,a73,t75] h69) (ql 37)
def L38 (c:CH) (ql:QH) (us:List GV) (H:GH):RS:=U9 us fun a76 a77 a78 a79 a80 a81 a82 a83 a84=>jn (bn .lss 3 a84 a83 fun t85=>
 ob (GV.asB t85) fun q86=>jn (bC q86 (oX 2 [a76,a77,a79,a80,a81] H) (oN [a76,a77,a78,a79,a80,a81,a82,a83,a84] H)) fun vs87 h88=>U9 vs87 fun a89 a90 a91 a92 a93 a94 a95 a96 a97=>jn (nB 3 (ix 132 a95 a97 fun t98=>
 ld 131 t98 h88 fun t99=>
 kOR (vAlloc y 131 h88) fun t100 h101=>
 kOR (vStore y 131 t100 t99 h101) fun t102 h103=>
 ob (GV.nilck a90) fun t104=>
 fd 191 3 t104 fun t105=>
 ld 57 t105 h103 fun t106=>
 ob (Option.casesOn (motive:=fun _=>Option (Option (Nat×Nat))) (ob (GV.asP t105) fun p=>some p.1) (some none) fun k108=>ob (GH.ver h103 k108) fun k109=>some (some (k108,k109))) fun e107=>
 ob (GV.nilck a90) fun t110=>
 fd 191 3 t110 fun t111=>
 ld 57 t111 h103 fun t112=>
 ob (Option.casesOn (motive:=fun _=>Option (Option (Nat×Nat))) (ob (GV.asP t111) fun p=>some p.1) (some none) fun k114=>ob (GH.ver h103 k114) fun k115=>some (some (k114,k115))) fun e113=>
 ix 57 t112 a91 fun t116=>
 ld 50 t116 h103 fun t117=>
 ob (Option.casesOn (motive:=fun _=>Option (Option (Nat×Nat))) (ob (GV.asP t116) fun p=>some p.1) (some none) fun k119=>ob (GH.ver h103 k119) fun k120=>some (some (k119,k120))) fun e118=>
 ld 53 a89 h103 fun t121=>
 ob (Option.casesOn (motive:=fun _=>Option (Option (Nat×Nat))) (ob (GV.asP a89) fun p=>some p.1) (some none) fun k123=>ob (GH.ver h103 k123) fun k124=>some (some (k123,k124))) fun e122=>
 fd 131 0 t100 fun t125=>
 ld 3 t125 h103 fun t126=>
 ob (Option.casesOn (motive:=fun _=>Option (Option (Nat×Nat))) (ob (GV.asP t125) fun p=>some p.1) (some none) fun k128=>ob (GH.ver h103 k128) fun k129=>some (some (k128,k129))) fun e127=>
 K c 151 [t121,t126,a91] h103 fun t130 h131=>
 ob (pck h131 e118 (pck h131 e113 (pck h131 e107 (some ())))) fun _=>
 kOR (vBuildS y 50 1 [(0,t130)] h131) fun t132 h133=>
 ob (pck h133 e118 (pck h133 e113 (pck h133 e107 (some ())))) fun _=>
 kOR (vApp y 50 50 t117 t132 h133) fun t134 h135=>
 ob (pck h135 e107 (some ())) fun _=>
 ix 57 t106 a91 fun t136=>
 kOR (vStore y 50 t136 t134 h135) fun t137 h138=>
 ob (some ()) fun _=>
 oN [a89,a90,a91,a92,a93,a94,a95,a96,a97] h138)) fun vs139 h140=>U9 vs139 fun a141 a142 a143 a144 a145 a146 a147 a148 a149=>bn .add 3 a149 (i 1) fun t150=>
 oN [a141,a142,a143,a144,a145,a146,a147,a148,t150] h140) (ql 38)
def B120 (c:CH) (ql:QH) (us:List GV) (H:GH):RS:=U1 us fun x1=>
 ln 57 x1 fun t2=>
 kOR (vMake y 57 t2 t2 H) fun t3 h4=>
 ln 57 x1 fun t5=>
 jn (nB 0 (ql 39 [t3,x1,t5,(i 0)] h4)) fun vs6 h7=>U1 vs6 fun a8=>oR [a8] h7
def L39 (c:CH) (ql:QH) (us:List GV) (H:GH):RS:=U4 us fun a9 a10 a11 a12=>jn (bn .lss 3 a12 a11 fun t13=>
 ob (GV.asB t13) fun q14=>jn (bC q14 (oX 0 [a9] H) (oN [a9,a10,a11,a12] H)) fun vs15 h16=>U4 vs15 fun a17 a18 a19 a20=>jn (nB 1 (ix 57 a18 a20 fun t21=>
 ld 50 t21 h16 fun t22=>
 kOR (vApp y 50 50 .snil t22 h16) fun t23 h24=>
 ix 57 a17 a20 fun t25=>
 kOR (vStore y 50 t25 t23 h24) fun t26 h27=>
 oN [a17,a18,a19,a20] h27)) fun vs28 h29=>U4 vs28 fun a30 a31 a32 a33=>bn .add 3 a33 (i 1) fun t34=>
 oN [a30,a31,a32,t34] h29) (ql 39)
def B124 (c:CH) (ql:QH) (us:List GV) (H:GH):RS:=U3 us fun x1 x2 x3=>
 K c 120 [x2] H fun t4 h5=>
 ln 57 x2 fun t6=>
 jn (nB 0 (ql 40 [x1,x2,x3,t4,t6,(i 0)] h5)) fun vs7 h8=>U1 vs7 fun a9=>oR [a9] h8
def L40 (c:CH) (ql:QH) (us:List GV) (H:GH):RS:=U6 us fun a10 a11 a12 a13 a14 a15=>jn (bn .lss 3 a15 a14 fun t16=>
 ob (GV.asB t16) fun q17=>jn (bC q17 (oX 0 [a13] H) (oN [a10,a11,a12,a13,a14,a15] H)) fun vs18 h19=>U6 vs18 fun a20 a21 a22 a23 a24 a25=>jn (nB 1 (bn .shr 59 a22 a25 fun t26=>
 bn .and 59 t26 (.int .u32 (.ofNat 1)) fun t27=>
 bn .eql 59 t27 (.int .u32 (.ofNat 1)) fun t28=>
 ob (GV.asB t28) fun q29=>jn (bC q29 (oN [a20,a21,a22,a23,a24,a25] h19) (K c 154 [a20,a21,a25] h19 fun t30 h31=>
 K c 156 [a20,a21,a25,t30] h31 fun t32 h33=>
 ix 57 a23 a25 fun t34=>
 kOR (vStore y 50 t34 t32 h33) fun t35 h36=>
 oN [a20,a21,a22,a23,a24,a25] h36)) fun vs37 h38=>U6 vs37 fun a39 a40 a41 a42 a43 a44=>oN [a39,a40,a41,a42,a43,a44] h38)) fun vs45 h46=>U6 vs45 fun a47 a48 a49 a50 a51 a52=>bn .add 3 a52 (i 1) fun t53=>
 oN [a47,a48,a49,a50,a51,t53] h46) (ql 40)
def B133 (c:CH) (ql:QH) (us:List GV) (H:GH):RS:=U2 us fun x1 x2=>
 ln 9 x1 fun t3=>
 ln 9 x2 fun t4=>
 bn .geq 3 t3 t4 fun t5=>
 kOR (rG t5 true H (some (x1,H))) fun t6 h7=>
 kOR (rG t5 true h7 (some (x2,h7))) fun t8 h9=>
 kOR (rG t5 true h9 (ob (vLen y 9 t8) fun g10=>some (g10,h9))) fun t11 h12=>
 kOR (rG t5 true h12 (ob (vSlice y 9 t6 none (some t11) h12) fun g13=>some (g13,h12))) fun t14 h15=>
 kOR (rG t5 true h15 (some (x2,h15))) fun t16 h17=>
 kOR (rG t5 true h17 (ob (vBin y .eql 9 t14 t16) fun g18=>some (g18,h17))) fun t19 h20=>
 ob (vPick t5 t19 (.bool false)) fun t21=>
 oR [t21] h20
def B140 (c:CH) (ql:QH) (us:List GV) (H:GH):RS:=U1 us fun x1=>
 jn (nB 0 (bn .lss 3 x1 (i 1) fun t2=>
 kOR (rG t2 false H (some (x1,H))) fun t3 h4=>
 kOR (rG t2 false h4 (ob (vBin y .gtr 3 t3 (i 43)) fun g5=>some (g5,h4))) fun t6 h7=>
 ob (vPick t2 (.bool true) t6) fun t8=>
 ob (GV.asB t8) fun q9=>jn (bC q9 (bn .leq 3 x1 (i 17) fun t10=>
 ob (GV.asB t10) fun q11=>jn (bC q11 (bn .leq 3 x1 (i 29) fun t12=>
 ob (GV.asB t12) fun q13=>jn (bC q13 (bn .leq 3 x1 (i 42) fun t14=>
 ob (GV.asB t14) fun q15=>jn (bC q15 (oN [] h7) (oR [(i 2)] h7)) fun vs16 h17=>U0 vs16 (oN [] h17)) (oR [(i 1)] h7)) fun vs18 h19=>U0 vs18 (oN [] h19)) (oR [(i 0)] h7)) fun vs20 h21=>U0 vs20 (oN [] h21)) (oR [(.int .i64 (.negSucc 0))] h7)) fun vs22 h23=>U0 vs22 (oN [] h23))) fun vs24 h25=>U0 vs24 (oR [(i 3)] h25)
def B141 (c:CH) (ql:QH) (us:List GV) (H:GH):RS:=U2 us fun x1 x2=>
 K c 111 [x1,(i 0)] H fun t3 h4=>
 ln 90 x1 fun t5=>
 bn .neq 3 t3 t5 fun t6=>
 ob (GV.asB t6) fun q7=>jn (bC q7 (oN [x1,x2] h4) (oR [(i 0),(.bool false)] h4)) fun vs8 h9=>U2 vs8 fun a10 a11=>ln 90 a10 fun t12=>
 bn .sub 3 t12 (i 1) fun t13=>
 jn (nB 0 (ql 41 [a10,a11,.snil,t13] h9)) fun vs14 h15=>U1 vs14 fun a16=>ix 50 a16 (i 0) fun t17=>
 ld 3 t17 h15 fun t18=>
 oR [t18,(.bool true)] h15
def L41 (c:CH) (ql:QH) (us:List GV) (H:GH):RS:=U4 us fun a19 a20 a21 a22=>jn (bn .geq 3 a22 (i 0) fun t23=>
 ob (GV.asB t23) fun q24=>jn (bC q24 (oX 0 [a21] H) (oN [a19,a20,a21,a22] H)) fun vs25 h26=>U4 vs25 fun a27 a28 a29 a30=>jn (nB 1 (ln 50 a29 fun t31=>
 ix 90 a27 a30 fun t32=>
 fd 152 0 t32 fun t33=>
 ld 3 t33 h26 fun t34=>
 K c 140 [t34] h26 fun t35 h36=>
 bn .sub 3 t31 t35 fun t37=>
 ob (vSlice y 50 a29 (some t37) none h36) fun t38=>
 ln 50 t38 fun t39=>
 jn (nB 2 (ql 42 [a27,a28,a29,a30,t37,(i 0),t38,t39,(i 0)] h36)) fun vs40 h41=>U6 vs40 fun a42 a43 a44 a45 a46 a47=>ob (vSlice y 50 a44 none (some a46) h41) fun t48=>
 ix 90 a42 a45 fun t49=>
 fd 152 0 t49 fun t50=>
 ld 3 t50 h41 fun t51=>
 ob (GV.asF a43) fun p54=>kOR (c p54.1 (p54.2.1++[t51,a47]++p54.2.2) h41) fun t52 h53=>
 kOR (vBuildS y 50 1 [(0,t52)] h53) fun t55 h56=>
 kOR (vApp y 50 50 t48 t55 h56) fun t57 h58=>
 oN [a42,a43,t57,a45] h58)) fun vs59 h60=>U4 vs59 fun a61 a62 a63 a64=>bn .sub 3 a64 (i 1) fun t65=>
 oN [a61,a62,a63,t65] h60) (ql 41)
def L42 (c:CH) (ql:QH) (us:List GV) (H:GH):RS:=U9 us fun a66 a67 a68 a69 a70 a71 a72 a73 a74=>jn (bn .lss 3 a74 a73 fun t75=>
 ob (GV.asB t75) fun q76=>jn (bC q76 (oX 2 [a66,a67,a68,a69,a70,a71] H) (oN [a66,a67,a68,a69,a70,a71,a72,a73,a74] H)) fun vs77 h78=>U9 vs77 fun a79 a80 a81 a82 a83 a84 a85 a86 a87=>jn (nB 3 (ix 50 a85 a87 fun t88=>
 ld 3 t88 h78 fun t89=>
 ob (vMax a84 t89) fun t90=>
 oN [a79,a80,a81,a82,a83,t90,a85,a86,a87] h78)) fun vs91 h92=>U9 vs91 fun a93 a94 a95 a96 a97 a98 a99 a100 a101=>bn .add 3 a101 (i 1) fun t102=>
 oN [a93,a94,a95,a96,a97,a98,a99,a100,t102] h92) (ql 42)
def B142 (c:CH) (ql:QH) (us:List GV) (H:GH):RS:=U2 us fun x1 x2=>
 bn .add 3 x2 (i 1) fun t3=>
 oR [t3] H
def B143 (c:CH) (ql:QH) (us:List GV) (H:GH):RS:=U2 us fun x1 x2=>
 K c 144 [x1] H fun t3 h4=>
 ob (GV.asB t3) fun q5=>jn (bC q5 (oN [x2] h4) (bn .add 3 x2 (i 1) fun t6=>
 oR [t6] h4)) fun vs7 h8=>U1 vs7 fun a9=>oR [a9] h8
def B144 (c:CH) (ql:QH) (us:List GV) (H:GH):RS:=U1 us fun x1=>
 bn .geq 3 x1 (i 20) fun t2=>
 kOR (rG t2 true H (some (x1,H))) fun t3 h4=>
 kOR (rG t2 true h4 (ob (vBin y .leq 3 t3 (i 29)) fun g5=>some (g5,h4))) fun t6 h7=>
 ob (vPick t2 t6 (.bool false)) fun t8=>
 oR [t8] h7
def B146 (c:CH) (ql:QH) (us:List GV) (H:GH):RS:=U2 us fun x1 x2=>
 kOR (vBox x1 H) fun t3 h4=>
 kOR (vBox x2 h4) fun t5 h6=>
 fd 152 0 t5 fun t7=>
 ld 3 t7 h6 fun t8=>
 jn (nB 0 (bn .eql 3 t8 (i 2) fun t9=>
 ob (GV.asB t9) fun q10=>jn (bC q10 (bn .eql 3 t8 (i 3) fun t11=>
 ob (GV.asB t11) fun q12=>jn (bC q12 (bn .eql 3 t8 (i 10) fun t13=>
 ob (GV.asB t13) fun q14=>jn (bC q14 (bn .eql 3 t8 (i 15) fun t15=>
 oN [t3,t5,t8,t15] h6) (oN [t3,t5,t8,t13] h6)) fun vs16 h17=>U4 vs16 fun a18 a19 a20 a21=>oN [a18,a19,a20,a21] h17) (oN [t3,t5,t8,t11] h6)) fun vs22 h23=>U4 vs22 fun a24 a25 a26 a27=>oN [a24,a25,a26,a27] h23) (oN [t3,t5,t8,t9] h6)) fun vs28 h29=>U4 vs28 fun a30 a31 a32 a33=>ob (GV.asB a33) fun q34=>jn (bC q34 (bn .eql 3 a32 (i 4) fun t35=>
 ob (GV.asB t35) fun q36=>jn (bC q36 (bn .eql 3 a32 (i 11) fun t37=>
 ob (GV.asB t37) fun q38=>jn (bC q38 (bn .eql 3 a32 (i 17) fun t39=>
 oN [a30,a31,a32,t39] h29) (oN [a30,a31,a32,t37] h29)) fun vs40 h41=>U4 vs40 fun a42 a43 a44 a45=>oN [a42,a43,a44,a45] h41) (oN [a30,a31,a32,t35] h29)) fun vs46 h47=>U4 vs46 fun a48 a49 a50 a51=>ob (GV.asB a51) fun q52=>jn (bC q52 (bn .eql 3 a50 (i 5) fun t53=>
 ob (GV.asB t53) fun q54=>jn (bC q54 (bn .eql 3 a50 (i 12) fun t55=>
 oN [a48,a49,t55] h47) (oN [a48,a49,t53] h47)) fun vs56 h57=>U3 vs56 fun a58 a59 a60=>ob (GV.asB a60) fun q61=>jn (bC q61 (oN [] h57) (fd 156 1 a58 fun t62=>
 ld 50 t62 h57 fun t63=>
 fd 152 1 a59 fun t64=>
 ld 3 t64 h57 fun t65=>
 ix 50 t63 t65 fun t66=>
 ld 3 t66 h57 fun t67=>
 oR [t67] h57)) fun vs68 h69=>U0 vs68 (oN [] h69)) (oR [(i 3)] h47)) fun vs70 h71=>U0 vs70 (oN [] h71)) (oR [(i 2)] h29)) fun vs72 h73=>U0 vs72 (oN [] h73))) fun vs74 h75=>U0 vs74 (oR [(i 1)] h75)
def B147 (c:CH) (ql:QH) (us:List GV) (H:GH):RS:=U2 us fun x1 x2=>
 kOR (vBox x2 H) fun t3 h4=>
 ix 184 t3 (i 0) fun t5=>
 ld 3 t5 h4 fun t6=>
 ix 184 t3 (i 1) fun t7=>
 ld 3 t7 h4 fun t8=>
 ix 184 t3 (i 2) fun t9=>
 ld 3 t9 h4 fun t10=>
 jn (nB 0 (bn .eql 3 x1 (i 18) fun t11=>
 ob (GV.asB t11) fun q12=>jn (bC q12 (bn .eql 3 x1 (i 24) fun t13=>
 ob (GV.asB t13) fun q14=>jn (bC q14 (bn .eql 3 x1 (i 25) fun t15=>
 ob (GV.asB t15) fun q16=>jn (bC q16 (bn .eql 3 x1 (i 26) fun t17=>
 ob (GV.asB t17) fun q18=>jn (bC q18 (bn .eql 3 x1 (i 27) fun t19=>
 ob (GV.asB t19) fun q20=>jn (bC q20 (bn .eql 3 x1 (i 28) fun t21=>
 ob (GV.asB t21) fun q22=>jn (bC q22 (bn .eql 3 x1 (i 29) fun t23=>
 oN [t6,t8,t10,x1,t23] h4) (oN [t6,t8,t10,x1,t21] h4)) fun vs24 h25=>U5 vs24 fun a26 a27 a28 a29 a30=>oN [a26,a27,a28,a29,a30] h25) (oN [t6,t8,t10,x1,t19] h4)) fun vs31 h32=>U5 vs31 fun a33 a34 a35 a36 a37=>oN [a33,a34,a35,a36,a37] h32) (oN [t6,t8,t10,x1,t17] h4)) fun vs38 h39=>U5 vs38 fun a40 a41 a42 a43 a44=>oN [a40,a41,a42,a43,a44] h39) (oN [t6,t8,t10,x1,t15] h4)) fun vs45 h46=>U5 vs45 fun a47 a48 a49 a50 a51=>oN [a47,a48,a49,a50,a51] h46) (oN [t6,t8,t10,x1,t13] h4)) fun vs52 h53=>U5 vs52 fun a54 a55 a56 a57 a58=>oN [a54,a55,a56,a57,a58] h53) (oN [t6,t8,t10,x1,t11] h4)) fun vs59 h60=>U5 vs59 fun a61 a62 a63 a64 a65=>ob (GV.asB a65) fun q66=>jn (bC q66 (bn .eql 3 a64 (i 19) fun t70=>
 ob (GV.asB t70) fun q71=>jn (bC q71 (bn .eql 3 a64 (i 20) fun t72=>
 ob (GV.asB t72) fun q73=>jn (bC q73 (bn .eql 3 a64 (i 21) fun t74=>
 oN [a61,a62,a63,a64,t74] h60) (oN [a61,a62,a63,a64,t72] h60)) fun vs75 h76=>U5 vs75 fun a77 a78 a79 a80 a81=>oN [a77,a78,a79,a80,a81] h76) (oN [a61,a62,a63,a64,t70] h60)) fun vs82 h83=>U5 vs82 fun a84 a85 a86 a87 a88=>ob (GV.asB a88) fun q89=>jn (bC q89 (bn .eql 3 a87 (i 22) fun t93=>
 ob (GV.asB t93) fun q94=>jn (bC q94 (bn .eql 3 a87 (i 23) fun t98=>
 ob (GV.asB t98) fun q99=>jn (bC q99 (bn .eql 3 a87 (i 30) fun t103=>
 ob (GV.asB t103) fun q104=>jn (bC q104 (bn .eql 3 a87 (i 31) fun t105=>
 ob (GV.asB t105) fun q106=>jn (bC q106 (bn .eql 3 a87 (i 32) fun t107=>
 ob (GV.asB t107) fun q108=>jn (bC q108 (bn .eql 3 a87 (i 33) fun t109=>
 ob (GV.asB t109) fun q110=>jn (bC q110 (bn .eql 3 a87 (i 34) fun t111=>
 oN [a84,a85,a86,a87,t111] h83) (oN [a84,a85,a86,a87,t109] h83)) fun vs112 h113=>U5 vs112 fun a114 a115 a116 a117 a118=>oN [a114,a115,a116,a117,a118] h113) (oN [a84,a85,a86,a87,t107] h83)) fun vs119 h120=>U5 vs119 fun a121 a122 a123 a124 a125=>oN [a121,a122,a123,a124,a125] h120) (oN [a84,a85,a86,a87,t105] h83)) fun vs126 h127=>U5 vs126 fun a128 a129 a130 a131 a132=>oN [a128,a129,a130,a131,a132] h127) (oN [a84,a85,a86,a87,t103] h83)) fun vs133 h134=>U5 vs133 fun a135 a136 a137 a138 a139=>ob (GV.asB a139) fun q140=>jn (bC q140 (bn .eql 3 a138 (i 35) fun t150=>
 ob (GV.asB t150) fun q151=>jn (bC q151 (bn .eql 3 a138 (i 36) fun t152=>
 oN [a135,a136,a137,a138,t152] h134) (oN [a135,a136,a137,a138,t150] h134)) fun vs153 h154=>U5 vs153 fun a155 a156 a157 a158 a159=>ob (GV.asB a159) fun q160=>jn (bC q160 (bn .eql 3 a158 (i 37) fun t170=>
 ob (GV.asB t170) fun q171=>jn (bC q171 (bn .eql 3 a158 (i 38) fun t172=>
 ob (GV.asB t172) fun q173=>jn (bC q173 (bn .eql 3 a158 (i 39) fun t174=>
 ob (GV.asB t174) fun q175=>jn (bC q175 (bn .eql 3 a158 (i 40) fun t176=>
 oN [a155,a156,a157,a158,t176] h154) (oN [a155,a156,a157,a158,t174] h154)) fun vs177 h178=>U5 vs177 fun a179 a180 a181 a182 a183=>oN [a179,a180,a181,a182,a183] h178) (oN [a155,a156,a157,a158,t172] h154)) fun vs184 h185=>U5 vs184 fun a186 a187 a188 a189 a190=>oN [a186,a187,a188,a189,a190] h185) (oN [a155,a156,a157,a158,t170] h154)) fun vs191 h192=>U5 vs191 fun a193 a194 a195 a196 a197=>ob (GV.asB a197) fun q198=>jn (bC q198 (bn .eql 3 a196 (i 41) fun t208=>
 ob (GV.asB t208) fun q209=>jn (bC q209 (bn .eql 3 a196 (i 42) fun t210=>
 oN [a193,a194,a195,t210] h192) (oN [a193,a194,a195,t208] h192)) fun vs211 h212=>U4 vs211 fun a213 a214 a215 a216=>ob (GV.asB a216) fun q217=>jn (bC q217 (oN [a213,a214,a215] h212) (bn .eql 3 a213 (i 2) fun t218=>
 kOR (rG t218 true h212 (some (a214,h212))) fun t219 h220=>
 kOR (rG t218 true h220 (ob (vBin y .eql 3 t219 (i 2)) fun g221=>some (g221,h220))) fun t222 h223=>
 ob (vPick t218 t222 (.bool false)) fun t224=>
 K c 168 [t224,(i 2)] h223 fun t225 h226=>
 oR [t225] h226)) fun vs227 h228=>U3 vs227 fun a229 a230 a231=>oN [a229,a230,a231] h228) (bn .eql 3 a193 (i 1) fun t199=>
 kOR (rG t199 true h192 (some (a194,h192))) fun t200 h201=>
 kOR (rG t199 true h201 (ob (vBin y .eql 3 t200 (i 1)) fun g202=>some (g202,h201))) fun t203 h204=>
 ob (vPick t199 t203 (.bool false)) fun t205=>
 K c 168 [t205,(i 2)] h204 fun t206 h207=>
 oR [t206] h207)) fun vs232 h233=>U3 vs232 fun a234 a235 a236=>oN [a234,a235,a236] h233) (bn .eql 3 a155 a156 fun t161=>
 kOR (rG t161 true h154 (some (a155,h154))) fun t162 h163=>
 kOR (rG t161 true h163 (ob (vBin y .neq 3 t162 (i 0)) fun g164=>some (g164,h163))) fun t165 h166=>
 ob (vPick t161 t165 (.bool false)) fun t167=>
 K c 168 [t167,(i 2)] h166 fun t168 h169=>
 oR [t168] h169)) fun vs237 h238=>U3 vs237 fun a239 a240 a241=>oN [a239,a240,a241] h238) (bn .eql 3 a135 (i 1) fun t141=>
 kOR (rG t141 true h134 (some (a136,h134))) fun t142 h143=>
 kOR (rG t141 true h143 (ob (vBin y .eql 3 t142 (i 1)) fun g144=>some (g144,h143))) fun t145 h146=>
 ob (vPick t141 t145 (.bool false)) fun t147=>
 K c 168 [t147,(i 1)] h146 fun t148 h149=>
 oR [t148] h149)) fun vs242 h243=>U3 vs242 fun a244 a245 a246=>oN [a244,a245,a246] h243) (bn .eql 3 a84 (i 2) fun t100=>
 K c 168 [t100,(i 3)] h83 fun t101 h102=>
 oR [t101] h102)) fun vs247 h248=>U3 vs247 fun a249 a250 a251=>oN [a249,a250,a251] h248) (bn .eql 3 a84 (i 2) fun t95=>
 K c 168 [t95,(i 1)] h83 fun t96 h97=>
 oR [t96] h97)) fun vs252 h253=>U3 vs252 fun a254 a255 a256=>oN [a254,a255,a256] h253) (bn .eql 3 a84 (i 2) fun t90=>
 K c 168 [t90,(i 2)] h83 fun t91 h92=>
 oR [t91] h92)) fun vs257 h258=>U3 vs257 fun a259 a260 a261=>oN [a259,a260,a261] h258) (bn .eql 3 a61 (i 1) fun t67=>
 K c 168 [t67,(i 1)] h60 fun t68 h69=>
 oR [t68] h69)) fun vs262 h263=>U3 vs262 fun a264 a265 a266=>oN [a264,a265,a266] h263)) fun vs267 h268=>U3 vs267 fun a269 a270 a271=>bn .eql 3 a269 (i 2) fun t272=>
 kOR (rG t272 true h268 (some (a270,h268))) fun t273 h274=>
 kOR (rG t272 true h274 (some (a271,h274))) fun t275 h276=>
 kOR (rG t272 true h276 (ob (vBin y .eql 3 t273 t275) fun g277=>some (g277,h276))) fun t278 h279=>
 ob (vPick t272 t278 (.bool false)) fun t280=>
 K c 168 [t280,a270] h279 fun t281 h282=>
 oR [t281] h282
def B149 (c:CH) (ql:QH) (us:List GV) (H:GH):RS:=U3 us fun x1 x2 x3=>
 kOR (vBox x1 H) fun t4 h5=>
 kOR (vBox x2 h5) fun t6 h7=>
 bd 206 [(0,(i 1)),(1,(.fn 169 [] []))] fun t8=>
 bd 206 [(0,(i 2)),(1,(.fn 171 [] []))] fun t9=>
 bd 206 [(0,(i 3)),(1,(.fn 172 [] []))] fun t10=>
 kOR (vBuildS y 207 3 [(0,t8),(1,t9),(2,t10)] h7) fun t11 h12=>
 ln 207 t11 fun t13=>
 jn (nB 0 (ql 43 [x3,t4,t6,t11,t13,(i 0)] h12)) fun vs14 h15=>U0 vs14 (oR [(i 0),(.int .i64 (.negSucc 0))] h15)
def L43 (c:CH) (ql:QH) (us:List GV) (H:GH):RS:=U6 us fun a16 a17 a18 a19 a20 a21=>jn (bn .lss 3 a21 a20 fun t22=>
 ob (GV.asB t22) fun q23=>jn (bC q23 (oX 0 [] H) (oN [a16,a17,a18,a19,a20,a21] H)) fun vs24 h25=>U6 vs24 fun a26 a27 a28 a29 a30 a31=>jn (nB 1 (ix 207 a29 a31 fun t32=>
 ld 206 t32 h25 fun t33=>
 kOR (vAlloc y 206 h25) fun t34 h35=>
 kOR (vStore y 206 t34 t33 h35) fun t36 h37=>
 fd 206 0 t34 fun t38=>
 ld 3 t38 h37 fun t39=>
 fd 33 1 a27 fun t40=>
 ld 3 t40 h37 fun t41=>
 bn .eql 3 t39 t41 fun t42=>
 ob (GV.asB t42) fun q43=>jn (bC q43 (oN [a26,a27,a28,a29,a30,a31] h37) (fd 206 1 t34 fun t44=>
 ld 186 t44 h37 fun t45=>
 ld 33 a27 h37 fun t46=>
 ld 53 a28 h37 fun t47=>
 ob (GV.asF t45) fun p50=>kOR (c p50.1 (p50.2.1++[t46,t47,a26]++p50.2.2) h37) fun t48 h49=>
 ex 0 t48 fun t51=>
 ex 1 t48 fun t52=>
 oR [t51,t52] h49)) fun vs53 h54=>U6 vs53 fun a55 a56 a57 a58 a59 a60=>oN [a55,a56,a57,a58,a59,a60] h54)) fun vs61 h62=>U6 vs61 fun a63 a64 a65 a66 a67 a68=>bn .add 3 a68 (i 1) fun t69=>
 oN [a63,a64,a65,a66,a67,t69] h62) (ql 43)
def B150 (c:CH) (ql:QH) (us:List GV) (H:GH):RS:=U2 us fun x1 x2=>
 ln 50 x2 fun t3=>
 ln 187 x1 fun t4=>
 bn .neq 3 t3 t4 fun t5=>
 ob (GV.asB t5) fun q6=>jn (bC q6 (oN [x1,x2] H) (oR [(.bool false)] H)) fun vs7 h8=>U2 vs7 fun a9 a10=>ln 50 a10 fun t11=>
 jn (nB 0 (ql 44 [a9,a10,t11,(i 0)] h8)) fun vs12 h13=>U0 vs12 (oR [(.bool true)] h13)
def L44 (c:CH) (ql:QH) (us:List GV) (H:GH):RS:=U4 us fun a14 a15 a16 a17=>jn (bn .lss 3 a17 a16 fun t18=>
 ob (GV.asB t18) fun q19=>jn (bC q19 (oX 0 [] H) (oN [a14,a15,a16,a17] H)) fun vs20 h21=>U4 vs20 fun a22 a23 a24 a25=>jn (nB 1 (ix 50 a23 a25 fun t26=>
 ld 3 t26 h21 fun t27=>
 ix 187 a22 a25 fun t28=>
 ix 189 t28 (i 0) fun t29=>
 ld 3 t29 h21 fun t30=>
 bn .lss 3 t27 t30 fun t31=>
 kOR (rG t31 false h21 (some (t27,h21))) fun t32 h33=>
 kOR (rG t31 false h33 (some (a22,h33))) fun t34 h35=>
 kOR (rG t31 false h35 (some (a25,h35))) fun t36 h37=>
 kOR (rG t31 false h37 (ob (vIndex y 187 t34 t36) fun g38=>some (g38,h37))) fun t39 h40=>
 kOR (rG t31 false h40 (ob (vIndex y 189 t39 (i 1)) fun g41=>some (g41,h40))) fun t42 h43=>
 kOR (rG t31 false h43 (ob (vLoad y 3 t42 h43) fun g44=>some (g44,h43))) fun t45 h46=>
 kOR (rG t31 false h46 (ob (vBin y .gtr 3 t32 t45) fun g47=>some (g47,h46))) fun t48 h49=>
 ob (vPick t31 (.bool true) t48) fun t50=>
 ob (GV.asB t50) fun q51=>jn (bC q51 (oN [a22,a23,a24,a25] h49) (oR [(.bool false)] h49)) fun vs52 h53=>U4 vs52 fun a54 a55 a56 a57=>oN [a54,a55,a56,a57] h53)) fun vs58 h59=>U4 vs58 fun a60 a61 a62 a63=>bn .add 3 a63 (i 1) fun t64=>
 oN [a60,a61,a62,t64] h59) (ql 44)
def B151 (c:CH) (ql:QH) (us:List GV) (H:GH):RS:=U3 us fun x1 x2 x3=>
 kOR (vBox x1 H) fun t4 h5=>
 fd 53 1 t4 fun t6=>
 ld 51 t6 h5 fun t7=>
 ix 51 t7 x2 fun t8=>
 ld 132 t8 h5 fun t9=>
 ln 132 t9 fun t10=>
 jn (nB 0 (ql 45 [x3,t9,t10,(i 0)] h5)) fun vs11 h12=>U0 vs11 (oR [(.int .i64 (.negSucc 0))] h12)
def L45 (c:CH) (ql:QH) (us:List GV) (H:GH):RS:=U4 us fun a13 a14 a15 a16=>jn (bn .lss 3 a16 a15 fun t17=>
 ob (GV.asB t17) fun q18=>jn (bC q18 (oX 0 [] H) (oN [a13,a14,a15,a16] H)) fun vs19 h20=>U4 vs19 fun a21 a22 a23 a24=>jn (nB 1 (ix 132 a22 a24 fun t25=>
 ld 131 t25 h20 fun t26=>
 kOR (vAlloc y 131 h20) fun t27 h28=>
 kOR (vStore y 131 t27 t26 h28) fun t29 h30=>
 fd 131 0 t27 fun t31=>
 ld 3 t31 h30 fun t32=>
 bn .eql 3 t32 a21 fun t33=>
 ob (GV.asB t33) fun q34=>jn (bC q34 (oN [a21,a22,a23,a24] h30) (oR [a24] h30)) fun vs35 h36=>U4 vs35 fun a37 a38 a39 a40=>oN [a37,a38,a39,a40] h36)) fun vs41 h42=>U4 vs41 fun a43 a44 a45 a46=>bn .add 3 a46 (i 1) fun t47=>
 oN [a43,a44,a45,t47] h42) (ql 45)
def B152 (c:CH) (ql:QH) (us:List GV) (H:GH):RS:=U2 us fun x1 x2=>
 jn (nB 0 (ql 46 [x2,(.int .u32 (.ofNat 0)),x1,(i 0)] H)) fun vs3 h4=>U1 vs3 fun a5=>oR [a5] h4
def L46 (c:CH) (ql:QH) (us:List GV) (H:GH):RS:=U4 us fun a6 a7 a8 a9=>jn (bn .lss 3 a9 a8 fun t10=>
 ob (GV.asB t10) fun q11=>jn (bC q11 (oX 0 [a7] H) (oN [a6,a7,a8,a9] H)) fun vs12 h13=>U4 vs12 fun a14 a15 a16 a17=>jn (nB 1 (ob (GV.asF a14) fun p20=>kOR (c p20.1 (p20.2.1++[a17]++p20.2.2) h13) fun t18 h19=>
 ob (GV.asB t18) fun q21=>jn (bC q21 (oN [a14,a15,a16,a17] h19) (bn .shl 59 (.int .u32 (.ofNat 1)) a17 fun t22=>
 bn .or 59 a15 t22 fun t23=>
 oN [a14,t23,a16,a17] h19)) fun vs24 h25=>U4 vs24 fun a26 a27 a28 a29=>oN [a26,a27,a28,a29] h25)) fun vs30 h31=>U4 vs30 fun a32 a33 a34 a35=>bn .add 3 a35 (i 1) fun t36=>
 oN [a32,a33,a34,t36] h31) (ql 46)
def B154 (c:CH) (ql:QH) (us:List GV) (H:GH):RS:=U3 us fun x1 x2 x3=>
 ob (GV.nilck x1) fun t4=>
 fd 166 0 t4 fun t5=>
 fd 25 2 t5 fun t6=>
 ld 23 t6 H fun t7=>
 ln 23 t7 fun t8=>
 jn (nB 0 (ql 47 [x1,x2,x3,t8,(i 0)] H)) fun vs9 h10=>U0 vs9 (oR [(.int .i64 (.negSucc 0))] h10)
def L47 (c:CH) (ql:QH) (us:List GV) (H:GH):RS:=U5 us fun a11 a12 a13 a14 a15=>jn (bn .lss 3 a15 a14 fun t16=>
 ob (GV.asB t16) fun q17=>jn (bC q17 (oX 0 [] H) (oN [a11,a12,a13,a14,a15] H)) fun vs18 h19=>U5 vs18 fun a20 a21 a22 a23 a24=>jn (nB 1 (ob (GV.nilck a20) fun t25=>
 fd 166 1 t25 fun t26=>
 ld 163 t26 h19 fun t27=>
 K c 173 [t27,a21,a22,a24] h19 fun t28 h29=>
 ob (GV.asB t28) fun q30=>jn (bC q30 (oN [a20,a21,a22,a23,a24] h29) (oR [a24] h29)) fun vs31 h32=>U5 vs31 fun a33 a34 a35 a36 a37=>oN [a33,a34,a35,a36,a37] h32)) fun vs38 h39=>U5 vs38 fun a40 a41 a42 a43 a44=>bn .add 3 a44 (i 1) fun t45=>
 oN [a40,a41,a42,a43,t45] h39) (ql 47)
def B156 (c:CH) (ql:QH) (us:List GV) (H:GH):RS:=U4 us fun x1 x2 x3 x4=>
 ix 57 x2 x3 fun t5=>
 ld 50 t5 H fun t6=>
 kOR (vApp y 50 50 .snil t6 H) fun t7 h8=>
 ob (GV.nilck x1) fun t9=>
 fd 166 0 t9 fun t10=>
 fd 25 2 t10 fun t11=>
 ld 23 t11 h8 fun t12=>
 ix 23 t12 x4 fun t13=>
 fd 93 2 t13 fun t14=>
 ld 91 t14 h8 fun t15=>
 ln 91 t15 fun t16=>
 jn (nB 0 (ql 48 [x1,x2,x3,t7,t15,t16,(i 0)] h8)) fun vs17 h18=>U1 vs17 fun a19=>oR [a19] h18
def L48 (c:CH) (ql:QH) (us:List GV) (H:GH):RS:=U7 us fun a20 a21 a22 a23 a24 a25 a26=>jn (bn .lss 3 a26 a25 fun t27=>
 ob (GV.asB t27) fun q28=>jn (bC q28 (oX 0 [a23] H) (oN [a20,a21,a22,a23,a24,a25,a26] H)) fun vs29 h30=>U7 vs29 fun a31 a32 a33 a34 a35 a36 a37=>jn (nB 1 (ix 91 a35 a37 fun t38=>
 ld 123 t38 h30 fun t39=>
 kOR (vAlloc y 123 h30) fun t40 h41=>
 kOR (vStore y 123 t40 t39 h41) fun t42 h43=>
 ob (GV.nilck a31) fun t44=>
 fd 166 1 t44 fun t45=>
 ld 163 t45 h43 fun t46=>
 fd 123 1 t40 fun t47=>
 ld 90 t47 h43 fun t48=>
 K c 174 [t46,a32,a33,t48] h43 fun t49 h50=>
 fd 123 0 t40 fun t51=>
 ld 3 t51 h50 fun t52=>
 ob (Option.casesOn (motive:=fun _=>Option (Option (Nat×Nat))) (ob (GV.asP t51) fun p=>some p.1) (some none) fun k54=>ob (GH.ver h50 k54) fun k55=>some (some (k54,k55))) fun e53=>
 ob (GV.nilck a31) fun t56=>
 fd 166 0 t56 fun t57=>
 fd 25 1 t57 fun t58=>
 ld 22 t58 h50 fun t59=>
 ob (Option.casesOn (motive:=fun _=>Option (Option (Nat×Nat))) (ob (GV.asP t58) fun p=>some p.1) (some none) fun k61=>ob (GH.ver h50 k61) fun k62=>some (some (k61,k62))) fun e60=>
 fd 123 0 t40 fun t63=>
 ld 3 t63 h50 fun t64=>
 ob (Option.casesOn (motive:=fun _=>Option (Option (Nat×Nat))) (ob (GV.asP t63) fun p=>some p.1) (some none) fun k66=>ob (GH.ver h50 k66) fun k67=>some (some (k66,k67))) fun e65=>
 ix 22 t59 t64 fun t68=>
 fd 33 1 t68 fun t69=>
 ld 3 t69 h50 fun t70=>
 ob (Option.casesOn (motive:=fun _=>Option (Option (Nat×Nat))) (ob (GV.asP t69) fun p=>some p.1) (some none) fun k72=>ob (GH.ver h50 k72) fun k73=>some (some (k72,k73))) fun e71=>
 ob (GV.nilck a31) fun t74=>
 fd 166 2 t74 fun t75=>
 ld 161 t75 h50 fun t76=>
 ob (Option.casesOn (motive:=fun _=>Option (Option (Nat×Nat))) (ob (GV.asP t75) fun p=>some p.1) (some none) fun k78=>ob (GH.ver h50 k78) fun k79=>some (some (k78,k79))) fun e77=>
 ix 161 t76 a33 fun t80=>
 ld 187 t80 h50 fun t81=>
 ob (Option.casesOn (motive:=fun _=>Option (Option (Nat×Nat))) (ob (GV.asP t80) fun p=>some p.1) (some none) fun k83=>ob (GH.ver h50 k83) fun k84=>some (some (k83,k84))) fun e82=>
 fd 123 0 t40 fun t85=>
 ld 3 t85 h50 fun t86=>
 ob (Option.casesOn (motive:=fun _=>Option (Option (Nat×Nat))) (ob (GV.asP t85) fun p=>some p.1) (some none) fun k88=>ob (GH.ver h50 k88) fun k89=>some (some (k88,k89))) fun e87=>
 ix 187 t81 t86 fun t90=>
 ld 189 t90 h50 fun t91=>
 ob (Option.casesOn (motive:=fun _=>Option (Option (Nat×Nat))) (ob (GV.asP t90) fun p=>some p.1) (some none) fun k93=>ob (GH.ver h50 k93) fun k94=>some (some (k93,k94))) fun e92=>
 K c 175 [t70,t91,t49] h50 fun t95 h96=>
 ob (pck h96 e53 (some ())) fun _=>
 ix 50 a34 t52 fun t97=>
 kOR (vStore y 3 t97 t95 h96) fun t98 h99=>
 ob (some ()) fun _=>
 oN [a31,a32,a33,a34,a35,a36,a37] h99)) fun vs100 h101=>U7 vs100 fun a102 a103 a104 a105 a106 a107 a108=>bn .add 3 a108 (i 1) fun t109=>
 oN [a102,a103,a104,a105,a106,a107,t109] h101) (ql 48)
def B158 (c:CH) (ql:QH) (us:List GV) (H:GH):RS:=U1 us fun x1=>
 ln 58 x1 fun t2=>
 jn (nB 0 (ql 49 [x1,t2,(i 0)] H)) fun vs3 h4=>U0 vs3 (oR [(.bool true)] h4)
def L49 (c:CH) (ql:QH) (us:List GV) (H:GH):RS:=U3 us fun a5 a6 a7=>jn (bn .lss 3 a7 a6 fun t8=>
 ob (GV.asB t8) fun q9=>jn (bC q9 (oX 0 [] H) (oN [a5,a6,a7] H)) fun vs10 h11=>U3 vs10 fun a12 a13 a14=>jn (nB 1 (ix 58 a12 a14 fun t15=>
 ld 59 t15 h11 fun t16=>
 bn .andNot 59 t16 (.int .u32 (.ofNat 16777215)) fun t17=>
 bn .neq 59 t17 (.int .u32 (.ofNat 0)) fun t18=>
 ob (GV.asB t18) fun q19=>jn (bC q19 (oN [a12,a13,a14] h11) (oR [(.bool false)] h11)) fun vs20 h21=>U3 vs20 fun a22 a23 a24=>oN [a22,a23,a24] h21)) fun vs25 h26=>U3 vs25 fun a27 a28 a29=>bn .add 3 a29 (i 1) fun t30=>
 oN [a27,a28,t30] h26) (ql 49)
def B165 (c:CH) (ql:QH) (us:List GV) (H:GH):RS:=U1 us fun x1=>
 K c 71 [x1] H fun t2 h3=>
 K c 72 [x1] h3 fun t4 h5=>
 bn .eql 3 t4 (i 2) fun t6=>
 ob (GV.asB t6) fun q7=>jn (bC q7 (oN [x1,t2] h5) (K c 74 [x1] h5 fun t8 h9=>
 pt 77 3 t8 fun t10=>
 K c 139 [(i 1),t10] h9 fun t11 h12=>
 oR [t11] h12)) fun vs13 h14=>U2 vs13 fun a15 a16=>K c 70 [a15,(.str 40 1)] h14 fun t17 h18=>
 ob (GV.asB t17) fun q19=>jn (bC q19 (oN [a15,a16] h18) (K c 77 [a15] h18 fun t20 h21=>
 K c 35 [a15,(.str 41 1)] h21 fun t22 h23=>
 oR [t20] h23)) fun vs24 h25=>U2 vs24 fun a26 a27=>K c 70 [a26,(.str 113 1)] h25 fun t28 h29=>
 ob (GV.asB t28) fun q30=>jn (bC q30 (oN [a26,a27] h29) (K c 176 [a26] h29 fun t31 h32=>
 oR [t31] h32)) fun vs33 h34=>U2 vs33 fun a35 a36=>K c 177 [a36] h34 fun t37 h38=>
 bn .neq 3 t37 (i 0) fun t39=>
 ob (GV.asB t39) fun q40=>jn (bC q40 (oN [a35,a36] h38) (K c 74 [a35] h38 fun t41 h42=>
 K c 139 [t37,(i 0)] h42 fun t43 h44=>
 oR [t43] h44)) fun vs45 h46=>U2 vs45 fun a47 a48=>K c 178 [a48] h46 fun t49 h50=>
 bn .neq 3 t49 (i 0) fun t51=>
 ob (GV.asB t51) fun q52=>jn (bC q52 (oN [a47] h50) (K c 74 [a47] h50 fun t53 h54=>
 K c 35 [a47,(.str 40 1)] h54 fun t55 h56=>
 K c 77 [a47] h56 fun t57 h58=>
 K c 35 [a47,(.str 41 1)] h58 fun t59 h60=>
 kOR (vBuildS y 180 1 [(0,t57)] h60) fun t61 h62=>
 K c 109 [t49,t61] h62 fun t63 h64=>
 oR [t63] h64)) fun vs65 h66=>U1 vs65 fun a67=>K c 78 [a67] h66 fun t68 h69=>
 K c 139 [(i 5),t68] h69 fun t70 h71=>
 oR [t70] h71
def B166 (c:CH) (ql:QH) (us:List GV) (H:GH):RS:=U3 us fun x1 x2 x3=>
 bn .eql 9 x1 (.str 0 0) fun t4=>
 ob (GV.asB t4) fun q5=>jn (bC q5 (oN [x1,x2,x3] H) (oR [(i 0)] H)) fun vs6 h7=>U3 vs6 fun a8 a9 a10=>ln 40 a10 fun t11=>
 jn (nB 0 (ql 50 [a8,a9,a10,t11,(i 0)] h7)) fun vs12 h13=>U0 vs12 (oR [(i 0)] h13)
def L50 (c:CH) (ql:QH) (us:List GV) (H:GH):RS:=U5 us fun a14 a15 a16 a17 a18=>jn (bn .lss 3 a18 a17 fun t19=>
 ob (GV.asB t19) fun q20=>jn (bC q20 (oX 0 [] H) (oN [a14,a15,a16,a17,a18] H)) fun vs21 h22=>U5 vs21 fun a23 a24 a25 a26 a27=>jn (nB 1 (ix 40 a25 a27 fun t28=>
 ld 9 t28 h22 fun t29=>
 bn .eql 9 t29 a23 fun t30=>
 ob (GV.asB t30) fun q31=>jn (bC q31 (oN [a23,a24,a25,a26,a27] h22) (bn .add 3 a24 a27 fun t32=>
 oR [t32] h22)) fun vs33 h34=>U5 vs33 fun a35 a36 a37 a38 a39=>oN [a35,a36,a37,a38,a39] h34)) fun vs40 h41=>U5 vs40 fun a42 a43 a44 a45 a46=>bn .add 3 a46 (i 1) fun t47=>
 oN [a42,a43,a44,a45,t47] h41) (ql 50)
def B170 (c:CH) (ql:QH) (us:List GV) (H:GH):RS:=U1 us fun x1=>
 ln 50 x1 fun t2=>
 bn .lss 3 t2 (i 1) fun t3=>
 ob (GV.asB t3) fun q4=>jn (bC q4 (oN [x1] H) (none)) fun vs5 h6=>U1 vs5 fun a7=>ix 50 a7 (i 0) fun t8=>
 ld 3 t8 h6 fun t9=>
 jn (nB 0 (ql 51 [a7,t9,(i 1)] h6)) fun vs10 h11=>U1 vs10 fun a12=>oR [a12] h11
def L51 (c:CH) (ql:QH) (us:List GV) (H:GH):RS:=U3 us fun a13 a14 a15=>jn (ln 50 a13 fun t16=>
 bn .lss 3 a15 t16 fun t17=>
 ob (GV.asB t17) fun q18=>jn (bC q18 (oX 0 [a14] H) (oN [a13,a14,a15] H)) fun vs19 h20=>U3 vs19 fun a21 a22 a23=>jn (nB 1 (ix 50 a21 a23 fun t24=>
 ld 3 t24 h20 fun t25=>
 ob (vMax a22 t25) fun t26=>
 oN [a21,t26,a23] h20)) fun vs27 h28=>U3 vs27 fun a29 a30 a31=>bn .add 3 a31 (i 1) fun t32=>
 oN [a29,a30,t32] h28) (ql 51)
def B179 (c:CH) (ql:QH) (us:List GV) (H:GH):RS:=U3 us fun x1 x2 x3=>
 ob (GV.nilck x1) fun t4=>
 fd 216 3 t4 fun t5=>
 ld 90 t5 H fun t6=>
 ix 90 t6 x2 fun t7=>
 ld 152 t7 H fun t8=>
 kOR (vAlloc y 152 H) fun t9 h10=>
 kOR (vStore y 152 t9 t8 h10) fun t11 h12=>
 jn (nB 0 (fd 152 0 t9 fun t13=>
 ld 3 t13 h12 fun t14=>
 bn .leq 3 t14 (i 17) fun t15=>
 ob (GV.asB t15) fun q16=>jn (bC q16 (fd 152 0 t9 fun t21=>
 ld 3 t21 h12 fun t22=>
 bn .leq 3 t22 (i 19) fun t23=>
 ob (GV.asB t23) fun q24=>jn (bC q24 (fd 152 0 t9 fun t34=>
 ld 3 t34 h12 fun t35=>
 bn .leq 3 t35 (i 29) fun t36=>
 ob (GV.asB t36) fun q37=>jn (bC q37 (fd 152 0 t9 fun t44=>
 ld 3 t44 h12 fun t45=>
 bn .leq 3 t45 (i 42) fun t46=>
 ob (GV.asB t46) fun q47=>jn (bC q47 (oN [x1,x2,x3] h12) (bn .add 3 x2 (i 1) fun t48=>
 K c 179 [x1,t48,x3] h12 fun t49 h50=>
 ex 0 t49 fun t51=>
 ex 1 t49 fun t52=>
 K c 179 [x1,t52,x3] h50 fun t53 h54=>
 ex 0 t53 fun t55=>
 ex 1 t53 fun t56=>
 fd 152 0 t9 fun t57=>
 ld 3 t57 h54 fun t58=>
 K c 186 [t58,t51,t55] h54 fun t59 h60=>
 oR [t59,t56] h60)) fun vs61 h62=>U3 vs61 fun a63 a64 a65=>oN [a63,a64,a65] h62) (fd 152 0 t9 fun t38=>
 ld 3 t38 h12 fun t39=>
 K c 185 [x1,t39,x2] h12 fun t40 h41=>
 ex 0 t40 fun t42=>
 ex 1 t40 fun t43=>
 oR [t42,t43] h41)) fun vs66 h67=>U3 vs66 fun a68 a69 a70=>oN [a68,a69,a70] h67) (bn .add 3 x2 (i 1) fun t25=>
 K c 179 [x1,t25,x3] h12 fun t26 h27=>
 ex 0 t26 fun t28=>
 ex 1 t26 fun t29=>
 fd 152 0 t9 fun t30=>
 ld 3 t30 h27 fun t31=>
 K c 184 [t31,t28] h27 fun t32 h33=>
 oR [t32,t29] h33)) fun vs71 h72=>U3 vs71 fun a73 a74 a75=>oN [a73,a74,a75] h72) (ld 152 t9 h12 fun t17=>
 K c 183 [x1,t17,x3] h12 fun t18 h19=>
 bn .add 3 x2 (i 1) fun t20=>
 oR [t18,t20] h19)) fun vs76 h77=>U3 vs76 fun a78 a79 a80=>oN [a78,a79,a80] h77)) fun vs81 h82=>U3 vs81 fun a83 a84 a85=>bn .add 3 a84 (i 1) fun t86=>
 K c 179 [a83,t86,a85] h82 fun t87 h88=>
 ex 0 t87 fun t89=>
 ex 1 t87 fun t90=>
 K c 179 [a83,t90,a85] h88 fun t91 h92=>
 ex 0 t91 fun t93=>
 ex 1 t91 fun t94=>
 K c 179 [a83,t94,a85] h92 fun t95 h96=>
 ex 0 t95 fun t97=>
 ex 1 t95 fun t98=>
 bn .neq 3 t89 (i 0) fun t99=>
 ob (GV.asB t99) fun q100=>jn (bC q100 (oN [t98,t97] h96) (oR [t93,t98] h96)) fun vs101 h102=>U2 vs101 fun a103 a104=>oR [a104,a103] h102
def B183 (c:CH) (ql:QH) (us:List GV) (H:GH):RS:=U3 us fun x1 x2 x3=>
 kOR (vBox x2 H) fun t4 h5=>
 fd 152 0 t4 fun t6=>
 ld 3 t6 h5 fun t7=>
 jn (nB 0 (bn .eql 3 t7 (i 1) fun t8=>
 ob (GV.asB t8) fun q9=>jn (bC q9 (bn .eql 3 t7 (i 2) fun t12=>
 ob (GV.asB t12) fun q13=>jn (bC q13 (bn .eql 3 t7 (i 3) fun t14=>
 ob (GV.asB t14) fun q15=>jn (bC q15 (bn .eql 3 t7 (i 4) fun t16=>
 ob (GV.asB t16) fun q17=>jn (bC q17 (bn .eql 3 t7 (i 5) fun t18=>
 ob (GV.asB t18) fun q19=>jn (bC q19 (bn .eql 3 t7 (i 12) fun t32=>
 ob (GV.asB t32) fun q33=>jn (bC q33 (oN [x1,x3,t4] h5) (ob (GV.nilck x1) fun t34=>
 fd 216 1 t34 fun t35=>
 ld 57 t35 h5 fun t36=>
 ob (GV.nilck x1) fun t37=>
 fd 216 0 t37 fun t38=>
 ld 163 t38 h5 fun t39=>
 ob (GV.nilck t39) fun t40=>
 fd 191 1 t40 fun t41=>
 fd 53 1 t41 fun t42=>
 ld 51 t42 h5 fun t43=>
 ob (GV.nilck x1) fun t44=>
 fd 216 2 t44 fun t45=>
 ld 3 t45 h5 fun t46=>
 ix 51 t43 t46 fun t47=>
 ld 132 t47 h5 fun t48=>
 ix 132 t48 x3 fun t49=>
 fd 131 0 t49 fun t50=>
 ld 3 t50 h5 fun t51=>
 ix 57 t36 t51 fun t52=>
 ld 50 t52 h5 fun t53=>
 fd 152 1 t4 fun t54=>
 ld 3 t54 h5 fun t55=>
 ix 50 t53 t55 fun t56=>
 ld 3 t56 h5 fun t57=>
 oR [t57] h5)) fun vs58 h59=>U3 vs58 fun a60 a61 a62=>oN [a60,a61,a62] h59) (ob (GV.nilck x1) fun t20=>
 fd 216 1 t20 fun t21=>
 ld 57 t21 h5 fun t22=>
 ob (GV.nilck x1) fun t23=>
 fd 216 2 t23 fun t24=>
 ld 3 t24 h5 fun t25=>
 ix 57 t22 t25 fun t26=>
 ld 50 t26 h5 fun t27=>
 fd 152 1 t4 fun t28=>
 ld 3 t28 h5 fun t29=>
 ix 50 t27 t29 fun t30=>
 ld 3 t30 h5 fun t31=>
 oR [t31] h5)) fun vs63 h64=>U3 vs63 fun a65 a66 a67=>oN [a65,a66,a67] h64) (oR [(.int .i64 (.negSucc 0))] h5)) fun vs68 h69=>U3 vs68 fun a70 a71 a72=>oN [a70,a71,a72] h69) (oR [(i 0)] h5)) fun vs73 h74=>U3 vs73 fun a75 a76 a77=>oN [a75,a76,a77] h74) (oR [(i 1)] h5)) fun vs78 h79=>U3 vs78 fun a80 a81 a82=>oN [a80,a81,a82] h79) (fd 152 1 t4 fun t10=>
 ld 3 t10 h5 fun t11=>
 oR [t11] h5)) fun vs83 h84=>U3 vs83 fun a85 a86 a87=>oN [a85,a86,a87] h84)) fun vs88 h89=>U3 vs88 fun a90 a91 a92=>ob (GV.nilck a90) fun t93=>
 fd 216 0 t93 fun t94=>
 ld 163 t94 h89 fun t95=>
 fd 152 0 a92 fun t96=>
 ld 3 t96 h89 fun t97=>
 ob (GV.nilck a90) fun t98=>
 fd 216 2 t98 fun t99=>
 ld 3 t99 h89 fun t100=>
 K c 188 [t95,t97,t100,a91] h89 fun t101 h102=>
 oR [t101] h102
def B185 (c:CH) (ql:QH) (us:List GV) (H:GH):RS:=U3 us fun x1 x2 x3=>
 kOR (vAlloc y 222 H) fun t4 h5=>
 ob (GV.nilck x1) fun t6=>
 fd 216 0 t6 fun t7=>
 ld 163 t7 h5 fun t8=>
 ob (GV.nilck t8) fun t9=>
 fd 191 1 t9 fun t10=>
 fd 53 1 t10 fun t11=>
 ld 51 t11 h5 fun t12=>
 ob (GV.nilck x1) fun t13=>
 fd 216 2 t13 fun t14=>
 ld 3 t14 h5 fun t15=>
 ix 51 t12 t15 fun t16=>
 ld 132 t16 h5 fun t17=>
 ln 132 t17 fun t18=>
 jn (nB 0 (ql 52 [x1,x2,x3,(i 0),t4,t18,t18,(i 0)] h5)) fun vs19 h20=>U6 vs19 fun a21 a22 a23 a24 a25 a26=>bn .eql 3 a26 (i 0) fun t27=>
 ob (GV.asB t27) fun q28=>jn (bC q28 (oN [a22,a24,a25,a26] h20) (ob (GV.nilck a21) fun t29=>
 fd 216 3 t29 fun t30=>
 ld 90 t30 h20 fun t31=>
 K c 111 [t31,a23] h20 fun t32 h33=>
 oN [a22,t32,a25,a26] h33)) fun vs34 h35=>U4 vs34 fun a36 a37 a38 a39=>ob (vSlice y 222 a38 none (some a39) h35) fun t40=>
 K c 190 [a36,t40] h35 fun t41 h42=>
 oR [t41,a37] h42
def L52 (c:CH) (ql:QH) (us:List GV) (H:GH):RS:=U8 us fun a43 a44 a45 a46 a47 a48 a49 a50=>jn (bn .lss 3 a50 a49 fun t51=>
 ob (GV.asB t51) fun q52=>jn (bC q52 (oX 0 [a43,a44,a45,a46,a47,a48] H) (oN [a43,a44,a45,a47,a48,a49,a50] H)) fun vs53 h54=>U7 vs53 fun a55 a56 a57 a58 a59 a60 a61=>jn (nB 1 (bn .add 3 a57 (i 1) fun t62=>
 K c 179 [a55,t62,a61] h54 fun t63 h64=>
 ex 0 t63 fun t65=>
 ex 1 t63 fun t66=>
 ix 222 a58 a61 fun t67=>
 kOR (vStore y 3 t67 t65 h64) fun t68 h69=>
 oN [a55,a56,a57,t66,a58,a59,a60,a61] h69)) fun vs70 h71=>U8 vs70 fun a72 a73 a74 a75 a76 a77 a78 a79=>bn .add 3 a79 (i 1) fun t80=>
 oN [a72,a73,a74,a75,a76,a77,a78,t80] h71) (ql 52)
def B186 (c:CH) (ql:QH) (us:List GV) (H:GH):RS:=U3 us fun x1 x2 x3=>
 jn (nB 0 (bn .eql 3 x1 (i 30) fun t4=>
 ob (GV.asB t4) fun q5=>jn (bC q5 (bn .eql 3 x1 (i 31) fun t9=>
 ob (GV.asB t9) fun q10=>jn (bC q10 (bn .eql 3 x1 (i 32) fun t15=>
 ob (GV.asB t15) fun q16=>jn (bC q16 (bn .eql 3 x1 (i 33) fun t29=>
 ob (GV.asB t29) fun q30=>jn (bC q30 (bn .eql 3 x1 (i 34) fun t34=>
 ob (GV.asB t34) fun q35=>jn (bC q35 (bn .eql 3 x1 (i 41) fun t39=>
 ob (GV.asB t39) fun q40=>jn (bC q40 (bn .eql 3 x1 (i 42) fun t50=>
 ob (GV.asB t50) fun q51=>jn (bC q51 (oN [x1,x2,x3] H) (bn .neq 3 x2 (i 0) fun t52=>
 kOR (rG t52 false H (some (x3,H))) fun t53 h54=>
 kOR (rG t52 false h54 (ob (vBin y .neq 3 t53 (i 0)) fun g55=>some (g55,h54))) fun t56 h57=>
 ob (vPick t52 (.bool true) t56) fun t58=>
 K c 189 [t58] h57 fun t59 h60=>
 oR [t59] h60)) fun vs61 h62=>U3 vs61 fun a63 a64 a65=>oN [a63,a64,a65] h62) (bn .neq 3 x2 (i 0) fun t41=>
 kOR (rG t41 true H (some (x3,H))) fun t42 h43=>
 kOR (rG t41 true h43 (ob (vBin y .neq 3 t42 (i 0)) fun g44=>some (g44,h43))) fun t45 h46=>
 ob (vPick t41 t45 (.bool false)) fun t47=>
 K c 189 [t47] h46 fun t48 h49=>
 oR [t48] h49)) fun vs66 h67=>U3 vs66 fun a68 a69 a70=>oN [a68,a69,a70] h67) (bn .sub 3 x2 x3 fun t36=>
 K c 191 [t36] H fun t37 h38=>
 oR [t37] h38)) fun vs71 h72=>U3 vs71 fun a73 a74 a75=>oN [a73,a74,a75] h72) (bn .add 3 x2 x3 fun t31=>
 K c 191 [t31] H fun t32 h33=>
 oR [t32] h33)) fun vs76 h77=>U3 vs76 fun a78 a79 a80=>oN [a78,a79,a80] h77) (bn .eql 3 x3 (i 0) fun t17=>
 ob (GV.asB t17) fun q18=>jn (bC q18 (oN [x2,x3] H) (oR [(i 0)] H)) fun vs19 h20=>U2 vs19 fun a21 a22=>K c 192 [a21,a22] h20 fun t23 h24=>
 bn .mul 3 a22 t23 fun t25=>
 bn .sub 3 a21 t25 fun t26=>
 K c 191 [t26] h24 fun t27 h28=>
 oR [t27] h28)) fun vs81 h82=>U3 vs81 fun a83 a84 a85=>oN [a83,a84,a85] h82) (K c 192 [x2,x3] H fun t11 h12=>
 K c 191 [t11] h12 fun t13 h14=>
 oR [t13] h14)) fun vs86 h87=>U3 vs86 fun a88 a89 a90=>oN [a88,a89,a90] h87) (bn .mul 3 x2 x3 fun t6=>
 K c 191 [t6] H fun t7 h8=>
 oR [t7] h8)) fun vs91 h92=>U3 vs91 fun a93 a94 a95=>oN [a93,a94,a95] h92)) fun vs96 h97=>U3 vs96 fun a98 a99 a100=>K c 193 [a98,a99,a100] h97 fun t101 h102=>
 K c 189 [t101] h102 fun t103 h104=>
 oR [t103] h104
def B188 (c:CH) (ql:QH) (us:List GV) (H:GH):RS:=U4 us fun x1 x2 x3 x4=>
 jn (nB 0 (bn .eql 3 x2 (i 6) fun t5=>
 ob (GV.asB t5) fun q6=>jn (bC q6 (bn .eql 3 x2 (i 7) fun t12=>
 ob (GV.asB t12) fun q13=>jn (bC q13 (bn .eql 3 x2 (i 8) fun t17=>
 ob (GV.asB t17) fun q18=>jn (bC q18 (bn .eql 3 x2 (i 9) fun t25=>
 ob (GV.asB t25) fun q26=>jn (bC q26 (bn .eql 3 x2 (i 10) fun t34=>
 ob (GV.asB t34) fun q35=>jn (bC q35 (bn .eql 3 x2 (i 11) fun t39=>
 ob (GV.asB t39) fun q40=>jn (bC q40 (oN [x1,x2,x3,x4] H) (oR [x4] H)) fun vs41 h42=>U4 vs41 fun a43 a44 a45 a46=>oN [a43,a44,a45,a46] h42) (bn .eql 3 x3 (i 0) fun t36=>
 K c 189 [t36] H fun t37 h38=>
 oR [t37] h38)) fun vs47 h48=>U4 vs47 fun a49 a50 a51 a52=>oN [a49,a50,a51,a52] h48) (ob (GV.nilck x1) fun t27=>
 fd 191 1 t27 fun t28=>
 fd 53 1 t28 fun t29=>
 ld 51 t29 H fun t30=>
 ix 51 t30 x3 fun t31=>
 ld 132 t31 H fun t32=>
 ln 132 t32 fun t33=>
 oR [t33] H)) fun vs53 h54=>U4 vs53 fun a55 a56 a57 a58=>oN [a55,a56,a57,a58] h54) (ob (GV.nilck x1) fun t19=>
 fd 191 1 t19 fun t20=>
 fd 53 0 t20 fun t21=>
 ld 50 t21 H fun t22=>
 ix 50 t22 x3 fun t23=>
 ld 3 t23 H fun t24=>
 oR [t24] H)) fun vs59 h60=>U4 vs59 fun a61 a62 a63 a64=>oN [a61,a62,a63,a64] h60) (ob (GV.nilck x1) fun t14=>
 fd 191 2 t14 fun t15=>
 ld 3 t15 H fun t16=>
 oR [t16] H)) fun vs65 h66=>U4 vs65 fun a67 a68 a69 a70=>oN [a67,a68,a69,a70] h66) (ob (GV.nilck x1) fun t7=>
 fd 191 1 t7 fun t8=>
 fd 53 0 t8 fun t9=>
 ld 50 t9 H fun t10=>
 ln 50 t10 fun t11=>
 oR [t11] H)) fun vs71 h72=>U4 vs71 fun a73 a74 a75 a76=>oN [a73,a74,a75,a76] h72)) fun vs77 h78=>U4 vs77 fun a79 a80 a81 a82=>ob (GV.nilck a79) fun t83=>
 fd 191 1 t83 fun t84=>
 fd 53 1 t84 fun t85=>
 ld 51 t85 h78 fun t86=>
 ix 51 t86 a81 fun t87=>
 ld 132 t87 h78 fun t88=>
 ix 132 t88 a82 fun t89=>
 ld 131 t89 h78 fun t90=>
 kOR (vAlloc y 131 h78) fun t91 h92=>
 kOR (vStore y 131 t91 t90 h92) fun t93 h94=>
 jn (nB 1 (bn .eql 3 a80 (i 13) fun t95=>
 ob (GV.asB t95) fun q96=>jn (bC q96 (bn .eql 3 a80 (i 14) fun t105=>
 ob (GV.asB t105) fun q106=>jn (bC q106 (bn .eql 3 a80 (i 15) fun t116=>
 ob (GV.asB t116) fun q117=>jn (bC q117 (bn .eql 3 a80 (i 16) fun t123=>
 ob (GV.asB t123) fun q124=>jn (bC q124 (oN [a79,a81,a82] h94) (fd 131 1 t91 fun t125=>
 ld 3 t125 h94 fun t126=>
 oR [t126] h94)) fun vs127 h128=>U3 vs127 fun a129 a130 a131=>oN [a129,a130,a131] h128) (fd 131 0 t91 fun t118=>
 ld 3 t118 h94 fun t119=>
 bn .eql 3 t119 (i 0) fun t120=>
 K c 189 [t120] h94 fun t121 h122=>
 oR [t121] h122)) fun vs132 h133=>U3 vs132 fun a134 a135 a136=>oN [a134,a135,a136] h133) (ob (GV.nilck a79) fun t107=>
 fd 191 1 t107 fun t108=>
 fd 53 1 t108 fun t109=>
 ld 51 t109 h94 fun t110=>
 fd 131 0 t91 fun t111=>
 ld 3 t111 h94 fun t112=>
 ix 51 t110 t112 fun t113=>
 ld 132 t113 h94 fun t114=>
 ln 132 t114 fun t115=>
 oR [t115] h94)) fun vs137 h138=>U3 vs137 fun a139 a140 a141=>oN [a139,a140,a141] h138) (ob (GV.nilck a79) fun t97=>
 fd 191 1 t97 fun t98=>
 fd 53 0 t98 fun t99=>
 ld 50 t99 h94 fun t100=>
 fd 131 0 t91 fun t101=>
 ld 3 t101 h94 fun t102=>
 ix 50 t100 t102 fun t103=>
 ld 3 t103 h94 fun t104=>
 oR [t104] h94)) fun vs142 h143=>U3 vs142 fun a144 a145 a146=>oN [a144,a145,a146] h143)) fun vs147 h148=>U3 vs147 fun a149 a150 a151=>ob (GV.nilck a149) fun t152=>
 fd 191 3 t152 fun t153=>
 ld 57 t153 h148 fun t154=>
 ix 57 t154 a150 fun t155=>
 ld 50 t155 h148 fun t156=>
 ix 50 t156 a151 fun t157=>
 ld 3 t157 h148 fun t158=>
 oR [t158] h148
def B190 (c:CH) (ql:QH) (us:List GV) (H:GH):RS:=U2 us fun x1 x2=>
 jn (nB 0 (bn .eql 3 x1 (i 20) fun t3=>
 ob (GV.asB t3) fun q4=>jn (bC q4 (bn .eql 3 x1 (i 21) fun t11=>
 ob (GV.asB t11) fun q12=>jn (bC q12 (bn .eql 3 x1 (i 22) fun t18=>
 ob (GV.asB t18) fun q19=>jn (bC q19 (bn .eql 3 x1 (i 23) fun t22=>
 ob (GV.asB t22) fun q23=>jn (bC q23 (bn .eql 3 x1 (i 24) fun t26=>
 ob (GV.asB t26) fun q27=>jn (bC q27 (bn .eql 3 x1 (i 25) fun t32=>
 ob (GV.asB t32) fun q33=>jn (bC q33 (bn .eql 3 x1 (i 26) fun t38=>
 ob (GV.asB t38) fun q39=>jn (bC q39 (bn .eql 3 x1 (i 27) fun t46=>
 ob (GV.asB t46) fun q47=>jn (bC q47 (bn .eql 3 x1 (i 28) fun t50=>
 ob (GV.asB t50) fun q51=>jn (bC q51 (oN [x2] H) (K c 197 [x2] H fun t52 h53=>
 ex 0 t52 fun t54=>
 ex 1 t52 fun t55=>
 oR [t55] h53)) fun vs56 h57=>U1 vs56 fun a58=>oN [a58] h57) (K c 198 [x2] H fun t48 h49=>
 oR [t48] h49)) fun vs59 h60=>U1 vs59 fun a61=>oN [a61] h60) (ln 50 x2 fun t40=>
 jn (nB 3 (ql 54 [(i 0),x2,t40,(i 0)] H)) fun vs41 h42=>U1 vs41 fun a43=>K c 191 [a43] h42 fun t44 h45=>
 oR [t44] h45)) fun vs62 h63=>U1 vs62 fun a64=>oN [a64] h63) (K c 197 [x2] H fun t34 h35=>
 ex 0 t34 fun t36=>
 ex 1 t34 fun t37=>
 oR [t36] h35)) fun vs65 h66=>U1 vs65 fun a67=>oN [a67] h66) (ln 50 x2 fun t28=>
 jn (nB 1 (ql 53 [(i 1073741824),x2,t28,(i 0)] H)) fun vs29 h30=>U1 vs29 fun a31=>oR [a31] h30)) fun vs68 h69=>U1 vs68 fun a70=>oN [a70] h69) (K c 195 [x2,(.fn 196 [] [])] H fun t24 h25=>
 oR [t24] h25)) fun vs71 h72=>U1 vs71 fun a73=>oN [a73] h72) (K c 194 [x2] H fun t20 h21=>
 oR [t20] h21)) fun vs74 h75=>U1 vs74 fun a76=>oN [a76] h75) (K c 194 [x2] H fun t13 h14=>
 bn .gtr 3 t13 (i 0) fun t15=>
 K c 189 [t15] h14 fun t16 h17=>
 oR [t16] h17)) fun vs77 h78=>U1 vs77 fun a79=>oN [a79] h78) (K c 194 [x2] H fun t5 h6=>
 ln 50 x2 fun t7=>
 bn .eql 3 t5 t7 fun t8=>
 K c 189 [t8] h6 fun t9 h10=>
 oR [t9] h10)) fun vs80 h81=>U1 vs80 fun a82=>oN [a82] h81)) fun vs83 h84=>U1 vs83 fun a85=>ln 50 a85 fun t86=>
 bn .eql 3 t86 (i 0) fun t87=>
 ob (GV.asB t87) fun q88=>jn (bC q88 (oN [a85] h84) (oR [(i 0)] h84)) fun vs89 h90=>U1 vs89 fun a91=>ix 50 a91 (i 0) fun t92=>
 ld 3 t92 h90 fun t93=>
 oR [t93] h90
def L53 (c:CH) (ql:QH) (us:List GV) (H:GH):RS:=U4 us fun a94 a95 a96 a97=>jn (bn .lss 3 a97 a96 fun t98=>
 ob (GV.asB t98) fun q99=>jn (bC q99 (oX 1 [a94] H) (oN [a94,a95,a96,a97] H)) fun vs100 h101=>U4 vs100 fun a102 a103 a104 a105=>jn (nB 2 (ix 50 a103 a105 fun t106=>
 ld 3 t106 h101 fun t107=>
 ob (vMin a102 t107) fun t108=>
 oN [t108,a103,a104,a105] h101)) fun vs109 h110=>U4 vs109 fun a111 a112 a113 a114=>bn .add 3 a114 (i 1) fun t115=>
 oN [a111,a112,a113,t115] h110) (ql 53)
def L54 (c:CH) (ql:QH) (us:List GV) (H:GH):RS:=U4 us fun a116 a117 a118 a119=>jn (bn .lss 3 a119 a118 fun t120=>
 ob (GV.asB t120) fun q121=>jn (bC q121 (oX 3 [a116] H) (oN [a116,a117,a118,a119] H)) fun vs122 h123=>U4 vs122 fun a124 a125 a126 a127=>jn (nB 4 (ix 50 a125 a127 fun t128=>
 ld 3 t128 h123 fun t129=>
 bn .add 3 a124 t129 fun t130=>
 oN [t130,a125,a126,a127] h123)) fun vs131 h132=>U4 vs131 fun a133 a134 a135 a136=>bn .add 3 a136 (i 1) fun t137=>
 oN [a133,a134,a135,t137] h132) (ql 54)
def B194 (c:CH) (ql:QH) (us:List GV) (H:GH):RS:=U1 us fun x1=>
 ln 50 x1 fun t2=>
 jn (nB 0 (ql 55 [(i 0),x1,t2,(i 0)] H)) fun vs3 h4=>U1 vs3 fun a5=>oR [a5] h4
def L55 (c:CH) (ql:QH) (us:List GV) (H:GH):RS:=U4 us fun a6 a7 a8 a9=>jn (bn .lss 3 a9 a8 fun t10=>
 ob (GV.asB t10) fun q11=>jn (bC q11 (oX 0 [a6] H) (oN [a6,a7,a8,a9] H)) fun vs12 h13=>U4 vs12 fun a14 a15 a16 a17=>jn (nB 1 (ix 50 a15 a17 fun t18=>
 ld 3 t18 h13 fun t19=>
 bn .neq 3 t19 (i 0) fun t20=>
 ob (GV.asB t20) fun q21=>jn (bC q21 (oN [a14,a15,a16,a17] h13) (bn .add 3 a14 (i 1) fun t22=>
 oN [t22,a15,a16,a17] h13)) fun vs23 h24=>U4 vs23 fun a25 a26 a27 a28=>oN [a25,a26,a27,a28] h24)) fun vs29 h30=>U4 vs29 fun a31 a32 a33 a34=>bn .add 3 a34 (i 1) fun t35=>
 oN [a31,a32,a33,t35] h30) (ql 55)
def B195 (c:CH) (ql:QH) (us:List GV) (H:GH):RS:=U2 us fun x1 x2=>
 ln 50 x1 fun t3=>
 jn (nB 0 (ql 56 [x1,x2,t3,(i 0)] H)) fun vs4 h5=>U0 vs4 (oR [(.int .i64 (.negSucc 0))] h5)
def L56 (c:CH) (ql:QH) (us:List GV) (H:GH):RS:=U4 us fun a6 a7 a8 a9=>jn (bn .lss 3 a9 a8 fun t10=>
 ob (GV.asB t10) fun q11=>jn (bC q11 (oX 0 [] H) (oN [a6,a7,a8,a9] H)) fun vs12 h13=>U4 vs12 fun a14 a15 a16 a17=>jn (nB 1 (ix 50 a14 a17 fun t18=>
 ld 3 t18 h13 fun t19=>
 ob (GV.asF a15) fun p22=>kOR (c p22.1 (p22.2.1++[t19]++p22.2.2) h13) fun t20 h21=>
 ob (GV.asB t20) fun q23=>jn (bC q23 (oN [a14,a15,a16,a17] h21) (oR [a17] h21)) fun vs24 h25=>U4 vs24 fun a26 a27 a28 a29=>oN [a26,a27,a28,a29] h25)) fun vs30 h31=>U4 vs30 fun a32 a33 a34 a35=>bn .add 3 a35 (i 1) fun t36=>
 oN [a32,a33,a34,t36] h31) (ql 56)
def B197 (c:CH) (ql:QH) (us:List GV) (H:GH):RS:=U1 us fun x1=>
 ln 50 x1 fun t2=>
 jn (nB 0 (ql 57 [(.int .i64 (.negSucc 1073741823)),(.int .i64 (.negSucc 1073741823)),x1,t2,(i 0)] H)) fun vs3 h4=>U2 vs3 fun a5 a6=>oR [a5,a6] h4
def L57 (c:CH) (ql:QH) (us:List GV) (H:GH):RS:=U5 us fun a7 a8 a9 a10 a11=>jn (bn .lss 3 a11 a10 fun t12=>
 ob (GV.asB t12) fun q13=>jn (bC q13 (oX 0 [a7,a8] H) (oN [a7,a8,a9,a10,a11] H)) fun vs14 h15=>U5 vs14 fun a16 a17 a18 a19 a20=>jn (nB 1 (ix 50 a18 a20 fun t21=>
 ld 3 t21 h15 fun t22=>
 bn .gtr 3 t22 a16 fun t23=>
 ob (GV.asB t23) fun q24=>jn (bC q24 (ob (vMax a17 t22) fun t25=>
 oN [a16,t25,a18,a19,a20] h15) (oN [t22,a16,a18,a19,a20] h15)) fun vs26 h27=>U5 vs26 fun a28 a29 a30 a31 a32=>oN [a28,a29,a30,a31,a32] h27)) fun vs33 h34=>U5 vs33 fun a35 a36 a37 a38 a39=>bn .add 3 a39 (i 1) fun t40=>
 oN [a35,a36,a37,a38,t40] h34) (ql 57)
def B198 (c:CH) (ql:QH) (us:List GV) (H:GH):RS:=U1 us fun x1=>
 jn (nB 0 (ql 58 [x1,(i 0)] H)) fun vs2 h3=>U1 vs2 fun a4=>oR [a4] h3
def L58 (c:CH) (ql:QH) (us:List GV) (H:GH):RS:=U2 us fun a5 a6=>jn (K c 199 [a5,a6] H fun t7 h8=>
 ob (GV.asB t7) fun q9=>jn (bC q9 (oX 0 [a6] h8) (oN [a5,a6] h8)) fun vs10 h11=>U2 vs10 fun a12 a13=>jn (nB 1 (bn .add 3 a13 (i 1) fun t14=>
 oN [a12,t14] h11)) fun vs15 h16=>U2 vs15 fun a17 a18=>oN [a17,a18] h16) (ql 58)
def B200 (c:CH) (ql:QH) (us:List GV) (H:GH):RS:=U2 us fun x1 x2=>
 ln 50 x1 fun t3=>
 jn (nB 0 (ql 59 [x1,x2,t3,(i 0)] H)) fun vs4 h5=>U0 vs4 (oR [(.int .i64 (.negSucc 0))] h5)
def L59 (c:CH) (ql:QH) (us:List GV) (H:GH):RS:=U4 us fun a6 a7 a8 a9=>jn (bn .lss 3 a9 a8 fun t10=>
 ob (GV.asB t10) fun q11=>jn (bC q11 (oX 0 [] H) (oN [a6,a7,a8,a9] H)) fun vs12 h13=>U4 vs12 fun a14 a15 a16 a17=>jn (nB 1 (ix 50 a14 a17 fun t18=>
 ld 3 t18 h13 fun t19=>
 bn .eql 3 a15 t19 fun t20=>
 ob (GV.asB t20) fun q21=>jn (bC q21 (oN [a14,a15,a16,a17] h13) (oR [a17] h13)) fun vs22 h23=>U4 vs22 fun a24 a25 a26 a27=>oN [a24,a25,a26,a27] h23)) fun vs28 h29=>U4 vs28 fun a30 a31 a32 a33=>bn .add 3 a33 (i 1) fun t34=>
 oN [a30,a31,a32,t34] h29) (ql 59)
def d0:(Code×Cx)×Body:=((codeOf Tryz.f15 [1,1,1,0,1,0,0],cxOf Tryz.f15 [(0,32)]),L0)
def d1:(Code×Cx)×Body:=((codeOf Tryz.f18 [1,1,1,0,1,0,0],cxOf Tryz.f18 [(0,2)]),L1)
def d2:(Code×Cx)×Body:=((codeOf Tryz.f18 [1,1,1,1,0,1,0,0],cxOf Tryz.f18 [(2,2)]),L2)
def d3:(Code×Cx)×Body:=((codeOf Tryz.f18 [1,1,1,1,1,1,0,1,0,0],cxOf Tryz.f18 [(4,0)]),L3)
def d4:(Code×Cx)×Body:=((codeOf Tryz.f31 [1,0,0,0],cxOf Tryz.f31 [(0,2)]),L4)
def d5:(Code×Cx)×Body:=((codeOf Tryz.f31 [1,0,0,0,1,0,1,0,1,1,1,0,0,0],cxOf Tryz.f31 [(3,3),(2,3),(1,3),(0,2)]),L5)
def d6:(Code×Cx)×Body:=((codeOf Tryz.f36 [1,1,1,0,1,0,0],cxOf Tryz.f36 [(0,33)]),L6)
def d7:(Code×Cx)×Body:=((codeOf Tryz.f37 [1,0,0],cxOf Tryz.f37 [(0,0)]),L7)
def d8:(Code×Cx)×Body:=((codeOf Tryz.f39 [1,1,1,1,1,0,0,0],cxOf Tryz.f39 [(0,5)]),L8)
def d9:(Code×Cx)×Body:=((codeOf Tryz.f42 [1,1,1,0,1,0,0],cxOf Tryz.f42 [(0,2)]),L9)
def d10:(Code×Cx)×Body:=((codeOf Tryz.f42 [1,1,1,1,1,0,1,0,0],cxOf Tryz.f42 [(2,0)]),L10)
def d11:(Code×Cx)×Body:=((codeOf Tryz.f44 [1,1,1,0,1,0,0],cxOf Tryz.f44 [(0,0)]),L11)
def d12:(Code×Cx)×Body:=((codeOf Tryz.f45 [1,1,0,1,0,0],cxOf Tryz.f45 [(0,8)]),L12)
def d13:(Code×Cx)×Body:=((codeOf Tryz.f46 [1,1,0,1,0,0],cxOf Tryz.f46 [(0,0)]),L13)
def d14:(Code×Cx)×Body:=((codeOf Tryz.f64 [1,1,0,0,0],cxOf Tryz.f64 [(0,32)]),L14)
def d15:(Code×Cx)×Body:=((codeOf Tryz.f68 [1,1,1,0,1,0,0],cxOf Tryz.f68 [(0,16)]),L15)
def d16:(Code×Cx)×Body:=((codeOf Tryz.f69 [1,0,1,0,0],cxOf Tryz.f69 [(0,1)]),L16)
def d17:(Code×Cx)×Body:=((codeOf Tryz.f73 [1,1,0,1,0,0],cxOf Tryz.f73 [(0,1)]),L17)
def d18:(Code×Cx)×Body:=((codeOf Tryz.f81 [1,1,0,1,0,0],cxOf Tryz.f81 [(0,1)]),L18)
def d19:(Code×Cx)×Body:=((codeOf Tryz.f82 [1,1,0,1,0,0],cxOf Tryz.f82 [(0,7)]),L19)
def d20:(Code×Cx)×Body:=((codeOf Tryz.f88 [1,1,0,1,0,0],cxOf Tryz.f88 [(0,8)]),L20)
def d21:(Code×Cx)×Body:=((codeOf Tryz.f88 [1,1,0,1,0,0,1,1,0,0,1,1,0,0],cxOf Tryz.f88 [(2,57352),(1,57352),(0,8)]),L21)
def d22:(Code×Cx)×Body:=((codeOf Tryz.f90 [1,1,1,1,1,1,1,0,1,0,0],cxOf Tryz.f90 [(0,5378)]),L22)
def d23:(Code×Cx)×Body:=((codeOf Tryz.f101 [1,1,0,1,0,0],cxOf Tryz.f101 [(0,0)]),L23)
def d24:(Code×Cx)×Body:=((codeOf Tryz.f102 [1,1,0,1,0,0],cxOf Tryz.f102 [(0,8)]),L24)
def d25:(Code×Cx)×Body:=((codeOf Tryz.f103 [1,1,0,1,0,0],cxOf Tryz.f103 [(0,38)]),L25)
def d26:(Code×Cx)×Body:=((codeOf Tryz.f103 [1,1,1,1,1,0,0,0],cxOf Tryz.f103 [(2,32)]),L26)
def d27:(Code×Cx)×Body:=((codeOf Tryz.f103 [1,1,1,1,1,0,0,0,1,0,1,1,1,0,0],cxOf Tryz.f103 [(4,164),(3,164),(2,32)]),L27)
def d28:(Code×Cx)×Body:=((codeOf Tryz.f108 [1,1,1,0,0],cxOf Tryz.f108 [(0,16)]),L28)
def d29:(Code×Cx)×Body:=((codeOf Tryz.f109 [1,1,0,1,0,0],cxOf Tryz.f109 [(0,32)]),L29)
def d30:(Code×Cx)×Body:=((codeOf Tryz.f110 [1,0,1,0,0],cxOf Tryz.f110 [(0,0)]),L30)
def d31:(Code×Cx)×Body:=((codeOf Tryz.f111 [1,1,0,1,0,0],cxOf Tryz.f111 [(0,0)]),L31)
def d32:(Code×Cx)×Body:=((codeOf Tryz.f115 [1,1,1,1,1,1,0,1,0,0],cxOf Tryz.f115 [(0,1408)]),L32)
def d33:(Code×Cx)×Body:=((codeOf Tryz.f116 [1,1,1,0,1,0,0],cxOf Tryz.f116 [(0,0)]),L33)
def d34:(Code×Cx)×Body:=((codeOf Tryz.f117 [1,1,0,1,0,0],cxOf Tryz.f117 [(0,0)]),L34)
def d35:(Code×Cx)×Body:=((codeOf Tryz.f118 [1,1,0,1,0,0],cxOf Tryz.f118 [(0,32)]),L35)
def d36:(Code×Cx)×Body:=((codeOf Tryz.f118 [1,1,0,1,0,0,1,1,0,0,1,1,1,0,0],cxOf Tryz.f118 [(2,49196),(1,49196),(0,32)]),L36)
def d37:(Code×Cx)×Body:=((codeOf Tryz.f119 [1,1,0,1,0,0],cxOf Tryz.f119 [(0,32)]),L37)
def d38:(Code×Cx)×Body:=((codeOf Tryz.f119 [1,1,0,1,0,0,1,1,0,0,1,1,1,0,0],cxOf Tryz.f119 [(2,3670056),(1,3670056),(0,32)]),L38)
def d39:(Code×Cx)×Body:=((codeOf Tryz.f120 [1,1,0,1,0,0],cxOf Tryz.f120 [(0,8)]),L39)
def d40:(Code×Cx)×Body:=((codeOf Tryz.f124 [1,1,0,1,0,0],cxOf Tryz.f124 [(0,128)]),L40)
def d41:(Code×Cx)×Body:=((codeOf Tryz.f141 [1,1,1,0,1,0,0],cxOf Tryz.f141 [(0,64)]),L41)
def d42:(Code×Cx)×Body:=((codeOf Tryz.f141 [1,1,1,0,1,0,0,1,0,0,1,1,0,1,0,0],cxOf Tryz.f141 [(2,963),(1,195),(0,64)]),L42)
def d43:(Code×Cx)×Body:=((codeOf Tryz.f149 [1,1,0,1,0,0],cxOf Tryz.f149 [(0,0)]),L43)
def d44:(Code×Cx)×Body:=((codeOf Tryz.f150 [1,1,0,1,0,0],cxOf Tryz.f150 [(0,0)]),L44)
def d45:(Code×Cx)×Body:=((codeOf Tryz.f151 [1,0,1,0,0],cxOf Tryz.f151 [(0,0)]),L45)
def d46:(Code×Cx)×Body:=((codeOf Tryz.f152 [1,1,0,1,0,0],cxOf Tryz.f152 [(0,32)]),L46)
def d47:(Code×Cx)×Body:=((codeOf Tryz.f154 [1,0,1,0,0],cxOf Tryz.f154 [(0,0)]),L47)
def d48:(Code×Cx)×Body:=((codeOf Tryz.f156 [1,1,0,1,0,0],cxOf Tryz.f156 [(0,512)]),L48)
def d49:(Code×Cx)×Body:=((codeOf Tryz.f158 [1,0,1,0,0],cxOf Tryz.f158 [(0,0)]),L49)
def d50:(Code×Cx)×Body:=((codeOf Tryz.f166 [1,1,0,1,0,0],cxOf Tryz.f166 [(0,0)]),L50)
def d51:(Code×Cx)×Body:=((codeOf Tryz.f170 [1,1,1,0,1,0,0],cxOf Tryz.f170 [(0,8)]),L51)
def d52:(Code×Cx)×Body:=((codeOf Tryz.f185 [1,1,1,0,1,0,0],cxOf Tryz.f185 [(0,903)]),L52)
def d53:(Code×Cx)×Body:=((codeOf Tryz.f190 [1,0,1,0,1,1,1,1,1,1,1,1,1,0,1,0,1,0,0],cxOf Tryz.f190 [(1,32),(0,2)]),L53)
def d54:(Code×Cx)×Body:=((codeOf Tryz.f190 [1,0,1,0,1,1,1,1,1,1,1,1,1,1,1,1,1,0,1,0,1,0,0],cxOf Tryz.f190 [(3,1024),(0,2)]),L54)
def d55:(Code×Cx)×Body:=((codeOf Tryz.f194 [1,1,0,1,0,0],cxOf Tryz.f194 [(0,8)]),L55)
def d56:(Code×Cx)×Body:=((codeOf Tryz.f195 [1,0,1,0,0],cxOf Tryz.f195 [(0,0)]),L56)
def d57:(Code×Cx)×Body:=((codeOf Tryz.f197 [1,1,0,1,0,0],cxOf Tryz.f197 [(0,12)]),L57)
def d58:(Code×Cx)×Body:=((codeOf Tryz.f198 [1,1,0,0,0],cxOf Tryz.f198 [(0,8)]),L58)
def d59:(Code×Cx)×Body:=((codeOf Tryz.f200 [1,0,1,0,0],cxOf Tryz.f200 [(0,0)]),L59)
def rtabF (f:Nat):Option (Func×Body):=(tN f 116 (tN f 69 (tN f 40 (tN f 28 (tN f 17 (tN f 13 (tN f 11 (tL f 5 (Tryz.f5,(gB Tryz.f5))) (tL f 11 (Tryz.f11,(gB Tryz.f11)))) (tN f 15 (tL f 13 (Tryz.f13,(gB Tryz.f13))) (tL f 15 (Tryz.f15,B15)))) (tN f 23 (tN f 18 (tL f 17 (Tryz.f17,(gB Tryz.f17))) (tL f 18 (Tryz.f18,B18))) (tN f 24 (tL f 23 (Tryz.f23,(gB Tryz.f23))) (tL f 24 (Tryz.f24,(gB Tryz.f24)))))) (tN f 35 (tN f 31 (tN f 30 (tL f 28 (Tryz.f28,(gB Tryz.f28))) (tL f 30 (Tryz.f30,(gB Tryz.f30)))) (tN f 32 (tL f 31 (Tryz.f31,B31)) (tL f 32 (Tryz.f32,B32)))) (tN f 37 (tN f 36 (tL f 35 (Tryz.f35,(gB Tryz.f35))) (tL f 36 (Tryz.f36,B36))) (tN f 38 (tL f 37 (Tryz.f37,B37)) (tN f 39 (tL f 38 (Tryz.f38,(gB Tryz.f38))) (tL f 39 (Tryz.f39,B39))))))) (tN f 53 (tN f 44 (tN f 42 (tN f 41 (tL f 40 (Tryz.f40,(gB Tryz.f40))) (tL f 41 (Tryz.f41,(gB Tryz.f41)))) (tN f 43 (tL f 42 (Tryz.f42,B42)) (tL f 43 (Tryz.f43,(gB Tryz.f43))))) (tN f 46 (tN f 45 (tL f 44 (Tryz.f44,B44)) (tL f 45 (Tryz.f45,B45))) (tN f 51 (tL f 46 (Tryz.f46,B46)) (tN f 52 (tL f 51 (Tryz.f51,(gB Tryz.f51))) (tL f 52 (Tryz.f52,(gB Tryz.f52))))))) (tN f 64 (tN f 62 (tN f 54 (tL f 53 (Tryz.f53,(gB Tryz.f53))) (tL f 54 (Tryz.f54,(gB Tryz.f54)))) (tN f 63 (tL f 62 (Tryz.f62,(gB Tryz.f62))) (tL f 63 (Tryz.f63,(gB Tryz.f63))))) (tN f 66 (tN f 65 (tL f 64 (Tryz.f64,B64)) (tL f 65 (Tryz.f65,B65))) (tN f 67 (tL f 66 (Tryz.f66,B66)) (tN f 68 (tL f 67 (Tryz.f67,B67)) (tL f 68 (Tryz.f68,B68)))))))) (tN f 89 (tN f 78 (tN f 73 (tN f 71 (tN f 70 (tL f 69 (Tryz.f69,B69)) (tL f 70 (Tryz.f70,B70))) (tN f 72 (tL f 71 (Tryz.f71,B71)) (tL f 72 (Tryz.f72,B72)))) (tN f 75 (tN f 74 (tL f 73 (Tryz.f73,B73)) (tL f 74 (Tryz.f74,B74))) (tN f 76 (tL f 75 (Tryz.f75,(gB Tryz.f75))) (tN f 77 (tL f 76 (Tryz.f76,(gB Tryz.f76))) (tL f 77 (Tryz.f77,(gB Tryz.f77))))))) (tN f 82 (tN f 80 (tN f 79 (tL f 78 (Tryz.f78,(gB Tryz.f78))) (tL f 79 (Tryz.f79,B79))) (tN f 81 (tL f 80 (Tryz.f80,(gB Tryz.f80))) (tL f 81 (Tryz.f81,B81)))) (tN f 86 (tN f 85 (tL f 82 (Tryz.f82,B82)) (tL f 85 (Tryz.f85,(gB Tryz.f85)))) (tN f 87 (tL f 86 (Tryz.f86,(gB Tryz.f86))) (tN f 88 (tL f 87 (Tryz.f87,(gB Tryz.f87))) (tL f 88 (Tryz.f88,B88))))))) (tN f 107 (tN f 102 (tN f 91 (tN f 90 (tL f 89 (Tryz.f89,(gB Tryz.f89))) (tL f 90 (Tryz.f90,B90))) (tN f 101 (tL f 91 (Tryz.f91,(gB Tryz.f91))) (tL f 101 (Tryz.f101,B101)))) (tN f 104 (tN f 103 (tL f 102 (Tryz.f102,B102)) (tL f 103 (Tryz.f103,B103))) (tN f 105 (tL f 104 (Tryz.f104,B104)) (tN f 106 (tL f 105 (Tryz.f105,(gB Tryz.f105))) (tL f 106 (Tryz.f106,B106)))))) (tN f 111 (tN f 109 (tN f 108 (tL f 107 (Tryz.f107,(gB Tryz.f107))) (tL f 108 (Tryz.f108,B108))) (tN f 110 (tL f 109 (Tryz.f109,B109)) (tL f 110 (Tryz.f110,B110)))) (tN f 113 (tN f 112 (tL f 111 (Tryz.f111,B111)) (tL f 112 (Tryz.f112,B112))) (tN f 114 (tL f 113 (Tryz.f113,(gB Tryz.f113))) (tN f 115 (tL f 114 (Tryz.f114,(gB Tryz.f114))) (tL f 115 (Tryz.f115,B115))))))))) (tN f 165 (tN f 141 (tN f 125 (tN f 120 (tN f 118 (tN f 117 (tL f 116 (Tryz.f116,B116)) (tL f 117 (Tryz.f117,B117))) (tN f 119 (tL f 118 (Tryz.f118,B118)) (tL f 119 (Tryz.f119,B119)))) (tN f 122 (tN f 121 (tL f 120 (Tryz.f120,B120)) (tL f 121 (Tryz.f121,(gB Tryz.f121)))) (tN f 124 (tL f 122 (Tryz.f122,(gB Tryz.f122))) (tL f 124 (Tryz.f124,B124))))) (tN f 136 (tN f 134 (tN f 133 (tL f 125 (Tryz.f125,(gB Tryz.f125))) (tL f 133 (Tryz.f133,B133))) (tN f 135 (tL f 134 (Tryz.f134,(gB Tryz.f134))) (tL f 135 (Tryz.f135,(gB Tryz.f135))))) (tN f 138 (tN f 137 (tL f 136 (Tryz.f136,(gB Tryz.f136))) (tL f 137 (Tryz.f137,(gB Tryz.f137)))) (tN f 139 (tL f 138 (Tryz.f138,(gB Tryz.f138))) (tN f 140 (tL f 139 (Tryz.f139,(gB Tryz.f139))) (tL f 140 (Tryz.f140,B140))))))) (tN f 150 (tN f 145 (tN f 143 (tN f 142 (tL f 141 (Tryz.f141,B141)) (tL f 142 (Tryz.f142,B142))) (tN f 144 (tL f 143 (Tryz.f143,B143)) (tL f 144 (Tryz.f144,B144)))) (tN f 147 (tN f 146 (tL f 145 (Tryz.f145,(gB Tryz.f145))) (tL f 146 (Tryz.f146,B146))) (tN f 148 (tL f 147 (Tryz.f147,B147)) (tN f 149 (tL f 148 (Tryz.f148,(gB Tryz.f148))) (tL f 149 (Tryz.f149,B149)))))) (tN f 154 (tN f 152 (tN f 151 (tL f 150 (Tryz.f150,B150)) (tL f 151 (Tryz.f151,B151))) (tN f 153 (tL f 152 (Tryz.f152,B152)) (tL f 153 (Tryz.f153,(gB Tryz.f153))))) (tN f 157 (tN f 156 (tL f 154 (Tryz.f154,B154)) (tL f 156 (Tryz.f156,B156))) (tN f 158 (tL f 157 (Tryz.f157,(gB Tryz.f157))) (tN f 159 (tL f 158 (Tryz.f158,B158)) (tL f 159 (Tryz.f159,(gB Tryz.f159))))))))) (tN f 183 (tN f 174 (tN f 169 (tN f 167 (tN f 166 (tL f 165 (Tryz.f165,B165)) (tL f 166 (Tryz.f166,B166))) (tN f 168 (tL f 167 (Tryz.f167,(gB Tryz.f167))) (tL f 168 (Tryz.f168,(gB Tryz.f168))))) (tN f 171 (tN f 170 (tL f 169 (Tryz.f169,(gB Tryz.f169))) (tL f 170 (Tryz.f170,B170))) (tN f 172 (tL f 171 (Tryz.f171,(gB Tryz.f171))) (tN f 173 (tL f 172 (Tryz.f172,(gB Tryz.f172))) (tL f 173 (Tryz.f173,(gB Tryz.f173))))))) (tN f 178 (tN f 176 (tN f 175 (tL f 174 (Tryz.f174,(gB Tryz.f174))) (tL f 175 (Tryz.f175,(gB Tryz.f175)))) (tN f 177 (tL f 176 (Tryz.f176,(gB Tryz.f176))) (tL f 177 (Tryz.f177,(gB Tryz.f177))))) (tN f 180 (tN f 179 (tL f 178 (Tryz.f178,(gB Tryz.f178))) (tL f 179 (Tryz.f179,B179))) (tN f 181 (tL f 180 (Tryz.f180,(gB Tryz.f180))) (tN f 182 (tL f 181 (Tryz.f181,(gB Tryz.f181))) (tL f 182 (Tryz.f182,(gB Tryz.f182)))))))) (tN f 192 (tN f 187 (tN f 185 (tN f 184 (tL f 183 (Tryz.f183,B183)) (tL f 184 (Tryz.f184,(gB Tryz.f184)))) (tN f 186 (tL f 185 (Tryz.f185,B185)) (tL f 186 (Tryz.f186,B186)))) (tN f 189 (tN f 188 (tL f 187 (Tryz.f187,(gB Tryz.f187))) (tL f 188 (Tryz.f188,B188))) (tN f 190 (tL f 189 (Tryz.f189,(gB Tryz.f189))) (tN f 191 (tL f 190 (Tryz.f190,B190)) (tL f 191 (Tryz.f191,(gB Tryz.f191))))))) (tN f 196 (tN f 194 (tN f 193 (tL f 192 (Tryz.f192,(gB Tryz.f192))) (tL f 193 (Tryz.f193,(gB Tryz.f193)))) (tN f 195 (tL f 194 (Tryz.f194,B194)) (tL f 195 (Tryz.f195,B195)))) (tN f 198 (tN f 197 (tL f 196 (Tryz.f196,(gB Tryz.f196))) (tL f 197 (Tryz.f197,B197))) (tN f 199 (tL f 198 (Tryz.f198,B198)) (tN f 200 (tL f 199 (Tryz.f199,(gB Tryz.f199))) (tL f 200 (Tryz.f200,B200))))))))))
def rtabL (f:Nat):Option ((Code×Cx)×Body):=(tN f 30 (tN f 15 (tN f 7 (tN f 3 (tN f 1 (tL f 0 d0) (tN f 2 (tL f 1 d1) (tL f 2 d2))) (tN f 5 (tN f 4 (tL f 3 d3) (tL f 4 d4)) (tN f 6 (tL f 5 d5) (tL f 6 d6)))) (tN f 11 (tN f 9 (tN f 8 (tL f 7 d7) (tL f 8 d8)) (tN f 10 (tL f 9 d9) (tL f 10 d10))) (tN f 13 (tN f 12 (tL f 11 d11) (tL f 12 d12)) (tN f 14 (tL f 13 d13) (tL f 14 d14))))) (tN f 22 (tN f 18 (tN f 16 (tL f 15 d15) (tN f 17 (tL f 16 d16) (tL f 17 d17))) (tN f 20 (tN f 19 (tL f 18 d18) (tL f 19 d19)) (tN f 21 (tL f 20 d20) (tL f 21 d21)))) (tN f 26 (tN f 24 (tN f 23 (tL f 22 d22) (tL f 23 d23)) (tN f 25 (tL f 24 d24) (tL f 25 d25))) (tN f 28 (tN f 27 (tL f 26 d26) (tL f 27 d27)) (tN f 29 (tL f 28 d28) (tL f 29 d29)))))) (tN f 45 (tN f 37 (tN f 33 (tN f 31 (tL f 30 d30) (tN f 32 (tL f 31 d31) (tL f 32 d32))) (tN f 35 (tN f 34 (tL f 33 d33) (tL f 34 d34)) (tN f 36 (tL f 35 d35) (tL f 36 d36)))) (tN f 41 (tN f 39 (tN f 38 (tL f 37 d37) (tL f 38 d38)) (tN f 40 (tL f 39 d39) (tL f 40 d40))) (tN f 43 (tN f 42 (tL f 41 d41) (tL f 42 d42)) (tN f 44 (tL f 43 d43) (tL f 44 d44))))) (tN f 52 (tN f 48 (tN f 46 (tL f 45 d45) (tN f 47 (tL f 46 d46) (tL f 47 d47))) (tN f 50 (tN f 49 (tL f 48 d48) (tL f 49 d49)) (tN f 51 (tL f 50 d50) (tL f 51 d51)))) (tN f 56 (tN f 54 (tN f 53 (tL f 52 d52) (tL f 53 d53)) (tN f 55 (tL f 54 d54) (tL f 55 d55))) (tN f 58 (tN f 57 (tL f 56 d56) (tL f 57 d57)) (tN f 59 (tL f 58 d58) (tL f 59 d59)))))))
def rtab:Tabs:=⟨rtabF,rtabL⟩
def FO (f:Nat) (e:Func×Body):Prop:=(∀(c:CH) (lp:LH) us H,e.2 c (rtab.loop lp) us H=evF tyTab c lp e.1 us H)∧Tryz.prog.funcs[f]? = some e.1∧HasBody Tryz.prog f∧okF y e.1=true
def LO (e:(Code×Cx)×Body):Prop:=∀(c:CH) (lp:LH) us H,e.2 c (rtab.loop lp) us H=evL tyTab c lp e.1.1 e.1.2 us H
theorem e5:FO 5 (Tryz.f5,(gB Tryz.f5)):=⟨fun _ _ _ _=>by kernel_rfl,Tryz.func5,Tryz.call5,by kernel_rfl⟩
theorem e11:FO 11 (Tryz.f11,(gB Tryz.f11)):=⟨fun _ _ _ _=>by kernel_rfl,Tryz.func11,Tryz.call11,by kernel_rfl⟩
theorem e13:FO 13 (Tryz.f13,(gB Tryz.f13)):=⟨fun _ _ _ _=>by kernel_rfl,Tryz.func13,Tryz.call13,by kernel_rfl⟩
theorem e15:FO 15 (Tryz.f15,B15):=⟨fun _ _ _ _=>by kernel_rfl,Tryz.func15,Tryz.call15,by kernel_rfl⟩
theorem e17:FO 17 (Tryz.f17,(gB Tryz.f17)):=⟨fun _ _ _ _=>by kernel_rfl,Tryz.func17,Tryz.call17,by kernel_rfl⟩
theorem e18:FO 18 (Tryz.f18,B18):=⟨fun _ _ _ _=>by kernel_rfl,Tryz.func18,Tryz.call18,by kernel_rfl⟩
theorem e23:FO 23 (Tryz.f23,(gB Tryz.f23)):=⟨fun _ _ _ _=>by kernel_rfl,Tryz.func23,Tryz.call23,by kernel_rfl⟩
theorem e24:FO 24 (Tryz.f24,(gB Tryz.f24)):=⟨fun _ _ _ _=>by kernel_rfl,Tryz.func24,Tryz.call24,by kernel_rfl⟩
theorem e28:FO 28 (Tryz.f28,(gB Tryz.f28)):=⟨fun _ _ _ _=>by kernel_rfl,Tryz.func28,Tryz.call28,by kernel_rfl⟩
theorem e30:FO 30 (Tryz.f30,(gB Tryz.f30)):=⟨fun _ _ _ _=>by kernel_rfl,Tryz.func30,Tryz.call30,by kernel_rfl⟩
theorem e31:FO 31 (Tryz.f31,B31):=⟨fun _ _ _ _=>by kernel_rfl,Tryz.func31,Tryz.call31,by kernel_rfl⟩
theorem e32:FO 32 (Tryz.f32,B32):=⟨fun _ _ _ _=>by kernel_rfl,Tryz.func32,Tryz.call32,by kernel_rfl⟩
theorem e35:FO 35 (Tryz.f35,(gB Tryz.f35)):=⟨fun _ _ _ _=>by kernel_rfl,Tryz.func35,Tryz.call35,by kernel_rfl⟩
theorem e36:FO 36 (Tryz.f36,B36):=⟨fun _ _ _ _=>by kernel_rfl,Tryz.func36,Tryz.call36,by kernel_rfl⟩
theorem e37:FO 37 (Tryz.f37,B37):=⟨fun _ _ _ _=>by kernel_rfl,Tryz.func37,Tryz.call37,by kernel_rfl⟩
theorem e38:FO 38 (Tryz.f38,(gB Tryz.f38)):=⟨fun _ _ _ _=>by kernel_rfl,Tryz.func38,Tryz.call38,by kernel_rfl⟩
theorem e39:FO 39 (Tryz.f39,B39):=⟨fun _ _ _ _=>by kernel_rfl,Tryz.func39,Tryz.call39,by kernel_rfl⟩
theorem e40:FO 40 (Tryz.f40,(gB Tryz.f40)):=⟨fun _ _ _ _=>by kernel_rfl,Tryz.func40,Tryz.call40,by kernel_rfl⟩
theorem e41:FO 41 (Tryz.f41,(gB Tryz.f41)):=⟨fun _ _ _ _=>by kernel_rfl,Tryz.func41,Tryz.call41,by kernel_rfl⟩
theorem e42:FO 42 (Tryz.f42,B42):=⟨fun _ _ _ _=>by kernel_rfl,Tryz.func42,Tryz.call42,by kernel_rfl⟩
theorem e43:FO 43 (Tryz.f43,(gB Tryz.f43)):=⟨fun _ _ _ _=>by kernel_rfl,Tryz.func43,Tryz.call43,by kernel_rfl⟩
theorem e44:FO 44 (Tryz.f44,B44):=⟨fun _ _ _ _=>by kernel_rfl,Tryz.func44,Tryz.call44,by kernel_rfl⟩
theorem e45:FO 45 (Tryz.f45,B45):=⟨fun _ _ _ _=>by kernel_rfl,Tryz.func45,Tryz.call45,by kernel_rfl⟩
theorem e46:FO 46 (Tryz.f46,B46):=⟨fun _ _ _ _=>by kernel_rfl,Tryz.func46,Tryz.call46,by kernel_rfl⟩
theorem e51:FO 51 (Tryz.f51,(gB Tryz.f51)):=⟨fun _ _ _ _=>by kernel_rfl,Tryz.func51,Tryz.call51,by kernel_rfl⟩
theorem e52:FO 52 (Tryz.f52,(gB Tryz.f52)):=⟨fun _ _ _ _=>by kernel_rfl,Tryz.func52,Tryz.call52,by kernel_rfl⟩
theorem e53:FO 53 (Tryz.f53,(gB Tryz.f53)):=⟨fun _ _ _ _=>by kernel_rfl,Tryz.func53,Tryz.call53,by kernel_rfl⟩
theorem e54:FO 54 (Tryz.f54,(gB Tryz.f54)):=⟨fun _ _ _ _=>by kernel_rfl,Tryz.func54,Tryz.call54,by kernel_rfl⟩
theorem e62:FO 62 (Tryz.f62,(gB Tryz.f62)):=⟨fun _ _ _ _=>by kernel_rfl,Tryz.func62,Tryz.call62,by kernel_rfl⟩
theorem e63:FO 63 (Tryz.f63,(gB Tryz.f63)):=⟨fun _ _ _ _=>by kernel_rfl,Tryz.func63,Tryz.call63,by kernel_rfl⟩
theorem e64:FO 64 (Tryz.f64,B64):=⟨fun _ _ _ _=>by kernel_rfl,Tryz.func64,Tryz.call64,by kernel_rfl⟩
theorem e65:FO 65 (Tryz.f65,B65):=⟨fun _ _ _ _=>by kernel_rfl,Tryz.func65,Tryz.call65,by kernel_rfl⟩
theorem e66:FO 66 (Tryz.f66,B66):=⟨fun _ _ _ _=>by kernel_rfl,Tryz.func66,Tryz.call66,by kernel_rfl⟩
theorem e67:FO 67 (Tryz.f67,B67):=⟨fun _ _ _ _=>by kernel_rfl,Tryz.func67,Tryz.call67,by kernel_rfl⟩
theorem e68:FO 68 (Tryz.f68,B68):=⟨fun _ _ _ _=>by kernel_rfl,Tryz.func68,Tryz.call68,by kernel_rfl⟩
theorem e69:FO 69 (Tryz.f69,B69):=⟨fun _ _ _ _=>by kernel_rfl,Tryz.func69,Tryz.call69,by kernel_rfl⟩
theorem e70:FO 70 (Tryz.f70,B70):=⟨fun _ _ _ _=>by kernel_rfl,Tryz.func70,Tryz.call70,by kernel_rfl⟩
theorem e71:FO 71 (Tryz.f71,B71):=⟨fun _ _ _ _=>by kernel_rfl,Tryz.func71,Tryz.call71,by kernel_rfl⟩
theorem e72:FO 72 (Tryz.f72,B72):=⟨fun _ _ _ _=>by kernel_rfl,Tryz.func72,Tryz.call72,by kernel_rfl⟩
theorem e73:FO 73 (Tryz.f73,B73):=⟨fun _ _ _ _=>by kernel_rfl,Tryz.func73,Tryz.call73,by kernel_rfl⟩
theorem e74:FO 74 (Tryz.f74,B74):=⟨fun _ _ _ _=>by kernel_rfl,Tryz.func74,Tryz.call74,by kernel_rfl⟩
theorem e75:FO 75 (Tryz.f75,(gB Tryz.f75)):=⟨fun _ _ _ _=>by kernel_rfl,Tryz.func75,Tryz.call75,by kernel_rfl⟩
theorem e76:FO 76 (Tryz.f76,(gB Tryz.f76)):=⟨fun _ _ _ _=>by kernel_rfl,Tryz.func76,Tryz.call76,by kernel_rfl⟩
theorem e77:FO 77 (Tryz.f77,(gB Tryz.f77)):=⟨fun _ _ _ _=>by kernel_rfl,Tryz.func77,Tryz.call77,by kernel_rfl⟩
theorem e78:FO 78 (Tryz.f78,(gB Tryz.f78)):=⟨fun _ _ _ _=>by kernel_rfl,Tryz.func78,Tryz.call78,by kernel_rfl⟩
theorem e79:FO 79 (Tryz.f79,B79):=⟨fun _ _ _ _=>by kernel_rfl,Tryz.func79,Tryz.call79,by kernel_rfl⟩
theorem e80:FO 80 (Tryz.f80,(gB Tryz.f80)):=⟨fun _ _ _ _=>by kernel_rfl,Tryz.func80,Tryz.call80,by kernel_rfl⟩
theorem e81:FO 81 (Tryz.f81,B81):=⟨fun _ _ _ _=>by kernel_rfl,Tryz.func81,Tryz.call81,by kernel_rfl⟩
theorem e82:FO 82 (Tryz.f82,B82):=⟨fun _ _ _ _=>by kernel_rfl,Tryz.func82,Tryz.call82,by kernel_rfl⟩
theorem e85:FO 85 (Tryz.f85,(gB Tryz.f85)):=⟨fun _ _ _ _=>by kernel_rfl,Tryz.func85,Tryz.call85,by kernel_rfl⟩
theorem e86:FO 86 (Tryz.f86,(gB Tryz.f86)):=⟨fun _ _ _ _=>by kernel_rfl,Tryz.func86,Tryz.call86,by kernel_rfl⟩
theorem e87:FO 87 (Tryz.f87,(gB Tryz.f87)):=⟨fun _ _ _ _=>by kernel_rfl,Tryz.func87,Tryz.call87,by kernel_rfl⟩
theorem e88:FO 88 (Tryz.f88,B88):=⟨fun _ _ _ _=>by kernel_rfl,Tryz.func88,Tryz.call88,by kernel_rfl⟩
theorem e89:FO 89 (Tryz.f89,(gB Tryz.f89)):=⟨fun _ _ _ _=>by kernel_rfl,Tryz.func89,Tryz.call89,by kernel_rfl⟩
theorem e90:FO 90 (Tryz.f90,B90):=⟨fun _ _ _ _=>by kernel_rfl,Tryz.func90,Tryz.call90,by kernel_rfl⟩
theorem e91:FO 91 (Tryz.f91,(gB Tryz.f91)):=⟨fun _ _ _ _=>by kernel_rfl,Tryz.func91,Tryz.call91,by kernel_rfl⟩
theorem e101:FO 101 (Tryz.f101,B101):=⟨fun _ _ _ _=>by kernel_rfl,Tryz.func101,Tryz.call101,by kernel_rfl⟩
theorem e102:FO 102 (Tryz.f102,B102):=⟨fun _ _ _ _=>by kernel_rfl,Tryz.func102,Tryz.call102,by kernel_rfl⟩
theorem e103:FO 103 (Tryz.f103,B103):=⟨fun _ _ _ _=>by kernel_rfl,Tryz.func103,Tryz.call103,by kernel_rfl⟩
theorem e104:FO 104 (Tryz.f104,B104):=⟨fun _ _ _ _=>by kernel_rfl,Tryz.func104,Tryz.call104,by kernel_rfl⟩
theorem e105:FO 105 (Tryz.f105,(gB Tryz.f105)):=⟨fun _ _ _ _=>by kernel_rfl,Tryz.func105,Tryz.call105,by kernel_rfl⟩
theorem e106:FO 106 (Tryz.f106,B106):=⟨fun _ _ _ _=>by kernel_rfl,Tryz.func106,Tryz.call106,by kernel_rfl⟩
theorem e107:FO 107 (Tryz.f107,(gB Tryz.f107)):=⟨fun _ _ _ _=>by kernel_rfl,Tryz.func107,Tryz.call107,by kernel_rfl⟩
theorem e108:FO 108 (Tryz.f108,B108):=⟨fun _ _ _ _=>by kernel_rfl,Tryz.func108,Tryz.call108,by kernel_rfl⟩
theorem e109:FO 109 (Tryz.f109,B109):=⟨fun _ _ _ _=>by kernel_rfl,Tryz.func109,Tryz.call109,by kernel_rfl⟩
theorem e110:FO 110 (Tryz.f110,B110):=⟨fun _ _ _ _=>by kernel_rfl,Tryz.func110,Tryz.call110,by kernel_rfl⟩
theorem e111:FO 111 (Tryz.f111,B111):=⟨fun _ _ _ _=>by kernel_rfl,Tryz.func111,Tryz.call111,by kernel_rfl⟩
theorem e112:FO 112 (Tryz.f112,B112):=⟨fun _ _ _ _=>by kernel_rfl,Tryz.func112,Tryz.call112,by kernel_rfl⟩
theorem e113:FO 113 (Tryz.f113,(gB Tryz.f113)):=⟨fun _ _ _ _=>by kernel_rfl,Tryz.func113,Tryz.call113,by kernel_rfl⟩
theorem e114:FO 114 (Tryz.f114,(gB Tryz.f114)):=⟨fun _ _ _ _=>by kernel_rfl,Tryz.func114,Tryz.call114,by kernel_rfl⟩
theorem e115:FO 115 (Tryz.f115,B115):=⟨fun _ _ _ _=>by kernel_rfl,Tryz.func115,Tryz.call115,by kernel_rfl⟩
theorem e116:FO 116 (Tryz.f116,B116):=⟨fun _ _ _ _=>by kernel_rfl,Tryz.func116,Tryz.call116,by kernel_rfl⟩
theorem e117:FO 117 (Tryz.f117,B117):=⟨fun _ _ _ _=>by kernel_rfl,Tryz.func117,Tryz.call117,by kernel_rfl⟩
theorem e118:FO 118 (Tryz.f118,B118):=⟨fun _ _ _ _=>by kernel_rfl,Tryz.func118,Tryz.call118,by kernel_rfl⟩
theorem e119:FO 119 (Tryz.f119,B119):=⟨fun _ _ _ _=>by kernel_rfl,Tryz.func119,Tryz.call119,by kernel_rfl⟩
theorem e120:FO 120 (Tryz.f120,B120):=⟨fun _ _ _ _=>by kernel_rfl,Tryz.func120,Tryz.call120,by kernel_rfl⟩
theorem e121:FO 121 (Tryz.f121,(gB Tryz.f121)):=⟨fun _ _ _ _=>by kernel_rfl,Tryz.func121,Tryz.call121,by kernel_rfl⟩
theorem e122:FO 122 (Tryz.f122,(gB Tryz.f122)):=⟨fun _ _ _ _=>by kernel_rfl,Tryz.func122,Tryz.call122,by kernel_rfl⟩
theorem e124:FO 124 (Tryz.f124,B124):=⟨fun _ _ _ _=>by kernel_rfl,Tryz.func124,Tryz.call124,by kernel_rfl⟩
theorem e125:FO 125 (Tryz.f125,(gB Tryz.f125)):=⟨fun _ _ _ _=>by kernel_rfl,Tryz.func125,Tryz.call125,by kernel_rfl⟩
theorem e133:FO 133 (Tryz.f133,B133):=⟨fun _ _ _ _=>by kernel_rfl,Tryz.func133,Tryz.call133,by kernel_rfl⟩
theorem e134:FO 134 (Tryz.f134,(gB Tryz.f134)):=⟨fun _ _ _ _=>by kernel_rfl,Tryz.func134,Tryz.call134,by kernel_rfl⟩
theorem e135:FO 135 (Tryz.f135,(gB Tryz.f135)):=⟨fun _ _ _ _=>by kernel_rfl,Tryz.func135,Tryz.call135,by kernel_rfl⟩
theorem e136:FO 136 (Tryz.f136,(gB Tryz.f136)):=⟨fun _ _ _ _=>by kernel_rfl,Tryz.func136,Tryz.call136,by kernel_rfl⟩
theorem e137:FO 137 (Tryz.f137,(gB Tryz.f137)):=⟨fun _ _ _ _=>by kernel_rfl,Tryz.func137,Tryz.call137,by kernel_rfl⟩
theorem e138:FO 138 (Tryz.f138,(gB Tryz.f138)):=⟨fun _ _ _ _=>by kernel_rfl,Tryz.func138,Tryz.call138,by kernel_rfl⟩
theorem e139:FO 139 (Tryz.f139,(gB Tryz.f139)):=⟨fun _ _ _ _=>by kernel_rfl,Tryz.func139,Tryz.call139,by kernel_rfl⟩
theorem e140:FO 140 (Tryz.f140,B140):=⟨fun _ _ _ _=>by kernel_rfl,Tryz.func140,Tryz.call140,by kernel_rfl⟩
theorem e141:FO 141 (Tryz.f141,B141):=⟨fun _ _ _ _=>by kernel_rfl,Tryz.func141,Tryz.call141,by kernel_rfl⟩
theorem e142:FO 142 (Tryz.f142,B142):=⟨fun _ _ _ _=>by kernel_rfl,Tryz.func142,Tryz.call142,by kernel_rfl⟩
theorem e143:FO 143 (Tryz.f143,B143):=⟨fun _ _ _ _=>by kernel_rfl,Tryz.func143,Tryz.call143,by kernel_rfl⟩
theorem e144:FO 144 (Tryz.f144,B144):=⟨fun _ _ _ _=>by kernel_rfl,Tryz.func144,Tryz.call144,by kernel_rfl⟩
theorem e145:FO 145 (Tryz.f145,(gB Tryz.f145)):=⟨fun _ _ _ _=>by kernel_rfl,Tryz.func145,Tryz.call145,by kernel_rfl⟩
theorem e146:FO 146 (Tryz.f146,B146):=⟨fun _ _ _ _=>by kernel_rfl,Tryz.func146,Tryz.call146,by kernel_rfl⟩
theorem e147:FO 147 (Tryz.f147,B147):=⟨fun _ _ _ _=>by kernel_rfl,Tryz.func147,Tryz.call147,by kernel_rfl⟩
theorem e148:FO 148 (Tryz.f148,(gB Tryz.f148)):=⟨fun _ _ _ _=>by kernel_rfl,Tryz.func148,Tryz.call148,by kernel_rfl⟩
theorem e149:FO 149 (Tryz.f149,B149):=⟨fun _ _ _ _=>by kernel_rfl,Tryz.func149,Tryz.call149,by kernel_rfl⟩
theorem e150:FO 150 (Tryz.f150,B150):=⟨fun _ _ _ _=>by kernel_rfl,Tryz.func150,Tryz.call150,by kernel_rfl⟩
theorem e151:FO 151 (Tryz.f151,B151):=⟨fun _ _ _ _=>by kernel_rfl,Tryz.func151,Tryz.call151,by kernel_rfl⟩
theorem e152:FO 152 (Tryz.f152,B152):=⟨fun _ _ _ _=>by kernel_rfl,Tryz.func152,Tryz.call152,by kernel_rfl⟩
theorem e153:FO 153 (Tryz.f153,(gB Tryz.f153)):=⟨fun _ _ _ _=>by kernel_rfl,Tryz.func153,Tryz.call153,by kernel_rfl⟩
theorem e154:FO 154 (Tryz.f154,B154):=⟨fun _ _ _ _=>by kernel_rfl,Tryz.func154,Tryz.call154,by kernel_rfl⟩
theorem e156:FO 156 (Tryz.f156,B156):=⟨fun _ _ _ _=>by kernel_rfl,Tryz.func156,Tryz.call156,by kernel_rfl⟩
theorem e157:FO 157 (Tryz.f157,(gB Tryz.f157)):=⟨fun _ _ _ _=>by kernel_rfl,Tryz.func157,Tryz.call157,by kernel_rfl⟩
theorem e158:FO 158 (Tryz.f158,B158):=⟨fun _ _ _ _=>by kernel_rfl,Tryz.func158,Tryz.call158,by kernel_rfl⟩
theorem e159:FO 159 (Tryz.f159,(gB Tryz.f159)):=⟨fun _ _ _ _=>by kernel_rfl,Tryz.func159,Tryz.call159,by kernel_rfl⟩
theorem e165:FO 165 (Tryz.f165,B165):=⟨fun _ _ _ _=>by kernel_rfl,Tryz.func165,Tryz.call165,by kernel_rfl⟩
theorem e166:FO 166 (Tryz.f166,B166):=⟨fun _ _ _ _=>by kernel_rfl,Tryz.func166,Tryz.call166,by kernel_rfl⟩
theorem e167:FO 167 (Tryz.f167,(gB Tryz.f167)):=⟨fun _ _ _ _=>by kernel_rfl,Tryz.func167,Tryz.call167,by kernel_rfl⟩
theorem e168:FO 168 (Tryz.f168,(gB Tryz.f168)):=⟨fun _ _ _ _=>by kernel_rfl,Tryz.func168,Tryz.call168,by kernel_rfl⟩
theorem e169:FO 169 (Tryz.f169,(gB Tryz.f169)):=⟨fun _ _ _ _=>by kernel_rfl,Tryz.func169,Tryz.call169,by kernel_rfl⟩
theorem e170:FO 170 (Tryz.f170,B170):=⟨fun _ _ _ _=>by kernel_rfl,Tryz.func170,Tryz.call170,by kernel_rfl⟩
theorem e171:FO 171 (Tryz.f171,(gB Tryz.f171)):=⟨fun _ _ _ _=>by kernel_rfl,Tryz.func171,Tryz.call171,by kernel_rfl⟩
theorem e172:FO 172 (Tryz.f172,(gB Tryz.f172)):=⟨fun _ _ _ _=>by kernel_rfl,Tryz.func172,Tryz.call172,by kernel_rfl⟩
theorem e173:FO 173 (Tryz.f173,(gB Tryz.f173)):=⟨fun _ _ _ _=>by kernel_rfl,Tryz.func173,Tryz.call173,by kernel_rfl⟩
theorem e174:FO 174 (Tryz.f174,(gB Tryz.f174)):=⟨fun _ _ _ _=>by kernel_rfl,Tryz.func174,Tryz.call174,by kernel_rfl⟩
theorem e175:FO 175 (Tryz.f175,(gB Tryz.f175)):=⟨fun _ _ _ _=>by kernel_rfl,Tryz.func175,Tryz.call175,by kernel_rfl⟩
theorem e176:FO 176 (Tryz.f176,(gB Tryz.f176)):=⟨fun _ _ _ _=>by kernel_rfl,Tryz.func176,Tryz.call176,by kernel_rfl⟩
theorem e177:FO 177 (Tryz.f177,(gB Tryz.f177)):=⟨fun _ _ _ _=>by kernel_rfl,Tryz.func177,Tryz.call177,by kernel_rfl⟩
theorem e178:FO 178 (Tryz.f178,(gB Tryz.f178)):=⟨fun _ _ _ _=>by kernel_rfl,Tryz.func178,Tryz.call178,by kernel_rfl⟩
theorem e179:FO 179 (Tryz.f179,B179):=⟨fun _ _ _ _=>by kernel_rfl,Tryz.func179,Tryz.call179,by kernel_rfl⟩
theorem e180:FO 180 (Tryz.f180,(gB Tryz.f180)):=⟨fun _ _ _ _=>by kernel_rfl,Tryz.func180,Tryz.call180,by kernel_rfl⟩
theorem e181:FO 181 (Tryz.f181,(gB Tryz.f181)):=⟨fun _ _ _ _=>by kernel_rfl,Tryz.func181,Tryz.call181,by kernel_rfl⟩
theorem e182:FO 182 (Tryz.f182,(gB Tryz.f182)):=⟨fun _ _ _ _=>by kernel_rfl,Tryz.func182,Tryz.call182,by kernel_rfl⟩
theorem e183:FO 183 (Tryz.f183,B183):=⟨fun _ _ _ _=>by kernel_rfl,Tryz.func183,Tryz.call183,by kernel_rfl⟩
theorem e184:FO 184 (Tryz.f184,(gB Tryz.f184)):=⟨fun _ _ _ _=>by kernel_rfl,Tryz.func184,Tryz.call184,by kernel_rfl⟩
theorem e185:FO 185 (Tryz.f185,B185):=⟨fun _ _ _ _=>by kernel_rfl,Tryz.func185,Tryz.call185,by kernel_rfl⟩
theorem e186:FO 186 (Tryz.f186,B186):=⟨fun _ _ _ _=>by kernel_rfl,Tryz.func186,Tryz.call186,by kernel_rfl⟩
theorem e187:FO 187 (Tryz.f187,(gB Tryz.f187)):=⟨fun _ _ _ _=>by kernel_rfl,Tryz.func187,Tryz.call187,by kernel_rfl⟩
theorem e188:FO 188 (Tryz.f188,B188):=⟨fun _ _ _ _=>by kernel_rfl,Tryz.func188,Tryz.call188,by kernel_rfl⟩
theorem e189:FO 189 (Tryz.f189,(gB Tryz.f189)):=⟨fun _ _ _ _=>by kernel_rfl,Tryz.func189,Tryz.call189,by kernel_rfl⟩
theorem e190:FO 190 (Tryz.f190,B190):=⟨fun _ _ _ _=>by kernel_rfl,Tryz.func190,Tryz.call190,by kernel_rfl⟩
theorem e191:FO 191 (Tryz.f191,(gB Tryz.f191)):=⟨fun _ _ _ _=>by kernel_rfl,Tryz.func191,Tryz.call191,by kernel_rfl⟩
theorem e192:FO 192 (Tryz.f192,(gB Tryz.f192)):=⟨fun _ _ _ _=>by kernel_rfl,Tryz.func192,Tryz.call192,by kernel_rfl⟩
theorem e193:FO 193 (Tryz.f193,(gB Tryz.f193)):=⟨fun _ _ _ _=>by kernel_rfl,Tryz.func193,Tryz.call193,by kernel_rfl⟩
theorem e194:FO 194 (Tryz.f194,B194):=⟨fun _ _ _ _=>by kernel_rfl,Tryz.func194,Tryz.call194,by kernel_rfl⟩
theorem e195:FO 195 (Tryz.f195,B195):=⟨fun _ _ _ _=>by kernel_rfl,Tryz.func195,Tryz.call195,by kernel_rfl⟩
theorem e196:FO 196 (Tryz.f196,(gB Tryz.f196)):=⟨fun _ _ _ _=>by kernel_rfl,Tryz.func196,Tryz.call196,by kernel_rfl⟩
theorem e197:FO 197 (Tryz.f197,B197):=⟨fun _ _ _ _=>by kernel_rfl,Tryz.func197,Tryz.call197,by kernel_rfl⟩
theorem e198:FO 198 (Tryz.f198,B198):=⟨fun _ _ _ _=>by kernel_rfl,Tryz.func198,Tryz.call198,by kernel_rfl⟩
theorem e199:FO 199 (Tryz.f199,(gB Tryz.f199)):=⟨fun _ _ _ _=>by kernel_rfl,Tryz.func199,Tryz.call199,by kernel_rfl⟩
theorem e200:FO 200 (Tryz.f200,B200):=⟨fun _ _ _ _=>by kernel_rfl,Tryz.func200,Tryz.call200,by kernel_rfl⟩
theorem l0:LO d0:=fun _ _ _ _=>by kernel_rfl
theorem l1:LO d1:=fun _ _ _ _=>by kernel_rfl
theorem l2:LO d2:=fun _ _ _ _=>by kernel_rfl
theorem l3:LO d3:=fun _ _ _ _=>by kernel_rfl
theorem l4:LO d4:=fun _ _ _ _=>by kernel_rfl
theorem l5:LO d5:=fun _ _ _ _=>by kernel_rfl
theorem l6:LO d6:=fun _ _ _ _=>by kernel_rfl
theorem l7:LO d7:=fun _ _ _ _=>by kernel_rfl
theorem l8:LO d8:=fun _ _ _ _=>by kernel_rfl
theorem l9:LO d9:=fun _ _ _ _=>by kernel_rfl
theorem l10:LO d10:=fun _ _ _ _=>by kernel_rfl
theorem l11:LO d11:=fun _ _ _ _=>by kernel_rfl
theorem l12:LO d12:=fun _ _ _ _=>by kernel_rfl
theorem l13:LO d13:=fun _ _ _ _=>by kernel_rfl
theorem l14:LO d14:=fun _ _ _ _=>by kernel_rfl
theorem l15:LO d15:=fun _ _ _ _=>by kernel_rfl
theorem l16:LO d16:=fun _ _ _ _=>by kernel_rfl
theorem l17:LO d17:=fun _ _ _ _=>by kernel_rfl
theorem l18:LO d18:=fun _ _ _ _=>by kernel_rfl
theorem l19:LO d19:=fun _ _ _ _=>by kernel_rfl
theorem l20:LO d20:=fun _ _ _ _=>by kernel_rfl
theorem l21:LO d21:=fun _ _ _ _=>by kernel_rfl
theorem l22:LO d22:=fun _ _ _ _=>by kernel_rfl
theorem l23:LO d23:=fun _ _ _ _=>by kernel_rfl
theorem l24:LO d24:=fun _ _ _ _=>by kernel_rfl
theorem l25:LO d25:=fun _ _ _ _=>by kernel_rfl
theorem l26:LO d26:=fun _ _ _ _=>by kernel_rfl
theorem l27:LO d27:=fun _ _ _ _=>by kernel_rfl
theorem l28:LO d28:=fun _ _ _ _=>by kernel_rfl
theorem l29:LO d29:=fun _ _ _ _=>by kernel_rfl
theorem l30:LO d30:=fun _ _ _ _=>by kernel_rfl
theorem l31:LO d31:=fun _ _ _ _=>by kernel_rfl
theorem l32:LO d32:=fun _ _ _ _=>by kernel_rfl
theorem l33:LO d33:=fun _ _ _ _=>by kernel_rfl
theorem l34:LO d34:=fun _ _ _ _=>by kernel_rfl
theorem l35:LO d35:=fun _ _ _ _=>by kernel_rfl
theorem l36:LO d36:=fun _ _ _ _=>by kernel_rfl
theorem l37:LO d37:=fun _ _ _ _=>by kernel_rfl
theorem l38:LO d38:=fun _ _ _ _=>by kernel_rfl
theorem l39:LO d39:=fun _ _ _ _=>by kernel_rfl
theorem l40:LO d40:=fun _ _ _ _=>by kernel_rfl
theorem l41:LO d41:=fun _ _ _ _=>by kernel_rfl
theorem l42:LO d42:=fun _ _ _ _=>by kernel_rfl
theorem l43:LO d43:=fun _ _ _ _=>by kernel_rfl
theorem l44:LO d44:=fun _ _ _ _=>by kernel_rfl
theorem l45:LO d45:=fun _ _ _ _=>by kernel_rfl
theorem l46:LO d46:=fun _ _ _ _=>by kernel_rfl
theorem l47:LO d47:=fun _ _ _ _=>by kernel_rfl
theorem l48:LO d48:=fun _ _ _ _=>by kernel_rfl
theorem l49:LO d49:=fun _ _ _ _=>by kernel_rfl
theorem l50:LO d50:=fun _ _ _ _=>by kernel_rfl
theorem l51:LO d51:=fun _ _ _ _=>by kernel_rfl
theorem l52:LO d52:=fun _ _ _ _=>by kernel_rfl
theorem l53:LO d53:=fun _ _ _ _=>by kernel_rfl
theorem l54:LO d54:=fun _ _ _ _=>by kernel_rfl
theorem l55:LO d55:=fun _ _ _ _=>by kernel_rfl
theorem l56:LO d56:=fun _ _ _ _=>by kernel_rfl
theorem l57:LO d57:=fun _ _ _ _=>by kernel_rfl
theorem l58:LO d58:=fun _ _ _ _=>by kernel_rfl
theorem l59:LO d59:=fun _ _ _ _=>by kernel_rfl
theorem rtabF_all {f:Nat} {e:Func×Body}:rtabF f=some e->FO f e:=(rN (rN (rN (rN (rN (rN (rN (rL e5) (rL e11)) (rN (rL e13) (rL e15))) (rN (rN (rL e17) (rL e18)) (rN (rL e23) (rL e24)))) (rN (rN (rN (rL e28) (rL e30)) (rN (rL e31) (rL e32))) (rN (rN (rL e35) (rL e36)) (rN (rL e37) (rN (rL e38) (rL e39)))))) (rN (rN (rN (rN (rL e40) (rL e41)) (rN (rL e42) (rL e43))) (rN (rN (rL e44) (rL e45)) (rN (rL e46) (rN (rL e51) (rL e52))))) (rN (rN (rN (rL e53) (rL e54)) (rN (rL e62) (rL e63))) (rN (rN (rL e64) (rL e65)) (rN (rL e66) (rN (rL e67) (rL e68))))))) (rN (rN (rN (rN (rN (rL e69) (rL e70)) (rN (rL e71) (rL e72))) (rN (rN (rL e73) (rL e74)) (rN (rL e75) (rN (rL e76) (rL e77))))) (rN (rN (rN (rL e78) (rL e79)) (rN (rL e80) (rL e81))) (rN (rN (rL e82) (rL e85)) (rN (rL e86) (rN (rL e87) (rL e88)))))) (rN (rN (rN (rN (rL e89) (rL e90)) (rN (rL e91) (rL e101))) (rN (rN (rL e102) (rL e103)) (rN (rL e104) (rN (rL e105) (rL e106))))) (rN (rN (rN (rL e107) (rL e108)) (rN (rL e109) (rL e110))) (rN (rN (rL e111) (rL e112)) (rN (rL e113) (rN (rL e114) (rL e115)))))))) (rN (rN (rN (rN (rN (rN (rL e116) (rL e117)) (rN (rL e118) (rL e119))) (rN (rN (rL e120) (rL e121)) (rN (rL e122) (rL e124)))) (rN (rN (rN (rL e125) (rL e133)) (rN (rL e134) (rL e135))) (rN (rN (rL e136) (rL e137)) (rN (rL e138) (rN (rL e139) (rL e140)))))) (rN (rN (rN (rN (rL e141) (rL e142)) (rN (rL e143) (rL e144))) (rN (rN (rL e145) (rL e146)) (rN (rL e147) (rN (rL e148) (rL e149))))) (rN (rN (rN (rL e150) (rL e151)) (rN (rL e152) (rL e153))) (rN (rN (rL e154) (rL e156)) (rN (rL e157) (rN (rL e158) (rL e159))))))) (rN (rN (rN (rN (rN (rL e165) (rL e166)) (rN (rL e167) (rL e168))) (rN (rN (rL e169) (rL e170)) (rN (rL e171) (rN (rL e172) (rL e173))))) (rN (rN (rN (rL e174) (rL e175)) (rN (rL e176) (rL e177))) (rN (rN (rL e178) (rL e179)) (rN (rL e180) (rN (rL e181) (rL e182)))))) (rN (rN (rN (rN (rL e183) (rL e184)) (rN (rL e185) (rL e186))) (rN (rN (rL e187) (rL e188)) (rN (rL e189) (rN (rL e190) (rL e191))))) (rN (rN (rN (rL e192) (rL e193)) (rN (rL e194) (rL e195))) (rN (rN (rL e196) (rL e197)) (rN (rL e198) (rN (rL e199) (rL e200)))))))))
theorem rtabL_ok {f:Nat} {e:(Code×Cx)×Body}:rtabL f=some e->LO e:=(rN (rN (rN (rN (rN (rL (R:=fun _=>LO) l0) (rN (rL (R:=fun _=>LO) l1) (rL (R:=fun _=>LO) l2))) (rN (rN (rL (R:=fun _=>LO) l3) (rL (R:=fun _=>LO) l4)) (rN (rL (R:=fun _=>LO) l5) (rL (R:=fun _=>LO) l6)))) (rN (rN (rN (rL (R:=fun _=>LO) l7) (rL (R:=fun _=>LO) l8)) (rN (rL (R:=fun _=>LO) l9) (rL (R:=fun _=>LO) l10))) (rN (rN (rL (R:=fun _=>LO) l11) (rL (R:=fun _=>LO) l12)) (rN (rL (R:=fun _=>LO) l13) (rL (R:=fun _=>LO) l14))))) (rN (rN (rN (rL (R:=fun _=>LO) l15) (rN (rL (R:=fun _=>LO) l16) (rL (R:=fun _=>LO) l17))) (rN (rN (rL (R:=fun _=>LO) l18) (rL (R:=fun _=>LO) l19)) (rN (rL (R:=fun _=>LO) l20) (rL (R:=fun _=>LO) l21)))) (rN (rN (rN (rL (R:=fun _=>LO) l22) (rL (R:=fun _=>LO) l23)) (rN (rL (R:=fun _=>LO) l24) (rL (R:=fun _=>LO) l25))) (rN (rN (rL (R:=fun _=>LO) l26) (rL (R:=fun _=>LO) l27)) (rN (rL (R:=fun _=>LO) l28) (rL (R:=fun _=>LO) l29)))))) (rN (rN (rN (rN (rL (R:=fun _=>LO) l30) (rN (rL (R:=fun _=>LO) l31) (rL (R:=fun _=>LO) l32))) (rN (rN (rL (R:=fun _=>LO) l33) (rL (R:=fun _=>LO) l34)) (rN (rL (R:=fun _=>LO) l35) (rL (R:=fun _=>LO) l36)))) (rN (rN (rN (rL (R:=fun _=>LO) l37) (rL (R:=fun _=>LO) l38)) (rN (rL (R:=fun _=>LO) l39) (rL (R:=fun _=>LO) l40))) (rN (rN (rL (R:=fun _=>LO) l41) (rL (R:=fun _=>LO) l42)) (rN (rL (R:=fun _=>LO) l43) (rL (R:=fun _=>LO) l44))))) (rN (rN (rN (rL (R:=fun _=>LO) l45) (rN (rL (R:=fun _=>LO) l46) (rL (R:=fun _=>LO) l47))) (rN (rN (rL (R:=fun _=>LO) l48) (rL (R:=fun _=>LO) l49)) (rN (rL (R:=fun _=>LO) l50) (rL (R:=fun _=>LO) l51)))) (rN (rN (rN (rL (R:=fun _=>LO) l52) (rL (R:=fun _=>LO) l53)) (rN (rL (R:=fun _=>LO) l54) (rL (R:=fun _=>LO) l55))) (rN (rN (rL (R:=fun _=>LO) l56) (rL (R:=fun _=>LO) l57)) (rN (rL (R:=fun _=>LO) l58) (rL (R:=fun _=>LO) l59)))))))
theorem rtab_ok:TabsOk rtab tyTab:=⟨fun h=>(rtabF_all h).1,rtabL_ok⟩
theorem rtabF_fn {f:Nat} {e:Func×Body} (h:rtabF f=some e):Tryz.prog.funcs[f]? = some e.1∧HasBody Tryz.prog f∧okF y e.1=true:=(rtabF_all h).2
end
end Go.Gx
end
section
namespace Go.Gx
open Go Go.Sx
section
variable {P:Program} {gs:Gls} {w0:Base gs} {tb:TB}
theorem callOk_none:CallOk P w0 (fun _ _ _=>none):=fun f us H g H' h=>by cases h
theorem loopOk_none:LoopOk P w0 tb (fun _ _ _ _=>none):=fun b cx vs H out h=>by cases h
theorem evF_ok' {ch:CH} {lp:LH} (hT:TabOk P tb) (hm:P.follows .mixedOrders=true) (hcall:∀w0:Base gs,CallOk P w0 ch) (hloop:LoopOk P w0 tb lp) {f:Nat} {fn:Func} {us:List GV} {H:GH} {out:Out} (h1:P.funcs[f]? = some fn) (hok:okF tb fn=true) (h:evF tb ch lp fn us H=some out) (he:out.e = .ret) {ρ:Rho} {w:World} {vs:List Value} (R:Rel w0 ρ H w) (hr:RlL ρ us vs):
  Calls P f vs.toArray w fun e w'=>∃v ρ',e = .returned v∧ρ.le ρ'∧Rel w0 ρ' out.H w'∧Rl ρ' (pack out.vs) v:=by
 obtain⟨h3,h4⟩:=okF_spec hok
 obtain⟨body,hb,h⟩:=ob_some.1 (show ob fn.body _=some out from h)
 obtain⟨σ,hσ,h⟩:=unpackL_some h
 rw[List.range_eq_range']at hσ
 have hlen:=args_len hσ
 have hvl:vs.length<=fn.ntmps:=by rw[<-hr.len,hlen];exact h4
 refine calls_of_wpr h1 hb ?_
 have F:FrOk ρ fn.ntmps σ {tmps:=vs.toArray++Array.replicate (fn.ntmps - vs.toArray.size) undef,defers:=[]}:=by
  refine args_ok rfl (by simp;omega) hr (fun j v hv=> ?_) hσ
  have hlt:=getElem?_lt hv
  rw[Nat.zero_add,Array.getElem?_append_left (by simpa using hlt)]
  simpa using hv
 refine evC_ok hT hm hcall hloop body _ _ _ ⟨σ,H⟩ out ρ _ w _ (h3 body hb) h F R ⟨fun s' ρ' a' w' hk hle' F' R'=> ?_,fun id s' ρ' a' w' hk hle' F' R'=> ?_,fun s' ρ' a' w' hk hle' F' R'=> ?_⟩
 ·obtain⟨e1,v,hv,hres⟩:=retR_ok (fn:=fn) hT rfl F' R' hk
  exact Sx.body_end (.inr rfl) F'.defers hres ⟨v,ρ',rfl,hle',by rw[e1];exact R',hv⟩
 ·have:=exitOut_e hk
  rw[he]at this;cases this
 ·obtain⟨e1,v,hv,hres⟩:=retR_ok (fn:=fn) hT rfl F' R' hk
  exact Sx.body_end (.inl rfl) F'.defers hres ⟨v,ρ',rfl,hle',by rw[e1];exact R',hv⟩
noncomputable def chOne (tb:TB) (f:Nat) (fn:Func):CH:=fun g us H=>bif Nat.beq g f then resOR (evF tb (fun _ _ _=>none) (fun _ _ _ _=>none) fn us H)else none
theorem chOne_ok (hT:TabOk P tb) (hm:P.follows .mixedOrders=true) {f:Nat} {fn:Func} (h1:P.funcs[f]? = some fn) (hb:HasBody P f) (hok:okF tb fn=true):CallOk P w0 (chOne tb f fn):=fun g us H x H' h ρ w vs R hr=>by
 unfold chOne at h
 cases h2:Nat.beq g f with
 |false=>rw[h2]at h;cases h
 |true=>
 rw[h2]at h
 have h2:=Nat.eq_of_beq_eq_true h2
 subst h2
 replace h:resOR (evF tb (fun _ _ _=>none) (fun _ _ _ _=>none) fn us H)=some (x,H'):=h
 unfold resOR at h
 obtain⟨o,h3,h4⟩:=ob_some.1 h
 cases he:o.e with
 |normal=>rw[he]at h4;cases h4
 |exit id=>rw[he]at h4;cases h4
 |ret=>
  rw[he]at h4;cases h4
  exact .inr ⟨hb _ w,evF_ok' hT hm (fun _=>callOk_none) loopOk_none h1 hok h3 he R hr⟩
theorem wpSIn_rec {id:Nat} {o:Oper} {l:List Oper} {Q:Exit->Act->List Frame->World->Prop} {a:Act} {cs:List Frame} {w:World} (hnd:l.all noDefer=true) (hg:o.guard=none) (hrun:(execOp a.eval o).run P w = .ok .recover w)
  (hrec:recoverD cs=none) (h:Sx.wpList P (o::l).toArray (fun e a' w'=>Q e a' cs w') l (a.put o.dst .nilIface) w):(Code.region id (o::l).toArray false).wpSIn (FR none) 0 P Q a cs w:=by
 intro b k hb hro hF hroom
 have ho:(o::l).toArray[0]? = some o:=by simp
 obtain⟨e,a',w',hq,harr⟩:=wp_opsIn (F:=FR none) (n:=0) (Q:=fun e a' w'=>Q e a' cs w') (ops:=(o::l).toArray) (List.range' 1 l.length) (a.put o.dst .nilIface) w
  (by rw[wpOpsIn_eq_wpListIn l 1 (by intro j;simp[Nat.add_comm 1 j])];exact Sx.wpList_in l _ w hnd h) b k cs hro hF hroom
 have hw:Region.wanted o (yielded (o::l).toArray a.tmps)=true:=by simp[Region.wanted,hg]
 have h0:(lone (b.atR a (.inRegion (o::l).toArray (0::List.range' 1 l.length)::k)) cs w).fenced P (FR none):=fenced_oper hF hroom ho (fun _ _=>trivial)
 have hg':=stepGR_op (P:=P) (b:=b) (k:=k) (cs:=cs) (w:=w) (rest:=List.range' 1 l.length) ho hw
 rw[hro,Oper.semAt_none]at hg'
 have hfin:∀v,(b.atR a (.inRegion (o::l).toArray (0::List.range' 1 l.length)::k)).finish v=b.atR (a.put o.dst v) (.inRegion (o::l).toArray (List.range' 1 l.length)::k):=by
  intro v;rw[Frame.finish_atR,ho];rfl
 have hk:(b.atR a (.inRegion (o::l).toArray (0::List.range' 1 l.length)::k)).kind = .deferred:=hb
 have htr:=tryRecover_deferred hk cs
 have hr:List.range (o::l).toArray.size=0::List.range' 1 l.length:=by simp[List.range_eq_range',List.range'_succ]
 have hs:=stepR_region (P:=P) (b:=b) (a:=a) (k:=k) (cs:=cs) (w:=w) (id:=id) (ops:=(o::l).toArray)
 rw[hr]at hs
 refine⟨e,a',cs,w',rfl,hq,.of_steps (.head (fenced_calm hF hroom rfl) hs (.one h0 (step_lone_go ?_))) harr⟩
 rw[hg',<-hfin]
 simp only[Frame.atR,hro]at htr ⊢
 simp[stepG.apply,hrun,htr,hrec]
theorem caught_ok {ch:CH} {lp:LH} (hT:TabOk P tb) (hm:P.follows .mixedOrders=true) {f:Nat} {fn:Func} {id m d:Nat} {o:Oper} {l:List Oper} {rest:Code} {cx:Cx} {out:Out} {args:Array Value} {w:World}
  (hcall:∀w0:Base noG,CallOk P w0 ch) (hloop:LoopOk P (Base.one w) tb lp) (hf:P.funcs[f]? = some fn) (hb:fn.body=some (.seq (.region id (o::l).toArray false) rest)) (hg:o.guard=none) (hd:o.dst=some d) (hdn:d<fn.ntmps)
  (hrun:∀ρ w,(execOp ρ o).run P w = .ok .recover w) (hl:l.all (okOp fn.ntmps)=true) (hr:okC tb fn.ntmps rest=true) (hres:fn.results = #[]) (hsz:args.size<=fn.ntmps)
  (h:evOps tb ch (o::l) (evC tb ch lp rest m cx (retN [])) l ⟨[(d,.inil)],H0⟩=some out) (he:out.e = .normal):
  CallsDIn (FR none) 0 P f args .returning w fun e u' w'=>∃v,e = .returned v∧u' = .returning∧Ext w w':=by
 have hnd:l.all noDefer=true:=List.all_eq_true.2 fun o hmo=>(okOp_spec (List.all_eq_true.1 hl o hmo)).1
 refine callsDIn_of_wpSIn hf hb trivial fun c₀ cs hu=> ?_
 have hrec:recoverD (c₀::cs)=none:=by simp[recoverD,hu]
 refine wpSIn_seq (wpSIn_rec hnd hg (hrun _ _) hrec ?_)
 have F:FrOk (fun _=>none) fn.ntmps [(d,.inil)] (({tmps:=args++Array.replicate (fn.ntmps - args.size) undef,defers:=[]}:Act).put o.dst .nilIface):=by
  rw[hd]
  refine FrOk.put ⟨rfl,by simp;omega,fun t g hg=>(by cases hg)⟩ hdn ?_
  exact .inil
 refine evOps_ok hT (hcall (Base.one w)) l ⟨[(d,.inil)],H0⟩ _ _ w hl F (Rel.start (Base.one w) rfl) h fun s' ρ' a' w' hk hle' F' R'=> ?_
 refine wpSIn_of_wpIn rfl ?_
 refine evC_ok hT hm hcall hloop rest _ _ _ s' out ρ' a' w' _ hr hk F' R' ⟨fun s2 ρ2 a2 w2 hk2 hle2 F2 R2=> ?_,fun id s2 ρ2 a2 w2 hk2 hle2 F2 R2=> ?_,fun s2 ρ2 a2 w2 hk2 hle2 F2 R2=> ?_⟩
 ·refine⟨F2.defers,c₀.mode,rfl,.tuple #[],?_,_,rfl,hu,R2.ext.ext⟩
  simp[results,hres]
 ·have:=exitOut_e hk2
  rw[he]at this;cases this
 ·have:=retR_e hk2
  rw[he]at this;cases this
theorem wpl_val {o:Oper} {l:List Oper} {ops:Array Oper} {Q:Exit->Act->World->Prop} {a:Act} {w w':World} {v:Value} (hg:o.guard=none) (hr:(execOp a.eval o).run P w = .ok (.value v) w') (h:Sx.wpList P ops Q l (a.put o.dst v) w'):Sx.wpList P ops Q (o::l) a w:=by
 unfold Sx.wpList
 rw[if_pos (by simp[Region.wanted,hg])]
 exact .inl (by simp only[Oper.wp,hr,Oper.upon];exact h)
theorem wpl_skip {o:Oper} {l:List Oper} {ops:Array Oper} {Q:Exit->Act->World->Prop} {a:Act} {w w':World} (hg:o.guard=none) (hr:(execOp a.eval o).run P w = .ok .skip w') (h:Sx.wpList P ops Q l (a.put o.dst undef) w'):Sx.wpList P ops Q (o::l) a w:=by
 unfold Sx.wpList
 rw[if_pos (by simp[Region.wanted,hg])]
 exact .inl (by simp only[Oper.wp,hr,Oper.upon];exact h)
theorem wpl_enter {o:Oper} {l:List Oper} {ops:Array Oper} {Q:Exit->Act->World->Prop} {a:Act} {w:World} {f:Nat} {args:Array Value} {S:Value->World->Prop} (hg:o.guard=none) (hr:(execOp a.eval o).run P w = .ok (.enter f args) w)
  (hc:Calls P f args w fun e w'=>∃v,e = .returned v∧S v w') (h:∀v w',S v w'->Sx.wpList P ops Q l (a.put o.dst v) w'):Sx.wpList P ops Q (o::l) a w:=by
 unfold Sx.wpList
 rw[if_pos (by simp[Region.wanted,hg])]
 refine .inl ?_
 simp only[Oper.wp,hr,Oper.upon]
 refine hc.mono ?_
 rintro e w' ⟨v,rfl,hs⟩
 exact h v w' hs
theorem cat_ok (hT:TabOk P tb) {c cc T1 T2 i0 i1 i2 i3 y0 y1 y2 y3 y4 y5 y6 y7:Nat} {p0 p1 p2 p3 p4 p5 p6 p7:String} {e0 e1 e2 e3 e4 e5 e6 e7:Array Edge} {fn:Func} (hf:P.funcs[c]? = some fn) (hbd:HasBody P c) (hcc:HasBody P cc)
  (hb:fn.body=some (.seq (.region i0 #[⟨some 2,.alloc T1,y0,p0,e0,none⟩,⟨some 3,.alloc T2,y1,p1,e1,none⟩] false)
   (.seq (.region i1 #[⟨some 4,.makeFunc (.func cc) #[] #[.tmp 2,.tmp 3],y2,p2,e2,none⟩,⟨none,.defer ⟨.value (.tmp 4),#[],#[]⟩,y3,p3,e3,none⟩] false)
   (.seq (.region i2 #[⟨some 5,.move (.tmp 0),y4,p4,e4,none⟩,⟨some 6,.call ⟨.value (.tmp 5),#[],#[]⟩,y5,p5,e5,none⟩] false)
   (.seq (.region i3 #[⟨none,.store T1 (.tmp 2) (.const (.int .i64 0)),y6,p6,e6,none⟩,⟨none,.store T2 (.tmp 3) (.const (.int .i64 0)),y7,p7,e7,none⟩] false) .ret)))))
  (hn:fn.ntmps=7) (hres:fn.results = #[.cell 2 T1,.cell 3 T2])
  (hA1:∀H,vAlloc tb T1 H=some (.ptr H.n 0,H.new (.cells [z64]))) (hA2:∀H,vAlloc tb T2 H=some (.ptr H.n 0,H.new (.cells [z64])))
  (hS1:∀H h c,GH.cells H h=some [c]->vStore tb T1 (.ptr h 0) z64 H=some (.un,H.set h (.cells [z64]))) (hS2:∀H h c,GH.cells H h=some [c]->vStore tb T2 (.ptr h 0) z64 H=some (.un,H.set h (.cells [z64])))
  (hL1:∀H h,GH.cells H h=some [z64]->vLoad tb T1 (.ptr h 0) H=some z64) (hL2:∀H h,GH.cells H h=some [z64]->vLoad tb T2 (.ptr h 0) H=some z64)
  (hdef:∀args w,args.size=2->CallsDIn (FR none) 0 P cc args .returning w fun e u' w'=>∃v,e = .returned v∧u' = .returning∧Ext w w')
  {ρ:Rho} {g:Nat} {us cs:List Value} {w:World} {H H':GH} {c1 c2:GV} (R:Rel w0 ρ H w) (hc:∀ρ' w',ρ.le ρ'->Rel w0 ρ' ((H.new (.cells [z64])).new (.cells [z64])) w'->∃x,CallSem P w0 ρ' g (us++cs) w' x H') (h1:H'.cells H.n=some [c1]) (h2:H'.cells (H.n+1)=some [c2]):
  CallSem P w0 ρ c [.func (.func g) us.toArray cs.toArray] w (.tup [z64,z64]) ((((H'.set H.n (.cells [z64])).set (H.n+1) (.cells [z64])).del H.n).del (H.n+1)):=by
 refine .inr ⟨hbd _ w,?_⟩
 refine callsFR' (r:=none) (n:=0) (callsIn_of_wp_defers hf hb trivial ?_)
 rw[hn]
 obtain⟨v1,w1,ρ1,hr1,hle1,R1,hv1⟩:=vAlloc_ok (P:=P) hT R (hA1 H)
 obtain⟨v2,w2,ρ2,hr2,hle2,R2,hv2⟩:=vAlloc_ok (P:=P) hT R1 (hA2 _)
 obtain⟨x,hx⟩:=hc ρ2 w2 (Rho.le_trans hle1 hle2) R2
 refine wpIn_seq (wpr_region_lit rfl ?_)
 refine wpl_val rfl (v:=v1) (w':=w1) (by simp[execOp,hr1]) ?_
 refine wpl_val rfl (v:=v2) (w':=w2) (by simp[execOp,hr2]) ?_
 show Code.wpIn (FR none) 0 P _ _ (⟨#[.func (.func g) us.toArray cs.toArray,undef,v1,v2,undef,undef,undef],[]⟩:Act) w2
 refine wpIn_seq (wpIn_region_lit ?_)
 refine wpListIn_plain rfl fun K hK=>⟨fun _ _=>trivial,?_⟩
 have hm:(Oper.semAt (FR none).round (⟨#[.func (.func g) us.toArray cs.toArray,undef,v1,v2,undef,undef,undef],[]⟩:Act).eval ⟨some 4,.makeFunc (.func cc) #[] #[.tmp 2,.tmp 3],y2,p2,e2,none⟩).run P w2 = .ok (.value (.func (.func cc) #[] #[v1,v2])) w2:=by
  rw[show(FR none).round=none from rfl,Oper.semAt_none]
  simp[execOp,Instr.makeFunc,Act.eval]
 rw[hm]
 refine hK _ _ ?_
 show wpListIn _ _ _ _ _ _ (⟨#[.func (.func g) us.toArray cs.toArray,undef,v1,v2,.func (.func cc) #[] #[v1,v2],undef,undef],[]⟩:Act) w2
 refine wpListIn_plain rfl fun K hK=>⟨fun _ _=>trivial,?_⟩
 have hm:(Oper.semAt (FR none).round (⟨#[.func (.func g) us.toArray cs.toArray,undef,v1,v2,.func (.func cc) #[] #[v1,v2],undef,undef],[]⟩:Act).eval ⟨none,.defer ⟨.value (.tmp 4),#[],#[]⟩,y3,p3,e3,none⟩).run P w2 = .ok (.defer ⟨.fn (.func cc) #[v1,v2],#[]⟩) w2:=by
  rw[show(FR none).round=none from rfl,Oper.semAt_none]
  simp[execOp,resolve,Act.eval,Deferred.ofValue]
 rw[hm]
 refine hK _ _ ?_
 show Code.wpIn (FR none) 0 P _ _ (⟨#[.func (.func g) us.toArray cs.toArray,undef,v1,v2,.func (.func cc) #[] #[v1,v2],undef,undef],[⟨.fn (.func cc) #[v1,v2],#[]⟩]⟩:Act) w2
 refine wpIn_seq (wpr_region_lit rfl ?_)
 refine wpl_val rfl (v:= .func (.func g) us.toArray cs.toArray) (w':=w2) (by simp[execOp,Act.eval]) ?_
 show Sx.wpList _ _ _ _ (⟨#[.func (.func g) us.toArray cs.toArray,undef,v1,v2,.func (.func cc) #[] #[v1,v2],.func (.func g) us.toArray cs.toArray,undef],[⟨.fn (.func cc) #[v1,v2],#[]⟩]⟩:Act) w2
 have go:∀v w3 ρ3,ρ2.le ρ3->Rel w0 ρ3 H' w3->Code.wpIn (FR none) 0 P (.seq (.region i3 #[⟨none,.store T1 (.tmp 2) (.const (.int .i64 0)),y6,p6,e6,none⟩,⟨none,.store T2 (.tmp 3) (.const (.int .i64 0)),y7,p7,e7,none⟩] false) .ret) (bodyPostDIn (FR none) 0 P fn fun e w'=>∃v ρ',e = .returned v∧ρ.le ρ'∧Rel w0 ρ' ((((H'.set H.n (.cells [z64])).set (H.n+1) (.cells [z64])).del H.n).del (H.n+1)) w'∧Rl ρ' (.tup [z64,z64]) v) (⟨#[.func (.func g) us.toArray cs.toArray,undef,v1,v2,.func (.func cc) #[] #[v1,v2],.func (.func g) us.toArray cs.toArray,v],[⟨.fn (.func cc) #[v1,v2],#[]⟩]⟩:Act) w3:=by
  intro v w3 ρ3 hle3 R3
  have hz:∀ρ,Rl ρ z64 (.int .i64 0):=fun ρ=> .int _ _
  obtain⟨_,w4,ρ4,hr4,hle4,R4⟩:=vStore_ok (P:=P) (T:=T1) hT R3 ((hv1.le hle2).le hle3) (hz _) (hS1 _ _ _ h1)
  have h2':(H'.set H.n (.cells [z64])).cells (H.n+1)=some [c2]:=by
   rw[GH.cells_eq]at h2 ⊢
   rw[GH.get_set,if_neg (by omega)];exact h2
  obtain⟨_,w5,ρ5,hr5,hle5,R5⟩:=vStore_ok (P:=P) (T:=T2) hT R4 ((hv2.le hle3).le hle4) (hz _) (hS2 _ _ _ h2')
  refine wpIn_seq (wpr_region_lit rfl ?_)
  refine wpl_skip rfl (w':=w4) (by simp[execOp,Act.eval,hr4]) ?_
  refine wpl_skip rfl (w':=w5) (by simp[execOp,Act.eval,Act.put,hr5]) ?_
  refine wpIn_ret ?_
  show LeavesIn (FR none) 0 P fn #[.func (.func g) us.toArray cs.toArray,undef,v1,v2,.func (.func cc) #[] #[v1,v2],.func (.func g) us.toArray cs.toArray,v] _ [⟨.fn (.func cc) #[v1,v2],#[]⟩] .returning w5
  refine leavesIn_cons (f:=cc) (args:= #[v1,v2]) (by simp) (by simp[FR,Fence.wide]) (by simp[invoke,hcc _ w5]) (fun _ _=>trivial) ?_
  refine(hdef #[v1,v2] w5 rfl).mono ?_
  rintro e u' w6 ⟨x6,rfl,rfl,hext⟩
  have R6:=R5.ext' hext
  have F:FrOk ρ5 7 [(2,.ptr H.n 0),(3,.ptr (H.n+1) 0)] (⟨#[.func (.func g) us.toArray cs.toArray,undef,v1,v2,.func (.func cc) #[] #[v1,v2],.func (.func g) us.toArray cs.toArray,v],[]⟩:Act):=by
   refine⟨rfl,rfl,fun t g hg=> ?_⟩
   rw[glk_cons]at hg
   by_cases h2:t=2
   ·rw[if_pos h2]at hg;cases hg;rw[h2]
    exact(((hv1.le hle2).le hle3).le hle4).le hle5
   ·rw[if_neg h2,glk_cons]at hg
    by_cases h3:t=3
    ·rw[if_pos h3]at hg;cases hg;rw[h3]
     exact((hv2.le hle3).le hle4).le hle5
    ·rw[if_neg h3]at hg;cases hg
  have hres':retR tb ⟨fn.results.toList,0,[]⟩ ⟨[(2,.ptr H.n 0),(3,.ptr (H.n+1) 0)],(H'.set H.n (.cells [z64])).set (H.n+1) (.cells [z64])⟩=some ⟨.ret,[z64,z64],(H'.set H.n (.cells [z64])).set (H.n+1) (.cells [z64])⟩:=by
   rw[hres]
   have q1:vLoad tb T1 (.ptr H.n 0) ((H'.set H.n (.cells [z64])).set (H.n+1) (.cells [z64]))=some z64:=hL1 _ _ (by rw[GH.cells_eq,GH.get_set,if_neg (by omega),GH.get_set,if_pos rfl])
   have q2:vLoad tb T2 (.ptr (H.n+1) 0) ((H'.set H.n (.cells [z64])).set (H.n+1) (.cells [z64]))=some z64:=hL2 _ _ (by rw[GH.cells_eq,GH.get_set,if_pos rfl])
   show ob (ob (vLoad tb T1 (.ptr H.n 0) _) fun v=>ob (ob (vLoad tb T2 (.ptr (H.n+1) 0) _) fun v=>ob (some []) fun vs=>some (v::vs)) fun vs=>some (v::vs)) _=_
   rw[q1,q2];rfl
  obtain⟨_,v6,hv6,hr6⟩:=retR_ok (fn:=fn) (P:=P) hT rfl F R6 hres'
  exact⟨v6,hr6,v6,ρ5,rfl,Rho.le_trans hle1 (Rho.le_trans hle2 (Rho.le_trans hle3 (Rho.le_trans hle4 hle5))),(R6.del _).del _,hv6⟩
 rcases hx with⟨v,w3,ρ3,hr,hle3,R3,_⟩|⟨hr,hcalls⟩
 ·refine wpl_val rfl (v:=v) (w':=w3) (by simpa [execOp,resolve,Act.eval,Deferred.ofValue,invoke]using hr) ?_
  exact go v w3 ρ3 hle3 R3
 ·refine wpl_enter rfl (f:=g) (args:=(us++cs).toArray) (S:=fun v w'=>∃ρ',ρ2.le ρ'∧Rel w0 ρ' H' w') (by simpa [execOp,resolve,Act.eval,Deferred.ofValue,invoke]using hr) (hcalls.mono ?_) fun v w3 ⟨ρ3,hle3,R3⟩=>go v w3 ρ3 hle3 R3
  rintro e w' ⟨v,ρ',rfl,hle,R',_⟩
  exact⟨v,rfl,ρ',hle,R'⟩
end
end Go.Gx
end
section
namespace Go.Gx
open Go Go.Sx
noncomputable section
def idxB (n c:Nat) (len:Nat):Nat->Option Nat:=Nat.rec (motive:=fun _=>Nat->Option Nat) (fun _=>none) (fun _ ih i=>Bool.casesOn (motive:=fun _=>Option Nat) (Nat.beq (Nat.mod (Nat.shiftRight n (Nat.mul 8 i)) 256) c) (ih (Nat.succ i)) (some i)) len
def isU8 (k:IntKind):Bool:=match k with
 | .u8=>true
 |_=>false
def gexn (fx:Nat) (f:Nat) (us:List GV):Option GV:=bif Nat.beq f fx then List.casesOn (motive:=fun _=>Option GV) us none (fun a r=>List.casesOn (motive:=fun _=>Option GV) r none fun c r=>List.casesOn (motive:=fun _=>Option GV) r (ob a.asStr fun s=>ob c.asI fun p=>ob (asN p.2) fun k=>
 bif isU8 p.1 then(bif Nat.blt k 256 then Option.casesOn (motive:=fun _=>Option GV) (idxB s.1 k s.2 0) (some (.int .i64 (.negSucc 0))) (fun i=>some (.int .i64 (.ofNat i)))else none)else none) fun _ _=>none)else none
theorem idxB_eq (x:List UInt8) (c:Nat) (hc:c<256):∀k i,i+k=x.length->(match idxB (encB x) c k i with|none=>(-1:Int)|some j=>(j:Int))=(if Lib.indexByte (x.drop i) c.toUInt8 = -1 then -1 else Lib.indexByte (x.drop i) c.toUInt8+i)
 |0,i,h=>by
  rw[List.drop_of_length_le (by omega)]
  simp[idxB,Lib.indexByte]
 | k + 1, i, h => by
  have ih:=idxB_eq x c hc k (i+1) (by omega)
  have hi:i<x.length:=by omega
  have e:idxB (encB x) c (k+1) i=Bool.casesOn (motive:=fun _=>Option Nat) (Nat.beq (Nat.mod (Nat.shiftRight (encB x) (Nat.mul 8 i)) 256) c) (idxB (encB x) c k (i+1)) (some i):=rfl
  rw[e,encB_at x i hi,List.drop_eq_getElem_cons hi]
  have hcc:(x[i]).toNat=c↔x[i]=c.toUInt8:=by
   rw[<-UInt8.toNat_inj]
   have:c.toUInt8.toNat=c:=by simp[Nat.toUInt8];omega
   rw[this]
  unfold Lib.indexByte
  cases hb:Nat.beq (x[i]).toNat c with
  |true=>
   have:=hcc.1 (Nat.eq_of_beq_eq_true hb)
   simp[this]
  | false =>
   have hne:¬x[i]=c.toUInt8:=fun h'=>by
    have:=hcc.2 h'
    rw[this]at hb
    simp at hb
   have hge:=Lib.indexByte_ge (x.drop (i+1)) c.toUInt8
   simp only[beq_iff_eq,hne,if_false]
   rw[ih]
   by_cases h1:Lib.indexByte (x.drop (i+1)) c.toUInt8 = -1
   ·simp[h1]
   ·rw[if_neg h1,if_neg h1,if_neg (by omega)]
    push_cast;omega
section
variable {P:Program} {gs:Gls} {w0:Base gs}
theorem gexn_ok {fx:Nat} {fn:Func} (hf:P.funcs[fx]? = some fn) (hname:(fn.name == "runtime.NumGoroutine")=false) (hb:fn.body.isNone=true) (hn:Extern.findNext fn=none) (he:Extern.find fn=some Extern.BytealgIndexByte.indexByte)
  {f:Nat} {us:List GV} {g:GV} (h:gexn fx f us=some g) (ρ:Rho) (w:World) (vs:List Value) (H:GH) (R:Rel w0 ρ H w) (hr:RlL ρ us vs):CallSem P w0 ρ f vs w g H:=by
 unfold gexn at h
 replace h:=bif_some.1 h
 have h1:=Nat.eq_of_beq_eq_true h.1
 replace h:=h.2
 subst h1
 cases us with
 |nil=>cases h
 |cons a us=>
 cases us with
 |nil=>cases h
 |cons c us=>
 cases us with
 |cons _ _=>cases h
 |nil=>
 obtain⟨s,hs,h⟩:=ob_some.1 (show ob a.asStr _=some g from h)
 obtain⟨p,hp,h⟩:=ob_some.1 h
 obtain⟨k,hk,h⟩:=ob_some.1 h
 obtain⟨hu,h⟩:=bif_some.1 h
 obtain⟨hlt,h⟩:=bif_some.1 h
 obtain⟨v,vs,rfl,hv,hr⟩:=hr.of_cons
 obtain⟨v',vs,rfl,hv',hr⟩:=hr.of_cons
 rw[hr.of_nil]
 rw[asStr_eq hs]at hv
 rw[asI_eq hp]at hv'
 obtain⟨S,rfl,e1,e2⟩:=hv.str_inv
 have hv':=hv'.int_inv
 subst hv'
 have hpu:p.1 = .u8:=by cases hq:p.1<;>rw[hq]at hu<;>first|rfl|cases hu
 have hk':p.2=(k:Int):=asN_eq hk
 have hlt:k<256:=by simpa using hlt
 refine .inl ⟨.int .i64 (Lib.indexByte S.data.toList p.2.toNat.toUInt8),w,ρ,?_,Rho.le_refl _,R,?_⟩
 ·rw[run_callFunc_extern hf hname hb hn he,hpu,Lib.run_indexByteString]
  rfl
 ·have key:=idxB_eq (bytesOfV S) k hlt s.2 0 (by omega)
  rw[e1]at h
  rw[List.drop_zero]at key
  have e3:Lib.indexByte S.data.toList p.2.toNat.toUInt8=(match idxB (encB (bytesOfV S)) k s.2 0 with|none=>(-1:Int)|some j=>(j:Int)):=by
   rw[key,hk']
   have:bytesOfV S=S.data.toList:=rfl
   rw[this]
   simp only[Int.toNat_natCast]
   split
   ·assumption
   ·omega
  rw[e3]
  cases hx:idxB (encB (bytesOfV S)) k s.2 0 with
  |none=>rw[hx]at h;cases h;exact .int _ _
  |some j=>rw[hx]at h;cases h;exact .int _ _
end
end
end Go.Gx
end
section
namespace Go.Sx
open Go.RowKit
section
variable {P:Program} {rd:Option Nat} {c:Ctx} {n:Sz} {σ σ':Fr} {M L M' L':List Fact} {Q:Exit->Act->World->Prop} {ops:Array Oper} {rest:List Oper} {K:Act->World->Prop} {G:Act->World->Prop}
variable {d:Option Tmp} {D:Nat} {ty:TypeId} {pos:String} {aft:Array Edge} {g:Option (Nat×Bool)}
variable {α β:Type} {e:Enc α} {r:Rep α}
def capGe (v:Value) (m:Nat):Prop:=match v with
 | .slice _ _ cap=>m<=cap
 |_=>False
theorem Y.slice3 [Tab P] {T E:TypeId} {s1 s2 s3 s4:Nat} {z z':Value} {dE:TypeDesc} {x lo hi mx:Operand} {v:Value} {i k m:Int} {xs:List α} (hx:ev σ x=some v) (hlo:ev σ lo=some (.int .i64 i)) (hhi:ev σ hi=some (.int .i64 k)) (hmx:ev σ mx=some (.int .i64 m)) (hf:Lent M L (Sl r v xs))
  (hT:Tab.tab P T=some ⟨.slice E,s1,s2,z⟩) (hE:Tab.tab P E=some ⟨dE,s3,s4,z'⟩) (h:0<=i∧i<=k∧k<=m∧m<=xs.length):Y P c n σ M L ⟨d,.slice T x (some lo) (some hi) (some mx),ty,pos,aft,g⟩
   (match v with|.slice a _ _=> .slice (if m.toNat=i.toNat then a else a.map (·.add (i.toNat*s3))) (k.toNat - i.toNat) (m.toNat - i.toNat)|v=>v):=fun a w s t=>by
 obtain⟨S,a',cap,hv,hb,_⟩:=hf.st t
 subst hv
 have h0:0<=m∧m<=(cap:Int):=by omega
 have h1:0<=k∧k<=((m.toNat:Nat):Int):=by omega
 have h2:0<=i∧i<=((k.toNat:Nat):Int):=by omega
 simp[execOp,s.eval hx,s.eval hlo,s.eval hhi,s.eval hmx,Instr.sliceAt,Instr.slice,(Tab.ok hT).run_und w,Instr.sliceBounds,Instr.sliceBound,asIntOf,(Tab.ok hE).run_size w,h0,h1,h2]
 rw[if_pos (by omega),if_pos (by omega)]

theorem at_set_ne {α:Type} [Inhabited α] (l:List α) {j k:Int} (y:α) (h:j.toNat≠k.toNat):at' (l.set j.toNat y) k=at' l k:=by
 rw[at',at',List.getD_eq_getElem?_getD,List.getD_eq_getElem?_getD,List.getElem?_set_ne h]
theorem Loud.appendRow2 [Tab P] (i:Nat) {r:Rep α} (hfit:e.Fits r) {x y:Operand} {u u0:Value} {k j:Int} {vs:List Value} {xss:List (List α)} {ys ys0:List α} {T E:TypeId} {s1 s2 s3 s4:Nat} {z z':Value} {dE:TypeDesc} (hx:ev σ x=some (at' vs k)) (hy:ev σ y=some u) (hf:M[i]? = some (Rws e (vs.set j.toNat u0) (xss.set j.toNat ys0))) (hg:Lent M L (Sl r u ys))
  (hT:Tab.tab P T=some ⟨.slice E,s1,s2,z⟩) (hE:Tab.tab P E=some ⟨dE,s3,s4,z'⟩) (h3:e.sz=s3) (h4:Nat.ble s4 1024=true) (h0:0<=k∧k<xss.length) (hl:((at' xss k).length:Int)+ys.length<=1099511627) (hz:z'.cells.size=s3) (hne:j.toNat≠k.toNat):
  Loud P c n σ M L ⟨d,.call ⟨.builtin .append,#[x,y],#[T,T]⟩,ty,pos,aft,g⟩ (fun v':Value=>v') (fun v'=>M.set i (Rws e ((vs.set j.toNat u0).set k.toNat v') ((xss.set j.toNat ys0).set k.toNat (at' xss k++ys)))) (fun _=>L):=by
 have ex:at' (xss.set j.toNat ys0) k=at' xss k:=at_set_ne _ _ hne
 have:=Loud.appendRowL (P:=P) (c:=c) (n:=n) (σ:=σ) (M:=M) (L:=L) (d:=d) (ty:=ty) (pos:=pos) (aft:=aft) (g:=g) (x:=x) (y:=y) (u:=u) (k:=k) (vs:=vs.set j.toNat u0) (xss:=xss.set j.toNat ys0) (ys:=ys) i hfit (by rw[at_set_ne _ _ hne];exact hx) hy hf hg hT hE h3 h4 (by simpa using h0) (by rw[ex];exact hl) hz
 rwa[ex]at this
theorem Know.oneRow2 (q:Nat) {vs:List Value} {xss:List (List α)} {k j:Int} {u u2:Value} (hr:M[q]? = some (Rws e ((vs.set k.toNat u).set j.toNat u2) xss)) (hne:k.toNat≠j.toNat) (h:0<=k∧k<xss.length):∀c w,St c M L w->Go.Sx.one u=true:=fun c w t=>by
 obtain⟨S,hl,G',g1,_⟩:=t.res hr
 have hlt:k.toNat<vs.length:=by simp at hl;omega
 obtain⟨_,_,hh⟩:=g1 k.toNat u _ (by rw[List.getElem?_set_ne (Ne.symm hne),List.getElem?_set_self hlt]) (List.getElem?_eq_getElem (by omega))
 rcases hh with⟨hu,_⟩|⟨b,off,cap,T,cur,hu,_⟩<;>(rw[hu];rfl)

end
end Go.Sx
end
section
namespace Go.Sx
open Go.RowKit
section
variable {P:Program} {rd:Option Nat} {c:Ctx} {n:Sz} {σ σ':Fr} {M L M' L':List Fact} {Q:Exit->Act->World->Prop} {ops:Array Oper} {rest:List Oper} {K:Act->World->Prop} {G:Act->World->Prop}
variable {d:Option Tmp} {D:Nat} {ty:TypeId} {pos:String} {aft:Array Edge} {g:Option (Nat×Bool)}
variable {α β:Type} {e:Enc α} {r:Rep α}
theorem Loud.storeA [Tab P] (j:Nat) {T:TypeId} {s2:Nat} {z:Value} {dT:TypeDesc} {x y:Operand} {v u:Value} {i:Int} {xs:List α} (yv:α) (hx:ev σ x=some (elq v (i.toNat*1))) (hy:ev σ y=some u) (hu:e.enc yv=[u]) (h1u:one u=true)
  (hf:M[j]? = some (Ar e v xs)) (hT:Tab.tab P T=some ⟨dT,1,s2,z⟩) (hq:e.sz=1) (h0:0<=i) (h1:i<xs.length):
  Loud P c n σ M L ⟨none,.store T x y,ty,pos,aft,none⟩ (fun _:Unit=>undef) (fun _=>M.set j (Ar e v (xs.set i.toNat yv))) (fun _=>L):=fun a w s t=>by
 obtain⟨F,hF⟩:=t.res hf
 have hi:i.toNat<xs.length:=by omega
 have hget:xs[i.toNat]? = some xs[i.toNat]:=List.getElem?_eq_getElem hi
 have hne:xs≠[]:=by intro e;subst e;simp at hi
 obtain⟨p,hp⟩:∃p,e.enc xs[i.toNat]=[p]:=List.length_eq_one_iff.1 ((e.len _).trans hq)
 have hcell:=ArR.cell hF hget (j:=0) (u:=p) (by rw[hp];rfl)
 rw[hq,Nat.add_zero,Nat.mul_one]at hcell
 rw[Nat.mul_one]at hx
 have hfree:=ArR.free hF hne i.toNat
 have hrun:(execOp a.eval ⟨none,.store T x y,ty,pos,aft,none⟩).run P w = .ok .skip (w.setCell (elA v i.toNat) u):=by
  simp only[execOp,s.eval hx,s.eval hy,elq]
  simp[run_store1 (Tab.ok hT) rfl h1u hcell hfree]
 simp only[Oper.wp,hrun,Oper.upon]
 refine⟨(),trivial,t.upd hf rfl rfl rfl (by simp[World.setCell]) fun F hF _=> ?_⟩
 obtain⟨hl,h1,hh⟩:=hF
 rcases hh with⟨_,hh⟩|⟨b,off,cap,T',cur,hv,hFb,hb,hk,hc,ht⟩
 ·exact absurd hh hne
 ·subst hv
  have ha:elA (.slice (some ⟨b,off,none⟩) xs.length cap) i.toNat=⟨b,off+i.toNat,none⟩:=by simp[elA,add_none]
  rw[ha]
  refine⟨fun k _ hk'=>Below.heap_setCell _ _ _ _ (fun e=>hk' (by simp only at e;subst e;exact hFb)),F,⟨by simpa using hl,?_,.inr ⟨b,off,cap,T',cur.setIfInBounds (off+i.toNat) u,by simp,hFb,?_,by simpa using hk,by simpa using hc,?_⟩⟩,fun _ h=> .inl h⟩
  ·rw[cellsOf_set1 hq hu,List.all_eq_true]
   intro q hq'
   rcases List.mem_or_eq_of_mem_set hq' with h'|h'
   ·exact List.all_eq_true.1 h1 q h'
   ·rw[h'];exact h1u
  ·simp[World.setCell,Array.getElem?_modify,hb]
  ·rw[cellsOf_set1 hq hu,<-ht,Array.toList_setIfInBounds,List.length_set,<-take_set]
   congr 1
   rw[List.drop_set,if_neg (by omega),Nat.add_sub_cancel_left]
theorem Loud.storeRow [Tab P] (j q:Nat) {T:TypeId} {s2:Nat} {z:Value} {dT:TypeDesc} {x y:Operand} {v u:Value} {i:Int} {vs vs':List Value} {xss:List (List α)} (h:0<=i∧i<xss.length) (hx:ev σ x=some (elq v (i.toNat*1))) (hy:ev σ y=some u)
  (hf:M[j]? = some (Ar Enc.raw v vs)) (hr:M[q]? = some (Rws e vs' xss)) (hl:vs'.length=vs.length) (h1u:one u=true) (hT:Tab.tab P T=some ⟨dT,1,s2,z⟩):
  Loud P c n σ M L ⟨none,.store T x y,ty,pos,aft,none⟩ (fun _:Unit=>undef) (fun _=>M.set j (Ar Enc.raw v (vs.set i.toNat u))) (fun _=>L):=fun a w s t=>by
 have hlen:vs'.length=xss.length:=by obtain⟨_,h⟩:=t.res hr;exact h.1
 exact Loud.storeA j u hx hy rfl h1u hf hT rfl h.1 (by omega) a w s t
section
variable {l:List Oper} {m:List Nat} {k0:Nat} {H Bs:List (Nat×List Fact×List Fact)} {rs:List Nat}
theorem JR.loud0 {A:Type} {val:A->Value} {M' L':A->List Fact} {i:Nat} {op:Op}
  (hi:l[i]? = some ⟨none,op,ty,pos,aft,none⟩) (hk:Nat.blt i k0=true) (hl:loudOp op=true) (ho:Loud P c n σ M L ⟨none,op,ty,pos,aft,none⟩ val M' L')
  (hB:∀x,BsOk (before m i) (M' x) (L' x) Bs) (h:∀x,JR c n σ (M' x) (L' x) ((i,M,L)::H) Bs (RW P l.toArray Q (before m) (louds l) k0 rs)):
  JR c n σ M L H Bs (RW P l.toArray Q (before m) (louds l) k0 (i::rs)):=fun a w X Y s t hX hY=>by
 have hi':l.toArray[i]? = some ⟨none,op,ty,pos,aft,none⟩:=by simpa using hi
 simp only[RW,hi']
 rw[if_pos (by simp[Region.wanted])]
 refine .inr (.inr ⟨by simpa [Nat.blt_eq]using hk,by simp[louds,hi,hl],nwp_mono ?_ (ho a w s t)⟩)
 rintro a' w' ⟨x,rfl,ht⟩
 exact⟨(hB x).use ht hY,h x _ w' _ Y s ht ⟨rfl,t,hX⟩ hY⟩
end

theorem Loud.inlM {A B:Type} {f:FuncId} {fn:Func} {code:Code} {vs:List Value} {m:Nat} {op:Op} (C:A->Prop) (val:A->B->Value) (MI LI:A->B->List Fact) (he:Enter P c n σ M L ⟨d,op,ty,pos,aft,g⟩ f vs) (hf:P.funcs[f]? = some fn) (hb:fn.body=some code) (hn:fn.ntmps=m) (hm:Nat.ble vs.length m=true)
  (h1:J c ⟨m,[]⟩ (frame0 0 vs) M L (code.wpr none P (bodyPost P fn (MidR c C val MI LI)))):
  Loud P c n σ M L ⟨d,op,ty,pos,aft,g⟩ (fun x:{p:A×B // C p.1}=>val x.1.1 x.1.2) (fun x=>MI x.1.1 x.1.2) (fun x=>LI x.1.1 x.1.2):=fun a w s t=>by
 have hrun:=he.run a w s t
 simp only[Oper.wp,hrun,Oper.upon]
 refine(calls_of_wpr hf hb (h1 _ w (frame0_sub hn hm) t)).mono ?_
 rintro e w' ⟨x,y,hC,rfl,ht⟩
 exact⟨⟨(x,y),hC⟩,rfl,ht⟩
theorem J.inlC {A B:Type} {f:FuncId} {fn:Func} {code:Code} {vs:List Value} {m:Nat} {op:Op} (C:A->Prop) (val:A->B->Value) (MI LI:A->B->List Fact) (he:Enter P c n σ M L ⟨some D,op,ty,pos,aft,none⟩ f vs) (hf:P.funcs[f]? = some fn) (hb:fn.body=some code) (hn:fn.ntmps=m) (hm:Nat.ble vs.length m=true) (hD:Nat.blt D n.sz=true)
  (h1:J c ⟨m,[]⟩ (frame0 0 vs) M L (code.wpr none P (bodyPost P fn (MidR c C val MI LI)))) (h2:∀a b,C a->J c n ((D,val a b)::σ) (MI a b) (LI a b) (wpList P ops Q rest)):J c n σ M L (wpList P ops Q (⟨some D,op,ty,pos,aft,none⟩::rest)):=
 J.loud (Loud.inlM C val MI LI he hf hb hn hm h1) hD fun⟨⟨a,b⟩,hC⟩=>h2 a b hC
section
variable {l:List Oper} {mm:List Nat} {k0:Nat} {H Bs:List (Nat×List Fact×List Fact)} {rs:List Nat}
theorem JR.inlCG {A B:Type} {i j:Nat} {bo:Bool} {f:FuncId} {fn:Func} {code:Code} {vs:List Value} {m:Nat} {op:Op} (C:A->Prop) (val:A->B->Value) (MI LI:A->B->List Fact) (hi:l[i]? = some ⟨some D,op,ty,pos,aft,some (j,bo)⟩) (hk:Nat.blt i k0=true) (hl:loudOp op=true) (hg:gv l.toArray σ j=some bo) (he:Enter P c n σ M L ⟨some D,op,ty,pos,aft,some (j,bo)⟩ f vs) (hf:P.funcs[f]? = some fn) (hb:fn.body=some code) (hn:fn.ntmps=m) (hm:Nat.ble vs.length m=true) (hD:Nat.blt D n.sz=true)
  (hB:∀a b,BsOk (before mm i) (MI a b) (LI a b) Bs) (h1:J c ⟨m,[]⟩ (frame0 0 vs) M L (code.wpr none P (bodyPost P fn (MidR c C val MI LI)))) (h2:∀a b,C a->JR c n ((D,val a b)::σ) (MI a b) (LI a b) ((i,M,L)::H) Bs (RW P l.toArray Q (before mm) (louds l) k0 rs)):
  JR c n σ M L H Bs (RW P l.toArray Q (before mm) (louds l) k0 (i::rs)):=
 JR.loudG hi hk hl hg (Loud.inlM C val MI LI he hf hb hn hm h1) hD (fun _=>hB _ _) fun⟨⟨a,b⟩,hC⟩=>h2 a b hC
end


end
end Go.Sx
end
section
namespace Go.Sx
open Go.RowKit
def Dfr (D:Nat):Fact where
 p w F:=F D∧w.heap[D]? = some (.deferred (some []))
 mono:=fun⟨h1,h2⟩ h=>by
  obtain⟨h3,h4⟩:=h D h1 (Array.getElem?_eq_some_iff.1 h2).1
  exact⟨h3,by rw[h4];exact h2⟩
structure Rec where
 n:Nat
 σ:Fr
 ps:Array Tmp
 assign:Code
 body:Code
 D:Nat
def Lp (l:Nat) (R:Rec) (st:LoopState) (pend:Option Code):Fact where
 p w F:=F l∧∃(fn:FuncId) (tmps:Array Value),tmps.size=R.n∧(∀t v,lk R.σ t=some v->tmps[t]? = some v)∧
  w.heap[l]? = some (.loop {state:=st,pending:=pend,fn:=fn,tmps:=tmps,params:=R.ps,assign:=R.assign,body:=R.body,defers:=R.D})
 mono:=fun⟨h1,fn,tmps,h2,h3,h4⟩ h=>by
  obtain⟨h5,h6⟩:=h l h1 (Array.getElem?_eq_some_iff.1 h4).1
  exact⟨h5,fn,tmps,h2,h3,by rw[h6];exact h4⟩
def mark (D:Nat):Deferred:={target:= .collected D,args:= #[]}
def yieldV (l:Nat):Value:= .func (.yield l) #[] #[]
section
variable {P:Program} {rd:Option Nat} {c:Ctx} {n m:Sz} {σ σ':Fr} {M L:List Fact} {Q:Exit->Act->World->Prop} {K G:Act->World->Prop}
theorem St.putLp {w:World} {l i:Nat} {R:Rec} {st st':LoopState} {pend pend':Option Code} (t:St c M L w) (hi:M[i]? = some (Lp l R st pend)) {r:Loop} (hr:w.heap[l]? = some (.loop r)):
  St c (M.set i (Lp l R st' pend')) L (w.putObj l (.loop {r with state:=st',pending:=pend'})):=by
 refine t.upd hi rfl rfl rfl (by simp) fun F hF _=>⟨fun k _ hk=> ?_,F,?_,fun _ h=> .inl h⟩
 ·exact World.putObj_heap_other (fun e=>hk (by subst e;exact hF.1))
 ·obtain⟨h1,fn,tmps,h2,h3,h4⟩:=hF
  rw[h4]at hr
  cases hr
  exact⟨h1,fn,tmps,h2,h3,World.putObj_heap_same (Array.getElem?_eq_some_iff.1 h4).1⟩
def RetF (P:Program) (n:Sz) (σ:Fr) (l D:Nat) (Q:Exit->Act->World->Prop) (e:Ending) (w:World):Prop:=
 ∀a,Sub ⟨n.sz,mark D::n.ds⟩ σ a->rangePost (FR none) 0 P l Q a e w
theorem J.rangeFunc {g:Operand} {ps:Array Tmp} {assign body:Code} {f:FuncId} {fn:Func} {code:Code} {cs:List Value} {k:Nat} (hb:HasBody P f) (hx:ev σ g=some (.func (.func f) #[] cs.toArray)) (hf:P.funcs[f]? = some fn) (hbd:fn.body=some code) (hn:fn.ntmps=k) (hm:Nat.ble (cs.length+1) k=true)
  (h:∀l D,J c ⟨k,[]⟩ (frame0 0 (yieldV l::cs)) (Lp l ⟨n.sz,σ,ps,assign,body,D⟩ .ready none::Dfr D::M) L (code.wpr none P (bodyPost P fn (RetF P n σ l D Q)))):
  J c n σ M L ((Code.rangeFunc g ps assign body).wpr none P Q):=fun a w s t=>by
 refine wpIn_rangeFunc fun fn' _=> ?_
 have hev:a.eval g = .func (.func f) #[] cs.toArray:=s.eval hx
 let W:World:=(w.alloc (.deferred (some []))).alloc (.loop {state:= .ready,pending:=none,fn:=fn',tmps:=a.tmps,params:=ps,assign:=assign,body:=body,defers:=w.heap.size})
 refine⟨_,_,_,{target:= .fn (.func f) cs.toArray,args:= #[yieldV (w.heap.size+1)]},W,f,(yieldV (w.heap.size+1)::cs).toArray,W,run_enterLoop_outer fn' a.tmps ps assign body,?_,fun _ _=>trivial,?_,(fun hc=>by cases hc),?_⟩
 ·have hc:∀v,a.eval (.const v)=v:=fun _=>rfl
  simp[resolve,hev,hc,Deferred.ofValue,yieldV,W]
 ·simp[invoke,hb _ _,yieldV]
 ·have t1:St c (Dfr w.heap.size::M) L (w.alloc (.deferred (some []))):=t.push _ ⟨rfl,heap_alloc_new w _⟩
  have t2:St c (Lp (w.heap.size+1) ⟨n.sz,σ,ps,assign,body,w.heap.size⟩ .ready none::Dfr w.heap.size::M) L ((w.alloc (.deferred (some []))).alloc (.loop {state:= .ready,pending:=none,fn:=fn',tmps:=a.tmps,params:=ps,assign:=assign,body:=body,defers:=w.heap.size})):=by
   have:=t1.push (.loop {state:= .ready,pending:=none,fn:=fn',tmps:=a.tmps,params:=ps,assign:=assign,body:=body,defers:=w.heap.size}) (m:=Lp (w.heap.size+1) ⟨n.sz,σ,ps,assign,body,w.heap.size⟩ .ready none)
    ⟨by simp,fn',a.tmps,s.size,s.slot,by rw[<-World.size_alloc w (.deferred (some []))];exact heap_alloc_new _ _⟩
   exact this
  refine callsFR ((calls_of_wpr hf hbd (h (w.heap.size+1) w.heap.size _ _ (frame0_sub hn (by simpa using hm)) t2)).mono ?_)
  intro e w' he
  exact he _ ⟨by simp[mark,s.defers],s.size,s.slot⟩
theorem J.retF {fn:Func} {ex:Exit} {v:Value} {l D i:Nat} {R:Rec} (hex:ex = .ret∨ex = .normal) (hi:M[i]? = some (Lp l R .ready none)) (hr:Res P c m σ' M L fn v) (h:J c ⟨n.sz,mark D::n.ds⟩ σ (M.set i (Lp l R .exhausted none)) L (Q .normal)) (hds:m.ds=[]:=by rfl):
  J c m σ' M L (bodyPost P fn (RetF P n σ l D Q) ex):=fun a w s t=>by
 refine body_end hex (s.defers.trans hds) (hr a w s t) fun a' s'=> ?_
 obtain⟨F,h1,fn',tmps,h2,h3,h4⟩:=t.res hi
 exact⟨none,_,run_endLoop h4 (by simp),h a' _ s' (t.putLp hi h4)⟩
theorem J.retFR {fn:Func} {ex:Exit} {v:Value} {l D i:Nat} {R:Rec} (hex:ex = .ret∨ex = .normal) (hi:M[i]? = some (Lp l R .done (some .ret))) (hr:Res P c m σ' M L fn v) (h:J c ⟨n.sz,mark D::n.ds⟩ σ (M.set i (Lp l R .exhausted (some .ret))) L (Q .ret)) (hds:m.ds=[]:=by rfl):
  J c m σ' M L (bodyPost P fn (RetF P n σ l D Q) ex):=fun a w s t=>by
 refine body_end hex (s.defers.trans hds) (hr a w s t) fun a' s'=> ?_
 obtain⟨F,h1,fn',tmps,h2,h3,h4⟩:=t.res hi
 exact⟨some .ret,_,run_endLoop h4 (by simp),wpIn_ret (h a' _ s' (t.putLp hi h4))⟩
def Begin (P:Program) (l:Nat) (G:Act->World->Prop) (a:Act) (w:World):Prop:=∃w',(Instr.beginRound l).run P w = .ok () w'∧G a w'
theorem J.begin {l i:Nat} {R:Rec} {pend:Option Code} (hi:M[i]? = some (Lp l R .ready pend)) (h:J c n σ (M.set i (Lp l R .busy pend)) L G):J c n σ M L (Begin P l G):=fun a w s t=>by
 obtain⟨F,h1,fn',tmps,h2,h3,h4⟩:=t.res hi
 exact⟨_,run_beginRound h4 rfl,h a _ s (t.putLp hi h4)⟩
def RetY (n:Sz) (σ:Fr) (d:Nat) (K:Act->World->Prop) (e:Ending) (w:World):Prop:=∃v,e = .returned v∧∀a,Sub n ((d,v)::σ) a->K a w
theorem J.roundN {l i d:Nat} {R:Rec} {pend:Option Code} (hi:M[i]? = some (Lp l R .busy pend)) (h:J c m ((d,.bool true)::σ') (M.set i (Lp l R .ready none)) L K):J c n σ M L (roundPost P l (RetY m σ' d K) .normal):=fun a w s t=>by
 obtain⟨F,h1,fn',tmps,h2,h3,h4⟩:=t.res hi
 exact⟨_,_,run_endRound none h4,_,rfl,fun a' s'=>h a' _ s' (t.putLp hi h4)⟩
theorem J.roundR {l i d:Nat} {R:Rec} {pend:Option Code} (hi:M[i]? = some (Lp l R .busy pend)) (h:J c m ((d,.bool false)::σ') (M.set i (Lp l R .done (some .ret))) L K):J c n σ M L (roundPost P l (RetY m σ' d K) .ret):=fun a w s t=>by
 obtain⟨F,h1,fn',tmps,h2,h3,h4⟩:=t.res hi
 exact⟨_,_,run_endRound (some .ret) h4,_,rfl,fun a' s'=>h a' _ s' (t.putLp hi h4)⟩
def putAll:List Tmp->List Value->Fr->Fr
 |t::ts,v::vs,σ=>putAll ts vs ((t,v)::σ)
 |_,_,σ=>σ
theorem fold_slots:∀(ps:List Tmp) (vs:List Value) (tmps:Array Value) (σ:Fr) (k:Nat),tmps.size=k->ps.all (fun t=>Nat.blt t k)=true->(∀t v,lk σ t=some v->tmps[t]? = some v)->
  ((ps.zip vs).foldl (fun tmps (x:Tmp×Value)=>tmps.setIfInBounds x.1 x.2) tmps).size=k∧∀t v,lk (putAll ps vs σ) t=some v->((ps.zip vs).foldl (fun tmps (x:Tmp×Value)=>tmps.setIfInBounds x.1 x.2) tmps)[t]? = some v
 | [],_,tmps,σ,k,h1,_,h3=>by simpa [putAll]using ⟨h1,h3⟩
 |_::_,[],tmps,σ,k,h1,_,h3=>by simpa [putAll]using ⟨h1,h3⟩
 | p :: ps, x :: vs, tmps, σ, k, h1, h2, h3 => by
  simp only[List.all_cons,Bool.and_eq_true]at h2
  have hp:p<k:=by simpa [Nat.blt_eq]using h2.1
  simp only[List.zip_cons_cons,List.foldl_cons,putAll]
  refine fold_slots ps vs _ _ k (by simp[h1]) h2.2 fun t v hv=> ?_
  simp only[lk]at hv
  by_cases e:t=p
  ·subst e
   simp at hv
   subst hv
   simp[h1,hp]
  ·rw[beq_ne e]at hv
   simp only[cond_false]at hv
   rw[Array.getElem?_setIfInBounds_ne (Ne.symm e)]
   exact h3 t v hv
theorem J.yield {ops:Array Oper} {rest:List Oper} {t:Tmp} {xs:List Operand} {us:List Value} {ats:Array TypeId} {d:Nat} {ty:TypeId} {pos:String} {aft:Array Edge} {l i:Nat} {R:Rec} {ps:List Tmp} (ht:lk σ t=some (yieldV l)) (hx:xs.map (ev σ)=us.map some) (hi:M[i]? = some (Lp l R .ready none)) (hps:R.ps=ps.toArray) (hlen:us.length=ps.length) (hall:ps.all (fun t=>Nat.blt t R.n)=true) (hd:Nat.blt d n.sz=true)
  (h:J c ⟨R.n,[]⟩ (putAll ps us R.σ) M L (R.assign.wpr (some l) P (Exit.then (Begin P l (R.body.wpr (some l) P (roundPost P l (RetY n σ d (wpList P ops Q rest))))) (fun _ _ _=>False)))):
  J c n σ M L (wpList P ops Q (⟨some d,.call ⟨.value (.tmp t),xs.toArray,ats⟩,ty,pos,aft,none⟩::rest)):=fun a w s tt=>by
 obtain⟨F,h1,fn',tmps,h2,h3,h4⟩:=tt.res hi
 have e:=evs s hx
 have e2:a.eval (.tmp t)=yieldV l:=s.eval (x:= .tmp t) ht
 have hy:=run_yield (P:=P) (args:=us.toArray) h4 (by simp[hps,hlen])
 have hrun:(execOp a.eval ⟨some d,.call ⟨.value (.tmp t),xs.toArray,ats⟩,ty,pos,aft,none⟩).run P w=(Instr.yield l us.toArray).run P w:=by
  simp[execOp,resolve,e2,yieldV,Deferred.ofValue,invoke,e]
 unfold wpList
 rw[if_pos (show Region.wanted _ _=true from rfl)]
 refine .inr ⟨_,_,_,_,_,_,hrun.trans hy,?_⟩
 refine RoundIn.mono (R:=RetY n σ d (wpList P ops Q rest)) (roundIn_of_wpIn (F:=FR none) trivial ?_) ?_
 ·obtain⟨f1,f2⟩:=fold_slots ps us tmps R.σ R.n h2 hall h3
  have:=h {tmps:=(ps.zip us).foldl (fun tmps (x:Tmp×Value)=>tmps.setIfInBounds x.1 x.2) tmps,defers:=[]} w ⟨rfl,f1,f2⟩ tt
  simp only[hps,List.zip_toArray,List.foldl_toArray]
  exact this
 ·rintro e w'' ⟨v,rfl,hv⟩
  exact⟨v,rfl,hv _ (s.put d v hd)⟩
theorem J.rangeFuncR {g:Operand} {ps:Array Tmp} {assign body:Code} {f:FuncId} {fn:Func} {code:Code} {cs:List Value} {k:Nat} (hb:HasBody P f) (hx:ev σ g=some (.func (.func f) #[] cs.toArray)) (hf:P.funcs[f]? = some fn) (hbd:fn.body=some code) (hn:fn.ntmps=k) (hm:Nat.ble (cs.length+1) k=true)
  (h:∀(l D:Nat) (R:Rec),R.n=n.sz∧R.σ=σ∧R.ps=ps∧R.assign=assign∧R.body=body->J c ⟨k,[]⟩ (frame0 0 (yieldV l::cs)) (Lp l R .ready none::Dfr D::M) L (code.wpr none P (bodyPost P fn (RetF P n σ l D Q)))):
  J c n σ M L ((Code.rangeFunc g ps assign body).wpr none P Q):=J.rangeFunc hb hx hf hbd hn hm fun l D=>h l D _ ⟨rfl,rfl,rfl,rfl,rfl⟩
theorem J.yieldR {ops:Array Oper} {rest:List Oper} {t:Tmp} {xs:List Operand} {us:List Value} {ats:Array TypeId} {d:Nat} {ty:TypeId} {pos:String} {aft:Array Edge} {l i k:Nat} {R:Rec} {ps:List Tmp} {σR:Fr} {assign body:Code} (hR:R.n=k∧R.σ=σR∧R.ps=ps.toArray∧R.assign=assign∧R.body=body) (ht:lk σ t=some (yieldV l)) (hx:xs.map (ev σ)=us.map some) (hi:M[i]? = some (Lp l R .ready none)) (hlen:us.length=ps.length) (hall:ps.all (fun t=>Nat.blt t k)=true) (hd:Nat.blt d n.sz=true)
  (h:J c ⟨k,[]⟩ (putAll ps us σR) M L (assign.wpr (some l) P (Exit.then (Begin P l (body.wpr (some l) P (roundPost P l (RetY n σ d (wpList P ops Q rest))))) (fun _ _ _=>False)))):
  J c n σ M L (wpList P ops Q (⟨some d,.call ⟨.value (.tmp t),xs.toArray,ats⟩,ty,pos,aft,none⟩::rest)):=by
 obtain⟨rfl,rfl,h3,rfl,rfl⟩:=hR
 exact J.yield ht hx hi h3 hlen hall hd h
end
end Go.Sx
end
section
namespace Go.Sx
open Go.RowKit
def marks (Ds:List Nat):List Deferred:=Ds.map mark
def Dfs (Ds:List Nat):Fact where
 p w F:=Ds.Nodup∧∀D∈Ds,F D∧w.heap[D]? = some (.deferred (some []))
 mono:=fun⟨h1,h2⟩ h=>⟨h1,fun D hD=>by
  obtain⟨h3,h4⟩:=h D (h2 D hD).1 (Array.getElem?_eq_some_iff.1 (h2 D hD).2).1
  exact⟨h3,by rw[h4];exact(h2 D hD).2⟩⟩
section
variable {P:Program} {rd:Option Nat} {c:Ctx} {n m:Sz} {σ σ':Fr} {M L:List Fact} {Q:Exit->Act->World->Prop} {K G:Act->World->Prop}
theorem Stp.dfs0:Stp M L (Dfs []::M) L:=Stp.add fun _=>⟨List.nodup_nil,by simp⟩
theorem Stp.dfsCons (i j:Nat) {D:Nat} {Ds:List Nat} (hij:i≠j) (hf:M[i]? = some (Dfs Ds)) (hg:M[j]? = some (Dfr D)):Stp M L ((M.set i (Dfs (D::Ds))).eraseIdx j) L:=fun c w t=>
 t.merge i j hij hf hg (by
  rintro w F1 F2 ⟨h1,h2⟩ ⟨h3,h4⟩ hd
  refine⟨List.nodup_cons.2 ⟨fun hm=>hd D (h2 D hm).1 h3,h1⟩,fun E hE=> ?_⟩
  rcases List.mem_cons.1 hE with rfl|hE
  ·exact⟨.inr h3,h4⟩
  ·exact⟨.inl (h2 E hE).1,(h2 E hE).2⟩)
theorem J.rangeFuncD {g:Operand} {ps:Array Tmp} {assign body:Code} {f:FuncId} {fn:Func} {code:Code} {cs:List Value} {k i s:Nat} (Ds:List Nat) (hi:M[i]? = some (Dfs Ds)) (hb:HasBody P f) (hx:ev σ g=some (.func (.func f) #[] cs.toArray)) (hf:P.funcs[f]? = some fn) (hbd:fn.body=some code) (hn:fn.ntmps=k) (hm:Nat.ble (cs.length+1) k=true)
  (h:∀(l D:Nat) (R:Rec),R.n=s∧R.σ=σ∧R.ps=ps∧R.assign=assign∧R.body=body->J c ⟨k,[]⟩ (frame0 0 (yieldV l::cs)) (Lp l R .ready none::M.set i (Dfs (D::Ds))) L (code.wpr none P (bodyPost P fn (RetF P ⟨s,marks Ds⟩ σ l D Q)))):
  J c ⟨s,marks Ds⟩ σ M L ((Code.rangeFunc g ps assign body).wpr none P Q):=J.rangeFuncR hb hx hf hbd hn hm fun l D R hR=>
 J.stp (Stp.dfsCons (i+2) 1 (by omega) hi rfl) (h l D R hR)
theorem J.unmarkAll {fn:Func} {R:Ending->World->Prop} {ex:Exit} {i k:Nat} (hex:ex = .ret∨ex = .normal):∀{Ds:List Nat} {M:List Fact},M[i]? = some (Dfs Ds)->J c ⟨k,[]⟩ σ (M.set i (Dfs [])) L (bodyPost P fn R ex)->J c ⟨k,marks Ds⟩ σ M L (bodyPost P fn R ex)
 | [], M, hi, h => by
  have:M.set i (Dfs [])=M:=by
   apply List.ext_getElem?
   intro j
   by_cases e:i=j
   ·subst e
    rw[hi]
    simp[(List.getElem?_eq_some_iff.1 hi).1]
   ·simp[List.getElem?_set_ne e]
  rw[this]at h
  exact h
 | D :: Ds, M, hi, h => fun a w s t => by
  obtain⟨F,h1,h2⟩:=t.res hi
  have t':St c (M.set i (Dfs Ds)) L (w.putObj D (.deferred none)):=by
   refine t.upd hi rfl rfl rfl (by simp) fun F hF _=>⟨fun k _ hk=> ?_,F,?_,fun _ h=> .inl h⟩
   ·exact World.putObj_heap_other (fun e=>hk (e▸(hF.2 D (by simp)).1))
   ·obtain⟨hn,hF⟩:=hF
    refine⟨(List.nodup_cons.1 hn).2,fun E hE=>⟨(hF E (by simp[hE])).1,?_⟩⟩
    rw[World.putObj_heap_other (fun e=>(List.nodup_cons.1 hn).1 (by subst e;exact hE))]
    exact(hF E (by simp[hE])).2
  refine body_endM hex s.defers (h2 D (by simp)).2 ?_
  have hi':(M.set i (Dfs Ds))[i]? = some (Dfs Ds):=by simp[(List.getElem?_eq_some_iff.1 hi).1]
  have:=J.unmarkAll hex hi' (by rw[List.set_set];exact h) {tmps:=a.tmps,defers:=marks Ds} _ ⟨rfl,s.size,s.slot⟩ t'
  rcases hex with rfl|rfl<;>exact this
def MidN {A B:Type} (c:Ctx) (nI:A->B->Sz) (C:A->Prop) (σI:A->B->Fr) (MI LI:A->B->List Fact) (a:Act) (w:World):Prop:=∃x y,C x∧Sub (nI x y) (σI x y) a∧St c (MI x y) (LI x y) w
theorem J.midN {A B:Type} {x:Code} (nI:A->B->Sz) (C:A->Prop) (σI:A->B->Fr) (MI LI:A->B->List Fact) (h1:J c n σ M L (x.wpr rd P (Exit.then (MidN c nI C σI MI LI) Q))) (h2:∀a b,C a->J c (nI a b) (σI a b) (MI a b) (LI a b) K):
  J c n σ M L (x.wpr rd P (Exit.then K Q)):=fun a w s t=>wpr_mono (fun e a' w' q=>by
 cases e with
 |normal=>obtain⟨z,y,hC,hs,ht⟩:=q;exact h2 z y hC a' w' hs ht
 |exit id=>exact q
 |goto l=>exact q
 |ret=>exact q
 |panic ch=>exact q
 |outgrown=>exact q) (h1 a w s t)
theorem J.meetN {A B:Type} {nI:A->B->Sz} {C:A->Prop} {σI:A->B->Fr} {MI LI:A->B->List Fact} (x:A) (y:B) (hn:n=nI x y) (hC:C x) (hs:SubF σ (σI x y)) (hM:SubM M (MI x y)) (hL:LentAll [] L (LI x y)):J c n σ M L (MidN c nI C σI MI LI):=
 fun _ _ s t=>⟨x,y,hC,hn▸s.weak hs,t.weakE hM hL⟩
end
end Go.Sx
end
section
namespace Go.Gx
open Go Go.Sx
noncomputable section
def decL {β:Type} (sz:Nat) (d:List GV->Option β) (n:Nat):List GV->Option (List β):=Nat.rec (motive:=fun _=>List GV->Option (List β)) (fun _=>some []) (fun _ ih cs=>ob (d (cs.take sz)) fun y=>ob (ih (cs.drop sz)) fun ys=>some (y::ys)) n
def decS {β:Type} (H:GH) (sz:Nat) (d:List GV->Option β) (v:GV):Option (List β):=ob (content H sz v) fun p=>bif Nat.ble p.1 1099511627776 then decL sz d p.1 p.2 else none
def dI (k:IntKind) (cs:List GV):Option Int:=List.casesOn (motive:=fun _=>Option Int) cs none fun c r=>List.casesOn (motive:=fun _=>Option Int) r (ob c.asI fun p=>bif decide (p.1=k)then some p.2 else none) fun _ _=>none
def dP {α β:Type} (n:Nat) (d:List GV->Option α) (e:List GV->Option β) (cs:List GV):Option (α×β):=ob (d (cs.take n)) fun x=>ob (e (cs.drop n)) fun y=>some (x,y)
def dS {β:Type} (H:GH) (sz:Nat) (d:List GV->Option β) (cs:List GV):Option (List β):=List.casesOn (motive:=fun _=>Option (List β)) cs none fun c r=>List.casesOn (motive:=fun _=>Option (List β)) r (decS H sz d c) fun _ _=>none
end
section
variable {P:Program} {gs:Gls} {w0:Base gs} {w:World} {ρ:Rho} {H:GH} {S:Nat->Prop}
def All (_:Nat):Prop:=True
def Reads {α β:Type} (S:Nat->Prop) (ρ:Rho) (w:World) (d:List GV->Option β) (r:Rep α) (er:α->β):Prop:=∀gs vs y,RlL ρ gs vs->d gs=some y->gs.length=r.sz->∃z,er z=y∧r.R w S vs z
theorem Reads.int (k:IntKind):Reads S ρ w (dI k) (Rep.int k) id:=fun gs vs y hr h _=>by
 cases gs with
 |nil=>cases h
 |cons c gs=>
 cases gs with
 |cons _ _=>cases h
 |nil=>
 obtain⟨p,hp,h⟩:=ob_some.1 (show ob c.asI _=some y from h)
 obtain⟨hk,h⟩:=bif_some.1 h
 cases h
 obtain⟨v,vs,rfl,hv,hr⟩:=hr.of_cons
 rw[hr.of_nil]
 rw[asI_eq hp]at hv
 rw[hv.int_inv]
 have hk:=of_decide_eq_true hk
 exact⟨p.2,rfl,by rw[hk];rfl⟩
theorem Reads.pair {α β α' β':Type} {d:List GV->Option α'} {e:List GV->Option β'} {r:Rep α} {s:Rep β} {er:α->α'} {es:β->β'} (h1:Reads S ρ w d r er) (h2:Reads S ρ w e s es):Reads S ρ w (dP r.sz d e) (Rep.pair r s) (fun z=>(er z.1,es z.2)):=fun gs vs y hr h hl=>by
 obtain⟨x,hx,h⟩:=ob_some.1 (show ob (d (gs.take r.sz)) _=some y from h)
 obtain⟨x',hx',h⟩:=ob_some.1 h
 cases h
 have hl:gs.length=r.sz+s.sz:=hl
 have hv:=hr.len
 obtain⟨z,rfl,hz⟩:=h1 _ (vs.take r.sz) _ (by simpa using hr.sub 0 r.sz) hx (by simp;omega)
 obtain⟨z',rfl,hz'⟩:=h2 _ (vs.drop r.sz) _ ⟨by simp;omega,fun i g v hg hv'=>by rw[List.getElem?_drop]at hg hv';exact hr.at' _ _ _ hg hv'⟩ hx' (by simp;omega)
 exact⟨(z,z'),rfl,_,_,(List.take_append_drop r.sz vs).symm,hz,hz'⟩
theorem decL_ok {α β:Type} {d:List GV->Option β} {r:Rep α} {er:α->β} (hd:Reads S ρ w d r er) (b:Nat):∀(n:Nat) (cs:List GV) (ns:List Value) (off:Nat) (ys:List β),decL r.sz d n cs=some ys->RlL ρ cs ns->cs.length=n*r.sz->(∀(j:Nat) x,ns[j]? = some x->w.cell? ⟨b,off+j,none⟩=some x)->
  ∃zs:List α,zs.map er=ys∧zs.length=n∧∀(i:Nat) z,zs[i]? = some z->∃es,(∀(j:Nat) e,es[j]? = some e->w.cell? ⟨b,off+(i*r.sz+j),none⟩=some e)∧r.R w S es z
 |0,cs,ns,off,ys,h,hr,hl,hc=>by
  cases h
  exact⟨[],rfl,rfl,fun i z hz=>by simp at hz⟩
 | n + 1, cs, ns, off, ys, h, hr, hl, hc => by
  obtain⟨y,hy,h⟩:=ob_some.1 (show ob (d (cs.take r.sz)) (fun y=>ob (decL r.sz d n (cs.drop r.sz)) fun ys=>some (y::ys))=some ys from h)
  obtain⟨ys',hys,h⟩:=ob_some.1 h
  cases h
  rw[Nat.succ_mul]at hl
  have hv:=hr.len
  obtain⟨z,rfl,hz⟩:=hd _ (ns.take r.sz) _ (by simpa using hr.sub 0 r.sz) hy (by simp;omega)
  obtain⟨zs,rfl,hzl,hzs⟩:=decL_ok hd b n (cs.drop r.sz) (ns.drop r.sz) (off+r.sz) ys' hys ⟨by simp;omega,fun i g v hg hv'=>by rw[List.getElem?_drop]at hg hv';exact hr.at' _ _ _ hg hv'⟩ (by simp;omega) (fun j x hx=>by
   rw[List.getElem?_drop]at hx
   rw[Nat.add_assoc];exact hc _ _ hx)
  refine⟨z::zs,rfl,by simp[hzl],fun i z' hz'=> ?_⟩
  cases i with
  | zero =>
   simp at hz';subst hz'
   refine⟨_,fun j e he=> ?_,hz⟩
   rw[List.getElem?_take]at he
   by_cases hj:j<r.sz
   ·rw[if_pos hj]at he
    have:=hc j e he
    simpa using this
   ·rw[if_neg hj]at he;cases he
  |succ i=>
   simp at hz'
   obtain⟨es,h1,h2⟩:=hzs i z' hz'
   refine⟨es,fun j e he=> ?_,h2⟩
   have:=h1 j e he
   rw[Nat.succ_mul]
   rw[show off+(i*r.sz+r.sz+j)=off+r.sz+(i*r.sz+j) by omega]
   exact this
theorem content_slR (R:Rel w0 ρ H w) {v:GV} {V:Value} {sz:Nat} {p:Nat×List GV} (hv:Rl ρ v V) (h:content H sz v=some p):
  p.2.length=p.1*sz∧∃a cap,V = .slice a p.1 cap∧p.1<=cap∧(p.1=0∨∃b off ns,a=some ⟨b,off,none⟩∧w0.mine b∧RlL ρ p.2 ns∧∀(j:Nat) x,ns[j]? = some x->w.cell? ⟨b,off+j,none⟩=some x):=by
 obtain⟨ns,C⟩:=content_ok R hv h
 refine⟨by rw[C.rel.len,C.len],?_⟩
 obtain⟨base,cap,hV,hc,hh⟩:=C.val
 refine⟨base,cap,hV,hc,?_⟩
 rcases hh with⟨_,h0,_⟩|⟨A,rfl,hcell⟩
 ·exact .inl h0
 ·by_cases h0:p.1=0
  ·exact .inl h0
  ·refine .inr ?_
   unfold content at h
   cases hz:v.isSnil with
   |true=>rw[hz]at h;cases h;exact absurd rfl h0
   | false =>
    rw[hz]at h
    obtain⟨s,hs,h⟩:=ob_some.1 (show ob v.asS _=some p from h)
    rw[asS_eq hs,hV]at hv
    obtain⟨l,cap',A',hl,e,hc',ha⟩:=hv.sl_inv
    injection e with e1 e2 e3
    injection e1 with e1
    rcases ha with ha|⟨ha,_⟩
    ·omega
    ·rw[ha]at e1
     subst e1
     have hm:w0.mine l.b:=by
      obtain⟨_,h⟩:=bif_some.1 h
      obtain⟨cs,hcs,_⟩:=ob_some.1 h
      obtain⟨l',hl',hm,_⟩:=R.live _ _ (GH.cells_eq.1 hcs)
      rw[hl]at hl';cases hl';exact hm
     exact⟨l.b,l.off+s.2.1,ns,rfl,hm,C.rel,fun j x hx=>by have:=hcell j x hx;rwa[add_none]at this⟩
theorem decS_ok {α β:Type} {d:List GV->Option β} {r:Rep α} {er:α->β} (R:Rel w0 ρ H w) (hS:∀k,w0.mine k->S k) (hd:Reads S ρ w d r er) {v:GV} {V:Value} {ys:List β} (hv:Rl ρ v V) (h:decS H r.sz d v=some ys):∃zs:List α,zs.map er=ys∧SlR r w S V zs:=by
 obtain⟨p,hp,h⟩:=ob_some.1 (show ob (content H r.sz v) _=some ys from h)
 obtain⟨hle,h⟩:=bif_some.1 h
 have hle:p.1<=1099511627776:=by simpa using hle
 obtain⟨hlen,a,cap,rfl,hc,hh⟩:=content_slR R hv hp
 rcases hh with h0|⟨b,off,ns,rfl,hm,hr,hcell⟩
 ·rw[h0]at h;cases h
  exact⟨[],rfl,a,cap,by rw[h0];rfl,by simp,.inl rfl⟩
 ·obtain⟨zs,rfl,hl,hz⟩:=decL_ok hd b p.1 p.2 ns off ys h hr hlen hcell
  exact⟨zs,rfl,some ⟨b,off,none⟩,cap,by rw[hl],by rw[hl];omega,.inr ⟨b,off,rfl,hS b hm,hz⟩⟩
theorem Reads.sl {α β:Type} {d:List GV->Option β} {r:Rep α} {er:α->β} (R:Rel w0 ρ H w) (hS:∀k,w0.mine k->S k) (hd:Reads S ρ w d r er):Reads S ρ w (dS H r.sz d) (Rep.sl r) (fun z=>z.2.map er):=fun gs vs y hr h hl=>by
 cases gs with
 |nil=>cases h
 |cons c gs=>
 cases gs with
 |cons _ _=>cases h
 |nil=>
 have h:decS H r.sz d c=some y:=h
 obtain⟨v,vs,rfl,hv,hr⟩:=hr.of_cons
 rw[hr.of_nil]
 obtain⟨zs,rfl,hz⟩:=decS_ok R hS hd hv h
 exact⟨(v,zs),rfl,rfl,hz⟩
end
end Go.Gx
end
section
namespace Go.Gx
open Go Go.Sx
noncomputable section
def impRows {α:Type} (sz:Nat) (g:α->List GV) (xss:List (List α)):GH->List GV×GH:=List.rec (motive:=fun _=>GH->List GV×GH) (fun H=>([],H)) (fun xs _ ih H=>let r:=ih (H.new (.cells (xs.flatMap g)));(.sl H.n 0 xs.length sz::r.1,r.2)) xss
end
section
variable {P:Program} {gs:Gls} {w0:Base gs} {w:World} {ρ:Rho} {H:GH}
def Apart (ρ:Rho) (H:GH) (B:Nat->Prop):Prop:=∀h o l,H.get h=some o->ρ h=some l->¬B l.b
theorem Apart.mono {B B':Nat->Prop} (h:Apart ρ H B) (hB:∀k,B' k->B k):Apart ρ H B':=fun a o l h1 h2 h3=>h a o l h1 h2 (hB _ h3)
theorem Apart.start (R:Rel w0 ρ H w):Apart ρ H (fun k=>w.heap.size<=k):=fun h o l hg hl hb=>by
 obtain⟨l',hl',_,ho⟩:=R.live h o hg
 rw[hl]at hl';cases hl'
 have:=ho.lt
 omega
theorem import_ok {α:Type} {e:Enc α} {xs:List α} {cs:List GV} {v:Value} {B F:Nat->Prop} (R:Rel w0 ρ H w) (A:Apart ρ H B) (hB:∀k,B k->w0.mine k) (hFB:∀k,F k->B k) (ha:ArR e w F v xs) (hne:xs≠[]) (hcs:RlL ρ cs (cellsOf e xs)):
  ∃ρ',ρ.le ρ'∧Rel w0 ρ' (H.new (.cells cs)) w∧Rl ρ' (.sl H.n 0 xs.length e.sz) v∧Apart ρ' (H.new (.cells cs)) (fun k=>B k∧¬F k):=by
 obtain⟨_,hone,hh⟩:=ha
 rcases hh with⟨_,h0⟩|⟨b,off,cap,T,cur,rfl,hF,hb,hc,hsz,hcells⟩
 ·exact absurd h0 hne
 have hlen:(cellsOf e xs).length=xs.length*e.sz:=by
  rw[<-hcells]
  simp
  have:xs.length*e.sz<=cap*e.sz:=Nat.mul_le_mul_right _ hc
  omega
 have hle:ρ.le (ρ.upd H.n ⟨b,off,cur.size,.cells cur T (0,0),.cells cs⟩):=Rho.le_upd (R.fresh _ (Nat.le_refl _))
 have hcap:xs.length*e.sz<=cap*e.sz:=Nat.mul_le_mul_right _ hc
 obtain⟨_,R'⟩:=R.new (o:= .cells cs) (l:=⟨b,off,cur.size,.cells cur T (0,0),.cells cs⟩) R.ext (fun h o' l' hg hl=>⟨rfl,fun e'=>A h o' l' hg hl (by rw[e'];exact hFB _ hF)⟩) (hB _ (hFB _ hF)) ⟨cur,T,hb,rfl,by
   show off+cs.length<=cur.size
   have:=hcs.len;omega,fun i g hg=>by
   obtain⟨x,hx,hr⟩:=hcs.get hg
   refine⟨x,?_,hr.le hle,List.all_eq_true.1 hone x (List.mem_of_getElem? hx)⟩
   rw[<-hcells,List.getElem?_take]at hx
   by_cases hi:i<xs.length*e.sz
   ·rw[if_pos hi,List.getElem?_drop,Array.getElem?_toList]at hx;exact hx
   ·rw[if_neg hi]at hx;cases hx⟩ hb
 refine⟨_,hle,R',.sl (by simp[Rho.upd];rfl) hc (.inr ⟨rfl,hsz⟩),fun h o l hg hl hk=> ?_⟩
 rw[GH.get_new]at hg
 by_cases e1:h=H.n
 ·rw[e1]at hl
  simp[Rho.upd]at hl
  subst hl
  exact hk.2 hF
 ·rw[if_neg e1]at hg
  simp only[Rho.upd,if_neg e1]at hl
  exact A h o l hg hl hk.1
theorem flat_ok {α:Type} {e:Enc α} {g:α->List GV} (hg:∀x,RlL ρ (g x) (e.enc x)):∀xs:List α,RlL ρ (xs.flatMap g) (cellsOf e xs)
 | []=> .nil
 |x::xs=>(hg x).append (flat_ok hg xs)
theorem impRows_ok {α:Type} {e:Enc α} {g:α->List GV} (hg:∀ρ x,RlL ρ (g x) (e.enc x)):∀(xss:List (List α)) (vs:List Value) (G:Nat->Nat->Prop) (B:Nat->Prop) (ρ:Rho) (H:GH),Rel w0 ρ H w->Apart ρ H B->(∀k,B k->w0.mine k)->vs.length=xss.length->
  (∀xs∈xss,xs≠[])->(∀i v xs,vs[i]? = some v->xss[i]? = some xs->ArR e w (G i) v xs)->(∀i k,G i k->B k)->(∀i j k,G i k->G j k->i=j)->
  ∃ρ',ρ.le ρ'∧Rel w0 ρ' (impRows e.sz g xss H).2 w∧RlL ρ' (impRows e.sz g xss H).1 vs∧Apart ρ' (impRows e.sz g xss H).2 (fun k=>B k∧∀i,¬G i k)
 | [],vs,G,B,ρ,H,R,A,hB,hl,_,h1,h2,h3=>by
  have:vs=[]:=List.eq_nil_of_length_eq_zero hl
  subst this
  exact⟨ρ,Rho.le_refl _,R,.nil,A.mono fun k hk=>hk.1⟩
 |xs::xss,[],G,B,ρ,H,R,A,hB,hl,_,h1,h2,h3=>by simp at hl
 |xs::xss,v::vs,G,B,ρ,H,R,A,hB,hl,hne,h1,h2,h3=>by
  obtain⟨ρ1,hle1,R1,hv,A1⟩:=import_ok R A hB (h2 0) (h1 0 v xs rfl rfl) (hne xs (by simp)) (flat_ok (hg ρ) xs)
  obtain⟨ρ2,hle2,R2,hvs,A2⟩:=impRows_ok hg xss vs (fun i=>G (i+1)) _ ρ1 _ R1 A1 (fun k hk=>hB k hk.1) (by simpa using hl) (fun y hy=>hne y (by simp[hy])) (fun i v' xs' hv' hx'=>h1 (i+1) v' xs' (by simpa using hv') (by simpa using hx')) (fun i k hk=>⟨h2 _ k hk,fun h0=>by have:=h3 _ _ k hk h0;omega⟩) (fun i j k hi hj=>by have:=h3 _ _ k hi hj;omega)
  refine⟨ρ2,Rho.le_trans hle1 hle2,R2,.cons (hv.le hle2) hvs,A2.mono fun k hk=>⟨⟨hk.1,hk.2 0⟩,fun i=>hk.2 (i+1)⟩⟩
theorem raw_cells:∀vs:List Value,cellsOf Enc.raw vs=vs
 | []=>rfl
 |v::vs=>by show v::cellsOf Enc.raw vs=_;rw[raw_cells vs]
end
end Go.Gx
end
section
namespace Go.Gx
open Go Go.Sx
section
variable {P:Program} {gs:Gls} {w0:Base gs} {w:World} {ρ:Rho} {H:GH}
theorem hook_plain {f:Nat} {vs:List Value} {L:List Fact} {V:Value} {g:GV} (hb:HasBody P f) (hm:Meets P f vs.toArray L (fun _:Unit=>V) (fun _ l=>l) (fun _ l=>l)) (R:Rel w0 ρ H w) (hL:∀h∈L,h.p w All) (hv:∀ρ,Rl ρ g V):CallSem P w0 ρ f vs w g H:=by
 refine .inr ⟨hb _ w,(hm w All hL).mono ?_⟩
 rintro e w' ⟨_,rfl,t⟩
 exact⟨V,ρ,rfl,Rho.le_refl _,R.ext' t.old.ext,hv _⟩
theorem hook_graph {α β:Type} {e:Enc α} {g:α->List GV} {e':Enc β} {g':β->List GV} (hg:∀ρ x,RlL ρ (g x) (e.enc x)) (hg':∀ρ x,RlL ρ (g' x) (e'.enc x)) {f:Nat} {vs:List Value} {L:List Fact} {r:List α×List (List β)} (h1:r.1≠[]) (h2:r.2≠[]) (h3:∀xs∈r.2,xs≠[]) (hb:HasBody P f)
  (hm:Meets P f vs.toArray L (fun x:Value×Value×List Value=>Value.agg #[x.1,x.2.1]) (fun x l=>Ar e x.1 r.1::Ar Enc.raw x.2.1 x.2.2::Rws e' x.2.2 r.2::l) (fun _ l=>l)) (R:Rel w0 ρ H w) (hL:∀h∈L,h.p w All):
  CallSem P w0 ρ f vs w (.agg [.sl H.n 0 r.1.length e.sz,.sl (impRows e'.sz g' r.2 (H.new (.cells (r.1.flatMap g)))).2.n 0 r.2.length 1]) ((impRows e'.sz g' r.2 (H.new (.cells (r.1.flatMap g)))).2.new (.cells (impRows e'.sz g' r.2 (H.new (.cells (r.1.flatMap g)))).1)):=by
 refine .inr ⟨hb _ w,(hm w All hL).mono ?_⟩
 rintro en w' ⟨x,rfl,t⟩
 obtain⟨F,O,_⟩:=t.own
 have q0:ArR _ w' (F 0) x.1 r.1:=O.res 0 _ rfl
 have q1:ArR Enc.raw w' (F 1) x.2.1 x.2.2:=O.res 1 _ rfl
 obtain⟨ql,G,q2,q3,q4⟩:(Rws e' x.2.2 r.2).p w' (F 2):=O.res 2 _ rfl
 have R':=R.ext' t.old.ext
 have hF:∀i k,F i k->w.heap.size<=k:=fun i k hk=>by
  rcases(O.rng i k hk).1 with h|h
  ·exact h
  ·exact h.elim
 obtain⟨ρ1,hle1,R1,hv1,A1⟩:=import_ok (B:=fun k=>w.heap.size<=k) R' (fun a o l h1 h2=>Apart.start R a o l h1 h2) (fun k hk=> .inl (Nat.le_trans R.ext.size hk)) (hF 0) q0 h1 (flat_ok (hg ρ) r.1)
 obtain⟨ρ2,hle2,R2,hv2,A2⟩:=impRows_ok hg' r.2 x.2.2 G _ ρ1 _ R1 A1 (fun k hk=> .inl (Nat.le_trans R.ext.size hk.1)) ql h3 q2 (fun i k hk=>⟨hF _ _ (q3 i k hk),fun h0=>by have:=O.dis _ _ k (q3 i k hk) h0;omega⟩) q4
 have hne:x.2.2≠[]:=fun h0=>by rw[h0]at ql;exact h2 (List.eq_nil_of_length_eq_zero ql.symm)
 obtain⟨ρ3,hle3,R3,hv3,_⟩:=import_ok (cs:=(impRows e'.sz g' r.2 (H.new (.cells (r.1.flatMap g)))).1) (F:=F 1) R2 A2 (fun k hk=> .inl (Nat.le_trans R.ext.size hk.1.1)) (fun k hk=>⟨⟨hF _ _ hk,fun h0=>by have:=O.dis _ _ k hk h0;omega⟩,fun i hi=>by have:=O.dis _ _ k hk (q3 i k hi);omega⟩) q1 hne (by rw[raw_cells];exact hv2)
 refine⟨_,ρ3,rfl,Rho.le_trans hle1 (Rho.le_trans hle2 hle3),R3,?_⟩
 refine Rl.agg' (vs:=[x.1,x.2.1]) (.cons ((hv1.le hle2).le hle3) (.cons (by rw[<-ql];exact hv3) .nil)) fun v hv=> ?_
 have one_of:∀{γ:Type} {e:Enc γ} {F:Nat->Prop} {v:Value} {xs:List γ},ArR e w' F v xs->one v=true:=fun h=>by
  obtain⟨_,_,h⟩:=h
  rcases h with⟨rfl,_⟩|⟨b,off,cap,T,cur,rfl,_⟩<;>rfl
 simp at hv
 rcases hv with rfl|rfl
 ·exact one_of q0
 ·exact one_of q1
end
noncomputable section
def dInts (H:GH) (v:GV):Option (List Int):=decS H 1 (dI .i64) v
def dPorts (H:GH) (v:GV):Option (List (List (Int×Int))):=decS H 1 (dS H 2 (dP 1 (dI .i64) (dI .i64))) v
def dConf (H:GH) (v:GV):Option (List (List Int)):=decS H 1 (dS H 1 (dI .i64)) v
def dGraph (H:GH) (v:GV):Option (List Int×List (List (Int×Int))):=ob v.asA fun cs=>List.casesOn (motive:=fun _=>Option (List Int×List (List (Int×Int)))) cs none fun a r=>List.casesOn (motive:=fun _=>Option (List Int×List (List (Int×Int)))) r none fun b r=>List.casesOn (motive:=fun _=>Option (List Int×List (List (Int×Int)))) r (ob (dInts H a) fun x=>ob (dPorts H b) fun y=>some (x,y)) fun _ _=>none
end
section
variable {P:Program} {gs:Gls} {w0:Base gs} {w:World} {ρ:Rho} {H:GH}
theorem dInts_ok (R:Rel w0 ρ H w) {v:GV} {V:Value} {xs:List Int} (hv:Rl ρ v V) (h:dInts H v=some xs):(Sl (Rep.int .i64) V xs).p w All:=by
 obtain⟨zs,rfl,hz⟩:=decS_ok R (fun _ _=>trivial) (Reads.int .i64) hv h
 rw[List.map_id]
 exact hz
theorem dConf_ok (R:Rel w0 ρ H w) {v:GV} {V:Value} {xs:List (List Int)} (hv:Rl ρ v V) (h:dConf H v=some xs):∃zs,(S2 (Rep.int .i64) V zs xs).p w All:=by
 obtain⟨zs,rfl,hz⟩:=decS_ok R (fun _ _=>trivial) (Reads.sl R (fun _ _=>trivial) (Reads.int .i64)) hv h
 exact⟨zs,hz,by simp⟩
theorem dPorts_ok (R:Rel w0 ρ H w) {v:GV} {V:Value} {xs:List (List (Int×Int))} (hv:Rl ρ v V) (h:dPorts H v=some xs):∃zs,(S2 (Rep.pair (Rep.int .i64) (Rep.int .i64)) V zs xs).p w All:=by
 obtain⟨zs,rfl,hz⟩:=decS_ok R (fun _ _=>trivial) (Reads.sl R (fun _ _=>trivial) (Reads.pair (Reads.int .i64) (Reads.int .i64))) hv h
 exact⟨zs,hz,by simp⟩
theorem dGraph_ok (R:Rel w0 ρ H w) {v:GV} {V:Value} {p:List Int×List (List (Int×Int))} (hv:Rl ρ v V) (h:dGraph H v=some p):∃v0 v1 z2,V = .agg #[v0,v1]∧(Sl (Rep.int .i64) v0 p.1).p w All∧(S2 (Rep.pair (Rep.int .i64) (Rep.int .i64)) v1 z2 p.2).p w All:=by
 obtain⟨cs,hcs,h⟩:=ob_some.1 (show ob v.asA _=some p from h)
 rw[asA_eq hcs]at hv
 obtain⟨vs,rfl,hr,_⟩:=hv.agg_inv
 cases cs with
 |nil=>cases h
 |cons a cs=>
 cases cs with
 |nil=>cases h
 |cons b cs=>
 cases cs with
 |cons _ _=>cases h
 |nil=>
 obtain⟨x,hx,h⟩:=ob_some.1 (show ob (dInts H a) _=some p from h)
 obtain⟨y,hy,h⟩:=ob_some.1 h
 cases h
 obtain⟨v0,vs,rfl,h0,hr⟩:=hr.of_cons
 obtain⟨v1,vs,rfl,h1,hr⟩:=hr.of_cons
 rw[hr.of_nil]
 obtain⟨z2,hz⟩:=dPorts_ok R h1 hy
 exact⟨v0,v1,z2,rfl,dInts_ok R h0 hx,hz⟩
end
end Go.Gx
end
section
namespace Go.Sx
open Go.RowKit
def Gb (b:Nat) (cs:List Value):Fact where
 p w S:=S b∧∃T,w.heap[b]? = some (.cells cs.toArray T (0,0))
 mono:=fun⟨h1,T,h2⟩ h=>by
  obtain⟨h3,h4⟩:=h b h1 (Array.getElem?_eq_some_iff.1 h2).1
  exact⟨h3,T,by rw[h4];exact h2⟩
section
variable {P:Program} {c:Ctx} {n:Sz} {σ:Fr} {M L:List Fact} {d:Option Tmp} {ty:TypeId} {pos:String} {aft:Array Edge} {g:Option (Nat×Bool)} {α:Type} {e:Enc α}
theorem Y.indexArrK [Tab P] {T E:TypeId} {ki:IntKind} {k s1 s2 s3 s4:Nat} {z z':Value} {dE:TypeDesc} {x y:Operand} {b:Nat} {i:Int} (hx:ev σ x=some (.pointer (some ⟨b,0,none⟩))) (hy:ev σ y=some (.int ki i))
  (hT:Tab.tab P T=some ⟨.array k E,s1,s2,z⟩) (hE:Tab.tab P E=some ⟨dE,s3,s4,z'⟩) (h3:(s3==0)=false) (h:0<=i∧i<(k:Int)):
  Y P c n σ M L ⟨d,.indexAddr T x y,ty,pos,aft,g⟩ (.pointer (some ⟨b,i.toNat*s3,none⟩)):=fun a w s t=>by
 have hne:s3≠0:=by simpa using h3
 simp[execOp,s.eval hx,s.eval hy,Instr.indexAt,asIntOf,(Tab.ok hT).run_und w,h,Instr.sureAddr,(Tab.ok hE).run_size w,hne,add_none]
theorem Y.loadGlb [Tab P] [Inhabited α] {T:TypeId} {s2:Nat} {z:Value} {dT:TypeDesc} {x:Operand} {b k:Nat} {i:Int} {xs:List α} {u:Value} (hx:ev σ x=some (.pointer (some ⟨b,i.toNat*1,none⟩)))
  (hM:Lent M L (Gb b (cellsOf e xs))) (hT:Tab.tab P T=some ⟨dT,1,s2,z⟩) (hd:aggD dT=false) (hq:e.sz=1) (hu:(e.enc (at' xs i))=[u]) (h:(0<=i∧i<(k:Int))∧xs.length=k):
  Y P c n σ M L ⟨d,.load T x,ty,pos,aft,g⟩ u:=fun a w s t=>by
 obtain⟨F,hF1,T',hF2⟩:=hM.st t
 have hF:(Blk b (cellsOf e xs) T').p w F:=⟨hF1,hF2⟩
 have hg:=cellsOf_get e xs i.toNat (at' xs i) (at'_some h.1.1 (by omega)) 0 u (by rw[hu];rfl)
 rw[hq,Nat.add_zero]at hg
 rw[Nat.mul_one]at hx hg
 simp[execOp,s.eval hx,run_load1 (Tab.ok hT) hd (Blk.cell hF hg)]
end
end Go.Sx
end
section
namespace Go.Gx
open Go Go.Sx
noncomputable section
section
variable {α R:Type}
def a0 (us:List α) (k:Option R):Option R:=List.casesOn (motive:=fun _=>Option R) us k (fun _ _=>none)
def a1 (us:List α) (k:α->Option R):Option R:=List.casesOn (motive:=fun _=>Option R) us none fun a r=>a0 r (k a)
def a2 (us:List α) (k:α->α->Option R):Option R:=List.casesOn (motive:=fun _=>Option R) us none fun a r=>a1 r (k a)
def a3 (us:List α) (k:α->α->α->Option R):Option R:=List.casesOn (motive:=fun _=>Option R) us none fun a r=>a2 r (k a)
def a4 (us:List α) (k:α->α->α->α->Option R):Option R:=List.casesOn (motive:=fun _=>Option R) us none fun a r=>a3 r (k a)
def a5 (us:List α) (k:α->α->α->α->α->Option R):Option R:=List.casesOn (motive:=fun _=>Option R) us none fun a r=>a4 r (k a)
def a6 (us:List α) (k:α->α->α->α->α->α->Option R):Option R:=List.casesOn (motive:=fun _=>Option R) us none fun a r=>a5 r (k a)
theorem a0_some {us:List α} {k:Option R} {r:R} (h:a0 us k=some r):us=[]∧k=some r:=by
 cases us with
 |nil=>exact⟨rfl,h⟩
 |cons _ _=>cases h
theorem a1_some {us:List α} {k:α->Option R} {r:R} (h:a1 us k=some r):∃x,us=[x]∧k x=some r:=by
 cases us with
 |nil=>cases h
 |cons x us=>obtain⟨rfl,h⟩:=a0_some h;exact⟨x,rfl,h⟩
theorem a2_some {us:List α} {k:α->α->Option R} {r:R} (h:a2 us k=some r):∃x y,us=[x,y]∧k x y=some r:=by
 cases us with
 |nil=>cases h
 |cons x us=>obtain⟨y,rfl,h⟩:=a1_some h;exact⟨x,y,rfl,h⟩
theorem a3_some {us:List α} {k:α->α->α->Option R} {r:R} (h:a3 us k=some r):∃x y z,us=[x,y,z]∧k x y z=some r:=by
 cases us with
 |nil=>cases h
 |cons x us=>obtain⟨y,z,rfl,h⟩:=a2_some h;exact⟨x,y,z,rfl,h⟩
theorem a4_some {us:List α} {k:α->α->α->α->Option R} {r:R} (h:a4 us k=some r):∃x y z u,us=[x,y,z,u]∧k x y z u=some r:=by
 cases us with
 |nil=>cases h
 |cons x us=>obtain⟨y,z,u,rfl,h⟩:=a3_some h;exact⟨x,y,z,u,rfl,h⟩
theorem a5_some {us:List α} {k:α->α->α->α->α->Option R} {r:R} (h:a5 us k=some r):∃x y z u v,us=[x,y,z,u,v]∧k x y z u v=some r:=by
 cases us with
 |nil=>cases h
 |cons x us=>obtain⟨y,z,u,v,rfl,h⟩:=a4_some h;exact⟨x,y,z,u,v,rfl,h⟩
theorem a6_some {us:List α} {k:α->α->α->α->α->α->Option R} {r:R} (h:a6 us k=some r):∃x y z u v w,us=[x,y,z,u,v,w]∧k x y z u v w=some r:=by
 cases us with
 |nil=>cases h
 |cons x us=>obtain⟨y,z,u,v,w,rfl,h⟩:=a5_some h;exact⟨x,y,z,u,v,w,rfl,h⟩
end

def dSc (k:IntKind) (v:GV):Option Int:=ob v.asI fun p=>bif eqK p.1 k then some p.2 else none
def dU32s (H:GH) (v:GV):Option (List Int):=decS H 1 (dI .u32) v
def dNet (H:GH) (v:GV):Option (Int×List Int×List Int×List Int×Bool×Bool):=ob v.asA fun cs=>a6 cs fun a b c d e f=>ob (dSc .i64 a) fun n=>ob (dInts H b) fun x=>ob (dInts H c) fun y=>ob (dInts H d) fun z=>ob e.asB fun p=>ob f.asB fun q=>some (n,x,y,z,p,q)

def gI (n:Int):List GV:=[.int .i64 n]
def gP (p:Int×Int):List GV:=[.int .i64 p.1,.int .i64 p.2]
def fcI {R:Type} (l:List Int):(List Int->R)->R:=List.rec (motive:=fun _=>(List Int->R)->R) (fun k=>k []) (fun x _ ih k=>fi x fun x=>ih fun r=>k (x::r)) l
def fcP {R:Type} (l:List (Int×Int)):(List (Int×Int)->R)->R:=List.rec (motive:=fun _=>(List (Int×Int)->R)->R) (fun k=>k []) (fun x _ ih k=>fi x.1 fun a=>fi x.2 fun b=>ih fun r=>k ((a,b)::r)) l
def fcR {R:Type} (l:List (List (Int×Int))):(List (List (Int×Int))->R)->R:=List.rec (motive:=fun _=>(List (List (Int×Int))->R)->R) (fun k=>k []) (fun x _ ih k=>fcP x fun x=>ih fun r=>k (x::r)) l
theorem fcI_eq {R:Type}:∀(l:List Int) (k:List Int->R),fcI l k=k l
 | [],k=>rfl
 |x::l,k=>by
  show fi x (fun x=>fcI l fun r=>k (x::r))=_
  rw[fi_eq,fcI_eq l]
theorem fcP_eq {R:Type}:∀(l:List (Int×Int)) (k:List (Int×Int)->R),fcP l k=k l
 | [],k=>rfl
 |x::l,k=>by
  show fi x.1 (fun a=>fi x.2 fun b=>fcP l fun r=>k ((a,b)::r))=_
  rw[fi_eq,fi_eq,fcP_eq l]
theorem fcR_eq {R:Type}:∀(l:List (List (Int×Int))) (k:List (List (Int×Int))->R),fcR l k=k l
 | [],k=>rfl
 |x::l,k=>by
  show fcP x (fun x=>fcR l fun r=>k (x::r))=_
  rw[fcP_eq,fcR_eq l]
def oBool (b:Bool) (H:GH):OR:=Bool.casesOn (motive:=fun _=>OR) b (some (.bool false,H)) (some (.bool true,H))
def oGraph (r:List Int×List (List (Int×Int))) (H:GH):OR:=fcI r.1 fun x=>fcR r.2 fun y=>bif Nat.beq x.length 0 then none else bif Nat.beq y.length 0 then none else bif y.any fun l=>Nat.beq l.length 0 then none else
 fc (x.flatMap gI) fun l=>H.newK (.cells l) fun h H1=>fc (impRows 2 gP y H1).1 fun rs=>sn x.length fun n=>sn y.length fun m=>(impRows 2 gP y H1).2.newK (.cells rs) fun h2 H2=>some (.agg [.sl h 0 n 1,.sl h2 0 m 1],H2)
end
section
variable {P:Program} {gs:Gls} {w0:Base gs} {w:World} {ρ:Rho} {H H':GH} {g:GV}
theorem RlL.one {x:GV} {vs:List Value} (h:RlL ρ [x] vs):∃V,vs=[V]∧Rl ρ x V:=by
 obtain⟨v,vs,rfl,h1,h2⟩:=h.of_cons
 rw[h2.of_nil];exact⟨v,rfl,h1⟩
theorem dSc_ok {k:IntKind} {v:GV} {V:Value} {n:Int} (hv:Rl ρ v V) (h:dSc k v=some n):V = .int k n:=by
 obtain⟨p,hp,h⟩:=ob_some.1 (show ob v.asI _=some n from h)
 obtain⟨hk,h⟩:=bif_some.1 h
 cases h
 rw[asI_eq hp]at hv
 rw[hv.int_inv,eqK_eq hk]
theorem asB_ok {v:GV} {V:Value} {b:Bool} (hv:Rl ρ v V) (h:v.asB=some b):V = .bool b:=by
 rw[asB_eq h]at hv;exact hv.bool_inv
theorem dU32s_ok (R:Rel w0 ρ H w) {v:GV} {V:Value} {xs:List Int} (hv:Rl ρ v V) (h:dU32s H v=some xs):(Sl (Rep.int .u32) V xs).p w All:=by
 obtain⟨zs,rfl,hz⟩:=decS_ok R (fun _ _=>trivial) (Reads.int .u32) hv h
 rw[List.map_id]
 exact hz
theorem dNet_ok (R:Rel w0 ρ H w) {v:GV} {V:Value} {p:Int×List Int×List Int×List Int×Bool×Bool} (hv:Rl ρ v V) (h:dNet H v=some p):
  ∃v0 v1 v2,V = .agg #[.int .i64 p.1,v0,v1,v2,.bool p.2.2.2.2.1,.bool p.2.2.2.2.2]∧(Sl (Rep.int .i64) v0 p.2.1).p w All∧(Sl (Rep.int .i64) v1 p.2.2.1).p w All∧(Sl (Rep.int .i64) v2 p.2.2.2.1).p w All:=by
 obtain⟨cs,hcs,h⟩:=ob_some.1 (show ob v.asA _=some p from h)
 obtain⟨a,b,c,d,e,f,rfl,h⟩:=a6_some h
 obtain⟨n,hn,h⟩:=ob_some.1 h
 obtain⟨x,hx,h⟩:=ob_some.1 h
 obtain⟨y,hy,h⟩:=ob_some.1 h
 obtain⟨z,hz,h⟩:=ob_some.1 h
 obtain⟨q,hq,h⟩:=ob_some.1 h
 obtain⟨r,hr,h⟩:=ob_some.1 h
 cases h
 rw[asA_eq hcs]at hv
 obtain⟨vs,rfl,hl,_⟩:=hv.agg_inv
 obtain⟨va,vs,rfl,ha,hl⟩:=hl.of_cons
 obtain⟨vb,vs,rfl,hb,hl⟩:=hl.of_cons
 obtain⟨vc,vs,rfl,hc,hl⟩:=hl.of_cons
 obtain⟨vd,vs,rfl,hd,hl⟩:=hl.of_cons
 obtain⟨ve,vs,rfl,he,hl⟩:=hl.of_cons
 obtain⟨vf,rfl,hf⟩:=hl.one
 have e1:=dSc_ok ha hn
 have e2:=asB_ok he hq
 have e3:=asB_ok hf hr
 subst e1 e2 e3
 exact⟨vb,vc,vd,rfl,dInts_ok R hb hx,dInts_ok R hc hy,dInts_ok R hd hz⟩
theorem oBool_some {b:Bool} (h:oBool b H=some (g,H')):g = .bool b∧H'=H:=by
 cases b<;>cases h<;>exact⟨rfl,rfl⟩
theorem oGraph_some {r:List Int×List (List (Int×Int))} (h:oGraph r H=some (g,H')):r.1≠[]∧r.2≠[]∧(∀xs∈r.2,xs≠[])∧
  g = .agg [.sl H.n 0 r.1.length 1,.sl (impRows 2 gP r.2 (H.new (.cells (r.1.flatMap gI)))).2.n 0 r.2.length 1]∧H'=(impRows 2 gP r.2 (H.new (.cells (r.1.flatMap gI)))).2.new (.cells (impRows 2 gP r.2 (H.new (.cells (r.1.flatMap gI)))).1):=by
 unfold oGraph at h
 rw[fcI_eq,fcR_eq]at h
 obtain⟨h1,h⟩:=bif_some'.1 h
 obtain⟨h2,h⟩:=bif_some'.1 h
 obtain⟨h3,h⟩:=bif_some'.1 h
 rw[fc_eq,GH.newK_eq,fc_eq,sn_eq,sn_eq,GH.newK_eq]at h
 cases h
 refine⟨fun e=>(by rw[e]at h1;cases h1),fun e=>(by rw[e]at h2;cases h2),fun xs hx e=> ?_,rfl,rfl⟩
 have:=List.any_eq_false.1 h3 xs hx
 rw[e]at this
 exact this rfl
theorem gI_ok (ρ:Rho) (x:Int):RlL ρ (gI x) [.int .i64 x]:= .cons (.int _ _) .nil
theorem gP_ok (ρ:Rho) (x:Int×Int):RlL ρ (gP x) [.int .i64 x.1,.int .i64 x.2]:= .cons (.int _ _) (.cons (.int _ _) .nil)
def glb (b:Nat) (cs:List Value) (T:Nat):Gls:=⟨[(b,.cells cs.toArray T (0,0))],[]⟩
theorem glsOne {b:Nat} {cs:List Value} (w:World) (S:Nat->Prop) (h:∀h∈[Gb b cs],h.p w S):∃T,GlsOk (glb b cs T) w fun _=>False:=by
 obtain⟨_,T,hT⟩:=h _ (List.mem_singleton.2 rfl)
 exact⟨T,fun p hp=>by obtain rfl:=List.mem_singleton.1 hp;exact⟨hT,id⟩⟩
theorem Rel.glb {b:Nat} {cs:List Value} {T:Nat} {w1:Base (glb b cs T)} {w:World} {ρ:Rho} {H:GH} (R:Rel w1 ρ H w):(Gb b cs).p w All:=⟨trivial,T,(R.glo _ (List.mem_singleton.2 rfl)).1⟩
theorem meets_closed {gs:Nat->Gls} {f:Nat} {V:Value} {L:List Fact} (hL:∀w S,(∀h∈L,h.p w S)->∃T,GlsOk (gs T) w fun _=>False) (hb:HasBody P f) (hv:∀ρ V',Rl ρ g V'->V'=V) (h:∀T (b:Base (gs T)),CallSem P b (fun _=>none) f [] b.w g H'):Meets P f #[] L (fun _:Unit=>V) (fun _ l=>l) (fun _ l=>l):=by
 intro w0 S0 hw
 obtain⟨T,hT⟩:=hL w0 S0 hw
 rcases h T (.of w0 hT)with⟨v,w',ρ',hr,_⟩|⟨_,hc⟩
 ·have hq:=hb #[] w0
  rw[show([]:List Value).toArray = #[]from rfl]at hr
  rw[show(Base.of w0 hT).w=w0 from rfl,hq]at hr;cases hr
 ·refine hc.mono ?_
  rintro e w' ⟨v,ρ',rfl,_,R,hr⟩
  exact⟨(),by rw[hv _ _ hr],R.ext,fun _ _=>False,⟨fun i m hm=>by simp at hm,fun i k h=>h.elim,fun i j k h=>h.elim⟩,fun f hf=>by simp at hf⟩

section
variable {tb:TB} {T:TypeId}
theorem alloc_z (h:zeroOf tb T=some [z64]) (H:GH):vAlloc tb T H=some (.ptr H.n 0,H.new (.cells [z64])):=by
 unfold vAlloc
 rw[h]
 show H.newK (.cells [z64]) (fun h H'=>some (GV.ptr h 0,H'))=_
 rw[GH.newK_eq]
theorem store_z {t:Ty} (h:tb T=some t) (hs:t.size=1) (H:GH) (k:Nat) (c:GV) (hc:GH.cells H k=some [c]):vStore tb T (.ptr k 0) z64 H=some (.un,H.set k (.cells [z64])):=by
 show ob (H.cells k) (fun cs=>ob (tb T) fun t=>bif Nat.beq 1 t.size then bif Nat.beq t.size 0 then none else ob (gput [z64] 0 cs) fun cs'=>H.setK k (.cells cs') fun H'=>some (GV.un,H')else none)=_
 rw[hc,h]
 show(bif Nat.beq 1 t.size then bif Nat.beq t.size 0 then none else ob (gput [z64] 0 [c]) fun cs'=>H.setK k (.cells cs') fun H'=>some (GV.un,H')else none)=_
 rw[hs]
 show H.setK k (.cells [z64]) (fun H'=>some (GV.un,H'))=_
 rw[GH.setK_eq]
theorem load_z {t:Ty} (h:tb T=some t) (ha:aggD t.desc=false) (H:GH) (k:Nat) (hc:GH.cells H k=some [z64]):vLoad tb T (.ptr k 0) H=some z64:=by
 show ob (H.cells k) (fun cs=>ob (tb T) fun t=>ofCells t cs 0)=_
 rw[hc,h]
 show ofCells t [z64] 0=_
 unfold ofCells
 rw[ha];rfl
end
def bodyOps (fn:Func):List Oper:=match fn.body with
 |some (.seq (.region _ ops _) _)=>ops.toList
 |_=>[]
def bodyRest (fn:Func):Code:=match fn.body with
 |some (.seq _ c)=>c
 |_=> .skip
def bodyDst (fn:Func):Nat:=match bodyOps fn with
 |o::_=>o.dst.getD 0
 | []=>0
def okN (r:RS):Bool:=match r with
 |some o=>match o.e with
  | .normal=>true
  |_=>false
 |none=>false
theorem okN_spec {r:RS} (h:okN r=true):∃out,r=some out∧out.e = .normal:=by
 unfold okN at h
 cases r with
 |none=>cases h
 |some o=>
  refine⟨o,rfl,?_⟩
  cases he:o.e<;>simp only[he]at h<;>first|rfl|cases h
def okT (r:OR):Bool:=match r with
 |some (.bool true,_)=>true
 |_=>false
theorem okT_spec {r:OR} (h:okT r=true):∃H',r=some (.bool true,H'):=by
 unfold okT at h
 split at h
 ·exact⟨_,rfl⟩
 ·cases h
end
end Go.Gx
end
section
namespace Go.Sx
open Go.RowKit
def sl3 (v:Value) (l h m size:Nat):Value:=match v with
 | .slice a _ _=> .slice (if m=l then a else a.map (·.add (l*size))) (h - l) (m - l)
 |v=>v
section
variable {P:Program} {rd:Option Nat} {c:Ctx} {n:Sz} {σ:Fr} {M L:List Fact} {Q:Exit->Act->World->Prop} {ops:Array Oper} {rest:List Oper} {d:Option Tmp} {ty:TypeId} {pos:String} {aft:Array Edge} {g:Option (Nat×Bool)} {α:Type} {e:Enc α} {r:Rep α} {G:Act->World->Prop}
theorem Y.slice3R [Tab P] {T E:TypeId} {s1 s2 s3 s4:Nat} {z z':Value} {dE:TypeDesc} {x lo hi mx:Operand} {v:Value} {i k m:Int} {xs:List α} (hx:ev σ x=some v) (hlo:ev σ lo=some (.int .i64 i)) (hhi:ev σ hi=some (.int .i64 k)) (hmx:ev σ mx=some (.int .i64 m)) (hf:Lent M L (Sl r v xs))
  (hT:Tab.tab P T=some ⟨.slice E,s1,s2,z⟩) (hE:Tab.tab P E=some ⟨dE,s3,s4,z'⟩) (h:0<=i∧i<=k∧k<=m∧m<=xs.length):Y P c n σ M L ⟨d,.slice T x (some lo) (some hi) (some mx),ty,pos,aft,g⟩ (sl3 v i.toNat k.toNat m.toNat s3):=fun a w s t=>by
 have h':=Y.slice3 (P:=P) (c:=c) (n:=n) (d:=d) (ty:=ty) (pos:=pos) (aft:=aft) (g:=g) hx hlo hhi hmx hf hT hE h a w s t
 obtain⟨S,a',cap,hv,_⟩:=hf.st t
 subst hv
 exact h'
theorem SlR.part3 {w:World} {S:Nat->Prop} {v:Value} {xs:List α} (hs:SlR r w S v xs) {l h m:Nat} (hl:l<=h) (hh:h<=m) (hm:m<=xs.length):SlR r w S (sl3 v l h m r.sz) ((xs.take h).drop l):=by
 have hp:=SlR.part hs hl (Nat.le_trans hh hm)
 obtain⟨a,cap,rfl,hb,_⟩:=hs
 obtain⟨a',cap',e',hb',hx'⟩:=hp
 have hlen:((xs.take h).drop l).length=h - l:=by simp;omega
 refine⟨if m=l then a else a.map (·.add (l*r.sz)),m - l,by simp[sl3,hlen],by omega,?_⟩
 rcases hx' with hx'|hx'
 ·exact .inl hx'
 ·by_cases h0:(xs.take h).drop l=[]
  ·exact .inl h0
  ·right
   have hlt:l<h:=by
    rcases Nat.lt_or_ge l h with q|q
    ·exact q
    ·exact absurd (List.eq_nil_of_length_eq_zero (by omega)) h0
   simp only[slq,Value.slice.injEq]at e'
   rw[if_neg (by omega)]at e'
   rw[if_neg (by omega),e'.1]
   exact hx'
theorem Lent.part3 {v:Value} {xs:List α} (hf:Lent M L (Sl r v xs)) {l h m:Int} {q:Nat} (hq:r.sz=q) (hl:0<=l∧l<=h∧h<=m∧m<=xs.length):Lent M L (Sl r (sl3 v l.toNat h.toNat m.toNat q) ((xs.take h.toNat).drop l.toNat)):=by
 subst hq
 exact hf.mono fun hs=>SlR.part3 hs (by omega) (by omega) (by omega)
def Rlf (r:Rep α) (vs:List Value) (xss:List (List α)):Fact where
 p w S:=vs.length=xss.length∧∀(i:Nat) v xs,vs[i]? = some v->xss[i]? = some xs->SlR r w S v xs
 mono:=fun⟨h1,h2⟩ h=>⟨h1,fun i v xs hv hx=>(Sl r v xs).mono (h2 i v xs hv hx) h⟩
theorem J.addRl (r:Rep α) (m:Nat) (h:J c n σ M (Rlf r (List.replicate m (.slice none 0 0)) (List.replicate m ([]:List α))::L) G):J c n σ M L G:=fun a w s t=>h a w s (by
 obtain⟨ho,F,hF,hL⟩:=t
 refine⟨ho,F,hF,fun f hf=> ?_⟩
 rcases List.mem_cons.1 hf with rfl|hf
 ·refine⟨by simp,fun i v xs hv hx=> ?_⟩
  obtain⟨_,rfl⟩:=List.mem_replicate.1 (List.mem_of_getElem? hv)
  obtain⟨_,rfl⟩:=List.mem_replicate.1 (List.mem_of_getElem? hx)
  exact⟨none,0,rfl,by simp,.inl rfl⟩
 ·exact hL f hf)
theorem J.rlset (j:Nat) {vs:List Value} {xss:List (List α)} {t:Value} {xs:List α} {k:Nat} (hj:L[j]? = some (Rlf r vs xss)) (hl:Lent [] L (Sl r t xs)) (h:J c n σ M (L.set j (Rlf r (vs.set k t) (xss.set k xs))) G):J c n σ M L G:=fun a w s t'=>h a w s (by
 obtain⟨ho,F,hF,hL⟩:=t'
 refine⟨ho,F,hF,fun f hf=> ?_⟩
 rcases List.mem_or_eq_of_mem_set hf with hf|rfl
 ·exact hL f hf
 ·obtain⟨h1,h2⟩:=hL _ (List.mem_of_getElem? hj)
  refine⟨by simp[h1],fun i v ys hv hy=> ?_⟩
  by_cases e:k=i
  ·subst e
   have h3:=getElem?_lt hv
   have h4:=getElem?_lt hy
   rw[List.getElem?_set_self (by simpa using h3)]at hv
   rw[List.getElem?_set_self (by simpa using h4)]at hy
   cases hv;cases hy
   exact hl w (Free c F) (fun _ _=>False) (Free c F) hL (fun i m hm=>by simp at hm) (fun _ h=>h) (fun _ _ h=>h.elim)
  ·rw[List.getElem?_set_ne e]at hv hy
   exact h2 i v ys hv hy)
theorem J.storeRl [Tab P] (j q:Nat) {T:TypeId} {s2:Nat} {z:Value} {dT:TypeDesc} {x y:Operand} {v u:Value} {i:Int} {vs:List Value} {xss:List (List α)} (h:0<=i∧i<xss.length) (hx:ev σ x=some (elq v (i.toNat*1))) (hy:ev σ y=some u)
  (hf:M[j]? = some (Ar Enc.raw v vs)) (hr:L[q]? = some (Rlf r vs xss)) (h1u:one u=true) (hT:Tab.tab P T=some ⟨dT,1,s2,z⟩)
  (hh:J c n σ (M.set j (Ar Enc.raw v (vs.set i.toNat u))) L (wpList P ops Q rest)):
  J c n σ M L (wpList P ops Q (⟨none,.store T x y,ty,pos,aft,none⟩::rest)):=fun a w s t=>by
 have hlen:vs.length=xss.length:=by obtain⟨_,F,_,hL⟩:=t;exact(hL _ (List.mem_of_getElem? hr)).1
 exact J.storeA j u hx hy rfl h1u hf hT rfl h.1 (by omega) hh a w s t
theorem Lent.rowsL {i j:Nat} {v:Value} {vs:List Value} {xss:List (List α)} (hi:M[i]? = some (Ar Enc.raw v vs)) (hj:L[j]? = some (Rlf r vs xss)):Lent M L (S2 r v (vs.zip xss) xss):=fun w S T U hL hM hS hT=>by
 have hA:=hM i _ hi
 obtain⟨hlen,hR⟩:=hL _ (List.mem_of_getElem? hj)
 refine⟨?_,by rw[List.map_snd_zip];omega⟩
 have hz:(vs.zip xss).length=vs.length:=by simp[hlen]
 have hA':ArR Enc.raw w (T i) v vs:=hA
 have hA2:=hA'
 obtain⟨hl,_,hh⟩:=hA'
 rcases hh with⟨rfl,rfl⟩|⟨b,off,cap,T',cur,rfl,hFb,hb,hk,hc,ht⟩
 ·exact⟨none,0,rfl,by simp,.inl rfl⟩
 ·refine⟨_,cap,by rw[hz],by rw[hz];omega,.inr ⟨b,off,rfl,hT i _ hFb,fun q x hx=> ?_⟩⟩
  have hv:vs[q]? = some x.1:=by rw[List.getElem?_zip_eq_some]at hx;exact hx.1
  have hxx:xss[q]? = some x.2:=by rw[List.getElem?_zip_eq_some]at hx;exact hx.2
  refine⟨[x.1],fun jj u hu=> ?_,rfl,?_⟩
  ·have:=ArR.cell hA2 hv (j:=jj) (u:=u) hu
   simp only[elA,add_none]at this
   exact this
  ·exact(Sl r x.1 x.2).mono (hR q _ _ hv hxx) (fun k hk _=>⟨hS k hk,rfl⟩)
def Onef (v:Value):Fact:=⟨fun _ _=>Go.Sx.one v=true,fun h _=>h⟩
theorem Know.onef {v:Value} (j:Nat) (hj:L[j]? = some (Onef v)):∀c w,St c M L w->Go.Sx.one v=true:=fun c w t=>by
 obtain⟨_,F,_,hL⟩:=t
 exact hL _ (List.mem_of_getElem? hj)
theorem beqB (a b:ByteArray):(a==b)=decide (a=b):=by
 obtain⟨x⟩:=a
 obtain⟨y⟩:=b
 have:((⟨x⟩:ByteArray)==⟨y⟩)=(x==y):=rfl
 rw[this]
 by_cases h:x=y<;>simp[h]
def bEq (a b:ByteArray):Bool:=a.toList==b.toList
theorem guard_str {op:BinOp} {t:TypeId} {x y:Operand} {a b:ByteArray} {w:World}:(eqGuard op t x y (.string a) (.string b)).run P w = .ok () w:=by
 unfold eqGuard;cases op<;>simp
theorem Y.eqlS {t t':TypeId} {x y:Operand} {a b:ByteArray} (hx:ev σ x=some (.string a)) (hy:ev σ y=some (.string b)):Y P c n σ M L ⟨d,.binOp .eql t x y t',ty,pos,aft,g⟩ (.bool (bEq a b)):=fun ac w s _=>by
 simp[execOp,s.eval hx,s.eval hy,binOp,Op.stringOp,guard_str,bEq]
end
end Go.Sx
end
