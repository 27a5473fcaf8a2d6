/- Models and proofs. Conditions: none. -/
import Derived.Test.YthnplbmmlbnelaaGreatZCLy6
import Derived.Test.YthnplbmmlbnelaaGreatZCLy1
import Derived.RecoverIn
import Derived.DefersIn
import Derived.Lib.Bytealg
import Derived.Test.YthnplbmmlbnelaaGreatZCLy2
import Derived.Test.YthnplbmmlbnelaaGreatZCLy5
import Derived.Test.YthnplbmmlbnelaaGreatZCLy4
set_option linter.unusedVariables false
set_option linter.unusedSimpArgs false
set_option maxHeartbeats 4000000
set_option maxRecDepth 20000
section
set_option maxRecDepth 100000
namespace Go.Gx
open Go Go.Sx Go.Proofs
noncomputable section
abbrev y:=vH
def gB (f:Func) (c:CH) (_:QH) (us:List GV) (H:GH):RS:=MZ y c (fun _ _ _ _=>none) f us H
def Na (f:Func) (i:Nat) (c:CH) (q:QH) (us:List GV) (H:GH):RS:=MZ y c (fun _ _ vs H=>q i vs H) f us H
def gL (e:Code×Cx) (i:Nat) (c:CH) (q:QH) (us:List GV) (H:GH):RS:=UC y c (fun _ _ vs H=>q i vs H) e.1 e.2 us H
def gD (e:Code×Cx) (i:Nat):(Code×Cx)×f_:=(e,gL e i)
def Vv (c:Code):Nat:=match c with|.region n _ _=>n | .seq a _=>Vv a | .block _ a=>Vv a | .loop a=>Vv a|_=>0
def sel (l:Dj) (n:Nat):Nat:=List.rec (motive:=fun _=>Nat) 0 (fun p _ ih=>bif Nat.beq p.1 n then p.2 else ih) l
def Wc (f:Func) (l:Dj) (c:CH) (q:QH) (us:List GV) (H:GH):RS:=MZ y c (fun b _ vs H=>q (sel l (Vv b)) vs H) f us H
def NE (e:Code×Cx) (l:Dj):(Code×Cx)×f_:=(e,fun c q us H=>UC y c (fun b _ vs H=>q (sel l (Vv b)) vs H) e.1 e.2 us H)
def i (n:Nat):GV:= .int .i64 (.ofNat n)
def bC (q:Bool) (f t:RS):RS:=Bool.casesOn (motive:=fun _=>RS) q f t
def K (c:CH) (f:Nat) (us:List GV) (H:GH) (k:GV->GH->RS):RS:=eD (c f us H) k
def bn (op:BinOp) (T:Nat) (v u:GV) (k:GV->RS):RS:=ob (yP y op T v u) k
def ld (T:Nat) (v:GV) (H:GH) (k:GV->RS):RS:=ob (tJ y T v H) k
def fd (T n:Nat) (v:GV) (k:GV->RS):RS:=ob (Az y T n v) k
def ix (T:Nat) (v u:GV) (k:GV->RS):RS:=ob (Li y T v u) k
def ln (T:Nat) (v:GV) (k:GV->RS):RS:=ob (Lj y T v) k
def ex (n:Nat) (v:GV) (k:GV->RS):RS:=ob (Ut n v) k
def bd (T:Nat) (l:List (Nat×GV)) (k:GV->RS):RS:=ob (Lg y T l) k
theorem rN {α:Type} {f n:Nat} {x y:Option α} {e:α} {R:Prop} (hx:x=some e->R) (hy:y=some e->R):tN f n x y=some e->R:=by
 unfold tN
 cases Nat.blt f n
 ·exact hy
 ·exact hx
theorem rL {α:Type} {f n:Nat} {x e:α} {R:Nat->α->Prop} (h:R n x):tL f n x=some e->R f e:=by
 intro he
 unfold tL at he
 cases hb:Nat.beq f n with
 |false=>rw[hb]at he;cases he
 |true=>rw[hb]at he;cases he;rw[Nat.eq_of_beq_eq_true hb];exact h
def s7:Dj:=[(10,0),(17,1)]
def We:Dj:=[(4,3),(9,4),(15,5)]
def Vy:Dj:=[(6,6),(16,7),(26,8),(31,9)]
def YT (c:CH) (ql:QH) (us:List GV) (H:GH):RS:=U1 us fun x1=>
 eD (Dk x1 H) fun t2 h3=>
 ld 25 t2 h3 fun t4=>
 K c 50 [t4] h3 fun t5 h6=>
 bn .eql 30 t5 (i 0) fun t7=>
 oR [t7] h6
def YU (c:CH) (ql:QH) (us:List GV) (H:GH):RS:=U2 us fun x1 x2=>
 eD (Dk x1 H) fun t3 h4=>
 eD (Dk x2 h4) fun t5 h6=>
 fd 25 1 t3 fun t7=>
 ld 22 t7 h6 fun t8=>
 K c 56 [t8,(.fn 57 [] [t5])] h6 fun t9 h10=>
 oR [t9] h10
def YV (c:CH) (ql:QH) (us:List GV) (H:GH):RS:=U2 us fun x1 x2=>
 K c 58 [x1,x2] H fun t3 h4=>
 bn .geq 3 t3 (i 0) fun t5=>
 oR [t5] h4
def YW (c:CH) (ql:QH) (us:List GV) (H:GH):RS:=U2 us fun x1 x2=>
 eD (Dk x1 H) fun t3 h4=>
 eD (Dk x2 h4) fun t5 h6=>
 fd 25 2 t3 fun t7=>
 ld 23 t7 h6 fun t8=>
 K c 59 [t8,(.fn 60 [] [t5])] h6 fun t9 h10=>
 oR [t9] h10
def YX (c:CH) (ql:QH) (us:List GV) (H:GH):RS:=U2 us fun x1 x2=>
 ln 39 x1 fun t3=>
 bn .gtr 3 t3 (i 200) fun t4=>
 eD (rG t4 false H (some (x1,H))) fun t5 h6=>
 eD (rG t4 false h6 (eD (c 64 [t5,(i 0)] h6) BN)) fun t7 h8=>
 eD (rG t4 false h8 (some (x1,h8))) fun t9 h10=>
 eD (rG t4 false h10 (ob (Lj y 39 t9) fun g11=>some (g11,h10))) fun t12 h13=>
 eD (rG t4 false h13 (ob (yP y .neq 3 t7 t12) fun g14=>some (g14,h13))) fun t15 h16=>
 ob (mV t4 (.bool true) t15) fun t17=>
 ob (GV.asB t17) fun q18=>jn (bC q18 (oN [x1,x2] h16) (oR [(.bool false)] h16)) fun vs19 h20=>U2 vs19 fun a21 a22=>ln 39 a21 fun t23=>
 jn (nB 0 (ql 15 [a21,a22,a21,t23,(i 0)] h20)) fun vs24 h25=>U1 vs24 fun a26=>K c 66 [a26] h25 fun t27 h28=>
 bn .leq 3 t27 (i 24) fun t29=>
 eD (rG t29 true h28 (some (a26,h28))) fun t30 h31=>
 eD (rG t29 true h31 (eD (c 67 [t30] h31) BN)) fun t32 h33=>
 eD (rG t29 true h33 (ob (yP y .leq 3 t32 (i 2)) fun g34=>some (g34,h33))) fun t35 h36=>
 ob (mV t29 t35 (.bool false)) fun t37=>
 oR [t37] h36
def Zt (c:CH) (ql:QH) (us:List GV) (H:GH):RS:=U5 us fun a38 a39 a40 a41 a42=>jn (bn .lss 3 a42 a41 fun t43=>
 ob (GV.asB t43) fun q44=>jn (bC q44 (oX 0 [a38] H) (oN [a38,a39,a40,a41,a42] H)) fun vs45 h46=>U5 vs45 fun a47 a48 a49 a50 a51=>jn (nB 1 (ix 39 a49 a51 fun t52=>
 ld 84 t52 h46 fun t53=>
 eD (oO y 84 h46) fun t54 h55=>
 eD (qG y 84 t54 t53 h55) fun t56 h57=>
 ld 84 t54 h57 fun t58=>
 K c 65 [t58,a48] h57 fun t59 h60=>
 ob (NA .not t59) fun t61=>
 ob (GV.asB t61) fun q62=>jn (bC q62 (oN [a47,a48,a49,a50,a51] h60) (oR [(.bool false)] h60)) fun vs63 h64=>U5 vs63 fun a65 a66 a67 a68 a69=>oN [a65,a66,a67,a68,a69] h64)) fun vs70 h71=>U5 vs70 fun a72 a73 a74 a75 a76=>bn .add 3 a76 (i 1) fun t77=>
 oN [a72,a73,a74,a75,t77] h71) (ql 15)
def Wg:Dj:=[(6,16),(12,17),(19,18)]
def YY (c:CH) (ql:QH) (us:List GV) (H:GH):RS:=U2 us fun x1 x2=>
 ln 47 x2 fun t3=>
 K c 45 [x1,t3] H fun t4 h5=>
 ob (NA .not t4) fun t6=>
 ob (GV.asB t6) fun q7=>jn (bC q7 (oN [x1,x2] h5) (oR [.snil,(i 7)] h5)) fun vs8 h9=>U2 vs8 fun a10 a11=>ln 47 a11 fun t12=>
 jn (nB 0 (ql 19 [a10,a11,a11,t12,(i 0)] h9)) fun vs13 h14=>U2 vs13 fun a15 a16=>ln 39 a15 fun t17=>
 eD (JN y 39 t17 t17 h14) fun t18 h19=>
 eD (PY y 39 t18 a15 h19) fun t20 h21=>
 ln 39 t18 fun t22=>
 jn (nB 2 (ql 20 [a16,t18,t18,t22,(i 0)] h21)) fun vs23 h24=>U1 vs23 fun a25=>oR [a25,(i 0)] h24
def Zu (c:CH) (ql:QH) (us:List GV) (H:GH):RS:=U5 us fun a26 a27 a28 a29 a30=>jn (bn .lss 3 a30 a29 fun t31=>
 ob (GV.asB t31) fun q32=>jn (bC q32 (oX 0 [a26,a27] H) (oN [a26,a27,a28,a29,a30] H)) fun vs33 h34=>U5 vs33 fun a35 a36 a37 a38 a39=>jn (nB 1 (ix 47 a37 a39 fun t40=>
 ld 3 t40 h34 fun t41=>
 bn .lss 3 t41 (i 0) fun t42=>
 eD (rG t42 false h34 (some (t41,h34))) fun t43 h44=>
 eD (rG t42 false h44 (ob (yP y .geq 3 t43 (i 6)) fun g45=>some (g45,h44))) fun t46 h47=>
 ob (mV t42 (.bool true) t46) fun t48=>
 ob (GV.asB t48) fun q49=>jn (bC q49 (oN [a35,a36,a37,a38,a39] h47) (oR [.snil,(i 2)] h47)) fun vs50 h51=>U5 vs50 fun a52 a53 a54 a55 a56=>oN [a52,a53,a54,a55,a56] h51)) fun vs57 h58=>U5 vs57 fun a59 a60 a61 a62 a63=>bn .add 3 a63 (i 1) fun t64=>
 oN [a59,a60,a61,a62,t64] h58) (ql 19)
def Zv (c:CH) (ql:QH) (us:List GV) (H:GH):RS:=U5 us fun a65 a66 a67 a68 a69=>jn (bn .lss 3 a69 a68 fun t70=>
 ob (GV.asB t70) fun q71=>jn (bC q71 (oX 2 [a66] H) (oN [a65,a66,a67,a68,a69] H)) fun vs72 h73=>U5 vs72 fun a74 a75 a76 a77 a78=>jn (nB 3 (ix 39 a76 a78 fun t79=>
 ld 84 t79 h73 fun t80=>
 eD (oO y 84 h73) fun t81 h82=>
 eD (qG y 84 t81 t80 h82) fun t83 h84=>
 fd 84 0 t81 fun t85=>
 ld 3 t85 h84 fun t86=>
 bn .eql 3 t86 (i 5) fun t87=>
 eD (rG t87 false h84 (ob (Az y 84 0 t81) fun g88=>some (g88,h84))) fun t89 h90=>
 eD (rG t87 false h90 (ob (tJ y 3 t89 h90) fun g91=>some (g91,h90))) fun t92 h93=>
 eD (rG t87 false h93 (ob (yP y .eql 3 t92 (i 12)) fun g94=>some (g94,h93))) fun t95 h96=>
 ob (mV t87 (.bool true) t95) fun t97=>
 ob (GV.asB t97) fun q98=>jn (bC q98 (oN [a74,a75,a76,a77,a78] h96) (fd 84 1 t81 fun t99=>
 ld 3 t99 h96 fun t100=>
 ix 47 a74 t100 fun t101=>
 ld 3 t101 h96 fun t102=>
 ix 39 a75 a78 fun t103=>
 fd 84 1 t103 fun t104=>
 eD (qG y 3 t104 t102 h96) fun t105 h106=>
 oN [a74,a75,a76,a77,a78] h106)) fun vs107 h108=>U5 vs107 fun a109 a110 a111 a112 a113=>oN [a109,a110,a111,a112,a113] h108)) fun vs114 h115=>U5 vs114 fun a116 a117 a118 a119 a120=>bn .add 3 a120 (i 1) fun t121=>
 oN [a116,a117,a118,a119,t121] h115) (ql 20)
def YZ (c:CH) (ql:QH) (us:List GV) (H:GH):RS:=U2 us fun x1 x2=>
 ln 22 x1 fun t3=>
 jn (nB 0 (ql 22 [x1,x2,t3,(i 0)] H)) fun vs4 h5=>U0 vs4 (oR [(.int .i64 (.negSucc 0))] h5)
def Zw (c:CH) (ql:QH) (us:List GV) (H:GH):RS:=U4 us fun a6 a7 a8 a9=>jn (bn .lss 3 a9 a8 fun t10=>
 ob (GV.asB t10) fun q11=>jn (bC q11 (oX 0 [] H) (oN [a6,a7,a8,a9] H)) fun vs12 h13=>U4 vs12 fun a14 a15 a16 a17=>jn (nB 1 (ix 22 a14 a17 fun t18=>
 ld 49 t18 h13 fun t19=>
 ob (GV.asF a15) fun p22=>eD (c p22.1 (p22.2.1++[t19]++p22.2.2) h13) fun t20 h21=>
 ob (GV.asB t20) fun q23=>jn (bC q23 (oN [a14,a15,a16,a17] h21) (oR [a17] h21)) fun vs24 h25=>U4 vs24 fun a26 a27 a28 a29=>oN [a26,a27,a28,a29] h25)) fun vs30 h31=>U4 vs30 fun a32 a33 a34 a35=>bn .add 3 a35 (i 1) fun t36=>
 oN [a32,a33,a34,t36] h31) (ql 22)
def Y_ (c:CH) (ql:QH) (us:List GV) (H:GH):RS:=U2 us fun x1 x2=>
 eD (Dk x1 H) fun t3 h4=>
 fd 49 0 t3 fun t5=>
 ld 9 t5 h4 fun t6=>
 ld 9 x2 h4 fun t7=>
 bn .eql 9 t6 t7 fun t8=>
 oR [t8] h4
def Za (c:CH) (ql:QH) (us:List GV) (H:GH):RS:=U2 us fun x1 x2=>
 ln 40 x1 fun t3=>
 jn (nB 0 (ql 23 [x1,x2,t3,(i 0)] H)) fun vs4 h5=>U0 vs4 (oR [(.int .i64 (.negSucc 0))] h5)
def Zx (c:CH) (ql:QH) (us:List GV) (H:GH):RS:=U4 us fun a6 a7 a8 a9=>jn (bn .lss 3 a9 a8 fun t10=>
 ob (GV.asB t10) fun q11=>jn (bC q11 (oX 0 [] H) (oN [a6,a7,a8,a9] H)) fun vs12 h13=>U4 vs12 fun a14 a15 a16 a17=>jn (nB 1 (ix 40 a14 a17 fun t18=>
 ld 44 t18 h13 fun t19=>
 ob (GV.asF a15) fun p22=>eD (c p22.1 (p22.2.1++[t19]++p22.2.2) h13) fun t20 h21=>
 ob (GV.asB t20) fun q23=>jn (bC q23 (oN [a14,a15,a16,a17] h21) (oR [a17] h21)) fun vs24 h25=>U4 vs24 fun a26 a27 a28 a29=>oN [a26,a27,a28,a29] h25)) fun vs30 h31=>U4 vs30 fun a32 a33 a34 a35=>bn .add 3 a35 (i 1) fun t36=>
 oN [a32,a33,a34,t36] h31) (ql 23)
def Zb (c:CH) (ql:QH) (us:List GV) (H:GH):RS:=U2 us fun x1 x2=>
 K c 85 [x1,x2] H fun t3 h4=>
 bn .geq 3 t3 (i 0) fun t5=>
 oR [t5] h4
def Zc (c:CH) (ql:QH) (us:List GV) (H:GH):RS:=U2 us fun x1 x2=>
 eD (Dk x1 H) fun t3 h4=>
 fd 25 2 x2 fun t5=>
 ld 23 t5 h4 fun t6=>
 K c 59 [t6,(.fn 61 [] [t3])] h4 fun t7 h8=>
 oR [t7] h8
def Zd (c:CH) (ql:QH) (us:List GV) (H:GH):RS:=U2 us fun x1 x2=>
 eD (Dk x1 H) fun t3 h4=>
 fd 42 0 x2 fun t5=>
 ld 9 t5 h4 fun t6=>
 fd 42 0 t3 fun t7=>
 ld 9 t7 h4 fun t8=>
 bn .eql 9 t6 t8 fun t9=>
 oR [t9] h4
def Ze (c:CH) (ql:QH) (us:List GV) (H:GH):RS:=U2 us fun x1 x2=>
 bn .lss 3 x2 (i 0) fun t3=>
 eD (rG t3 false H (some (x2,H))) fun t4 h5=>
 eD (rG t3 false h5 (some (x1,h5))) fun t6 h7=>
 eD (rG t3 false h7 (ob (Lj y 39 t6) fun g8=>some (g8,h7))) fun t9 h10=>
 eD (rG t3 false h10 (ob (yP y .geq 3 t4 t9) fun g11=>some (g11,h10))) fun t12 h13=>
 ob (mV t3 (.bool true) t12) fun t14=>
 ob (GV.asB t14) fun q15=>jn (bC q15 (oN [x1,x2] h13) (oR [(.int .i64 (.negSucc 0))] h13)) fun vs16 h17=>U2 vs16 fun a18 a19=>jn (nB 0 (ql 24 [a18,a19,(i 1)] h17)) fun vs20 h21=>U0 vs20 (oR [(.int .i64 (.negSucc 0))] h21)
def Zy (c:CH) (ql:QH) (us:List GV) (H:GH):RS:=U3 us fun a22 a23 a24=>jn (ln 39 a22 fun t25=>
 bn .lss 3 a23 t25 fun t26=>
 ob (GV.asB t26) fun q27=>jn (bC q27 (oX 0 [] H) (oN [a22,a23,a24] H)) fun vs28 h29=>U3 vs28 fun a30 a31 a32=>jn (nB 1 (ix 39 a30 a31 fun t33=>
 fd 84 0 t33 fun t34=>
 ld 3 t34 h29 fun t35=>
 K c 87 [t35] h29 fun t36 h37=>
 bn .lss 3 t36 (i 0) fun t38=>
 ob (GV.asB t38) fun q39=>jn (bC q39 (oN [a30,a31,a32,t36] h37) (oR [(.int .i64 (.negSucc 0))] h37)) fun vs40 h41=>U4 vs40 fun a42 a43 a44 a45=>bn .sub 3 a45 (i 1) fun t46=>
 bn .add 3 a44 t46 fun t47=>
 bn .eql 3 t47 (i 0) fun t48=>
 ob (GV.asB t48) fun q49=>jn (bC q49 (oN [a42,a43,t47] h41) (bn .add 3 a43 (i 1) fun t50=>
 oR [t50] h41)) fun vs51 h52=>U3 vs51 fun a53 a54 a55=>oN [a53,a54,a55] h52)) fun vs56 h57=>U3 vs56 fun a58 a59 a60=>bn .add 3 a59 (i 1) fun t61=>
 oN [a58,t61,a60] h57) (ql 24)
def Zf (c:CH) (ql:QH) (us:List GV) (H:GH):RS:=U2 us fun x1 x2=>
 eD (Dk x1 H) fun t3 h4=>
 fd 84 0 t3 fun t5=>
 ld 3 t5 h4 fun t6=>
 jn (nB 0 (bn .eql 3 t6 (i 1) fun t7=>
 ob (GV.asB t7) fun q8=>jn (bC q8 (bn .eql 3 t6 (i 5) fun t22=>
 ob (GV.asB t22) fun q23=>jn (bC q23 (bn .eql 3 t6 (i 12) fun t24=>
 oN [x2,t3,t24] h4) (oN [x2,t3,t22] h4)) fun vs25 h26=>U3 vs25 fun a27 a28 a29=>ob (GV.asB a29) fun q30=>jn (bC q30 (oN [a28] h26) (fd 84 1 a28 fun t31=>
 ld 3 t31 h26 fun t32=>
 bn .geq 3 t32 (i 0) fun t33=>
 eD (rG t33 true h26 (ob (Az y 84 1 a28) fun g34=>some (g34,h26))) fun t35 h36=>
 eD (rG t33 true h36 (ob (tJ y 3 t35 h36) fun g37=>some (g37,h36))) fun t38 h39=>
 eD (rG t33 true h39 (some (a27,h39))) fun t40 h41=>
 eD (rG t33 true h41 (ob (yP y .lss 3 t38 t40) fun g42=>some (g42,h41))) fun t43 h44=>
 ob (mV t33 t43 (.bool false)) fun t45=>
 oR [t45] h44)) fun vs46 h47=>U1 vs46 fun a48=>oN [a48] h47) (fd 84 1 t3 fun t9=>
 ld 3 t9 h4 fun t10=>
 bn .geq 3 t10 (i 0) fun t11=>
 eD (rG t11 true h4 (ob (Az y 84 1 t3) fun g12=>some (g12,h4))) fun t13 h14=>
 eD (rG t11 true h14 (ob (tJ y 3 t13 h14) fun g15=>some (g15,h14))) fun t16 h17=>
 eD (rG t11 true h17 (ob (yP y .leq 3 t16 (i 1073741824)) fun g18=>some (g18,h17))) fun t19 h20=>
 ob (mV t11 t19 (.bool false)) fun t21=>
 oR [t21] h20)) fun vs49 h50=>U1 vs49 fun a51=>oN [a51] h50)) fun vs52 h53=>U1 vs52 fun a54=>fd 84 1 a54 fun t55=>
 ld 3 t55 h53 fun t56=>
 bn .eql 3 t56 (i 0) fun t57=>
 oR [t57] h53
def Zg (c:CH) (ql:QH) (us:List GV) (H:GH):RS:=U1 us fun x1=>
 K c 88 [x1,(.fn 89 [] [])] H fun t2 h3=>
 ex 0 t2 fun t4=>
 ex 1 t2 fun t5=>
 oR [t4] h3
def Zh (c:CH) (ql:QH) (us:List GV) (H:GH):RS:=U1 us fun x1=>
 K c 88 [x1,(.fn 90 [] [])] H fun t2 h3=>
 ex 0 t2 fun t4=>
 ex 1 t2 fun t5=>
 oR [t4] h3
def Zi (c:CH) (ql:QH) (us:List GV) (H:GH):RS:=U1 us fun x1=>
 ln 9 x1 fun t2=>
 bn .gtr 3 t2 (i 16384) fun t3=>
 ob (GV.asB t3) fun q4=>jn (bC q4 (oN [x1] H) (oR [.snil,(i 0),(i 3)] H)) fun vs5 h6=>U1 vs5 fun a7=>K c 95 [a7,(i 0)] h6 fun t8 h9=>
 jn (nB 0 (ql 25 [a7,.snil,t8] h9)) fun vs10 h11=>U1 vs10 fun a12=>oR [a12,(i 0),(i 0)] h11
def Zz (c:CH) (ql:QH) (us:List GV) (H:GH):RS:=U3 us fun a13 a14 a15=>jn (ln 9 a13 fun t16=>
 bn .lss 3 a15 t16 fun t17=>
 ob (GV.asB t17) fun q18=>jn (bC q18 (oX 0 [a14] H) (oN [a13,a14,a15] H)) fun vs19 h20=>U3 vs19 fun a21 a22 a23=>jn (nB 1 (ln 98 a22 fun t24=>
 bn .eql 3 t24 (i 4096) fun t25=>
 ob (GV.asB t25) fun q26=>jn (bC q26 (oN [a21,a22,a23] h20) (oR [.snil,a23,(i 3)] h20)) fun vs27 h28=>U3 vs27 fun a29 a30 a31=>K c 96 [a29,a31] h28 fun t32 h33=>
 ex 0 t32 fun t34=>
 ex 1 t32 fun t35=>
 eD (oO y 123 h33) fun t36 h37=>
 eD (qG y 123 t36 t34 h37) fun t38 h39=>
 bn .neq 30 t35 (i 0) fun t40=>
 ob (GV.asB t40) fun q41=>jn (bC q41 (oN [a29,a30,t36] h39) (oR [.snil,a31,t35] h39)) fun vs42 h43=>U3 vs42 fun a44 a45 a46=>ld 123 a46 h43 fun t47=>
 eD (x_ y 98 1 [(0,t47)] h43) fun t48 h49=>
 eD (Nw y 98 98 a45 t48 h49) fun t50 h51=>
 fd 123 2 a46 fun t52=>
 ld 3 t52 h51 fun t53=>
 K c 95 [a44,t53] h51 fun t54 h55=>
 oN [a44,t50,t54] h55)) fun vs56 h57=>U3 vs56 fun a58 a59 a60=>oN [a58,a59,a60] h57) (ql 25)
def Zj (c:CH) (ql:QH) (us:List GV) (H:GH):RS:=U1 us fun x1=>
 eD (Dk x1 H) fun t2 h3=>
 fd 25 0 t2 fun t4=>
 ld 9 t4 h3 fun t5=>
 K c 106 [t5] h3 fun t6 h7=>
 ob (NA .not t6) fun t8=>
 ob (GV.asB t8) fun q9=>jn (bC q9 (oN [t2] h7) (oR [(.bool false)] h7)) fun vs10 h11=>U1 vs10 fun a12=>eD (zY h11) fun t13 h14=>
 fd 25 1 a12 fun t15=>
 ld 22 t15 h14 fun t16=>
 ln 22 t16 fun t17=>
 jn (nB 0 (ql 26 [a12,t13,t16,t17,(i 0)] h14)) fun vs18 h19=>U1 vs18 fun a20=>eD (zY h19) fun t21 h22=>
 fd 25 2 a20 fun t23=>
 ld 23 t23 h22 fun t24=>
 ln 23 t24 fun t25=>
 jn (nB 2 (ql 27 [t21,t24,t25,(i 0)] h22)) fun vs26 h27=>U0 vs26 (oR [(.bool true)] h27)
def ZA (c:CH) (ql:QH) (us:List GV) (H:GH):RS:=U5 us fun a28 a29 a30 a31 a32=>jn (bn .lss 3 a32 a31 fun t33=>
 ob (GV.asB t33) fun q34=>jn (bC q34 (oX 0 [a28] H) (oN [a28,a29,a30,a31,a32] H)) fun vs35 h36=>U5 vs35 fun a37 a38 a39 a40 a41=>jn (nB 1 (ix 22 a39 a41 fun t42=>
 ld 49 t42 h36 fun t43=>
 eD (oO y 49 h36) fun t44 h45=>
 eD (qG y 49 t44 t43 h45) fun t46 h47=>
 fd 49 0 t44 fun t48=>
 ld 9 t48 h47 fun t49=>
 K c 106 [t49] h47 fun t50 h51=>
 ob (NA .not t50) fun t52=>
 eD (rG t52 false h51 (some (a38,h51))) fun t53 h54=>
 eD (rG t52 false h54 (ob (Az y 49 0 t44) fun g55=>some (g55,h54))) fun t56 h57=>
 eD (rG t52 false h57 (ob (tJ y 9 t56 h57) fun g58=>some (g58,h57))) fun t59 h60=>
 eD (rG t52 false h60 (ob (My y 135 false t53 t59 h60) fun g61=>some (g61,h60))) fun t62 h63=>
 ob (mV t52 (.bool true) t62) fun t64=>
 ob (GV.asB t64) fun q65=>jn (bC q65 (oN [a37,a38,t44,a39,a40,a41] h63) (oR [(.bool false)] h63)) fun vs66 h67=>U6 vs66 fun a68 a69 a70 a71 a72 a73=>fd 49 0 a70 fun t74=>
 ld 9 t74 h67 fun t75=>
 eD (IC y 135 a69 t75 (.bool true) h67) fun t76 h77=>
 oN [a68,a69,a71,a72,a73] h77)) fun vs78 h79=>U5 vs78 fun a80 a81 a82 a83 a84=>bn .add 3 a84 (i 1) fun t85=>
 oN [a80,a81,a82,a83,t85] h79) (ql 26)
def ZB (c:CH) (ql:QH) (us:List GV) (H:GH):RS:=U4 us fun a86 a87 a88 a89=>jn (bn .lss 3 a89 a88 fun t90=>
 ob (GV.asB t90) fun q91=>jn (bC q91 (oX 2 [] H) (oN [a86,a87,a88,a89] H)) fun vs92 h93=>U4 vs92 fun a94 a95 a96 a97=>jn (nB 3 (ix 23 a95 a97 fun t98=>
 ld 42 t98 h93 fun t99=>
 eD (oO y 42 h93) fun t100 h101=>
 eD (qG y 42 t100 t99 h101) fun t102 h103=>
 fd 42 0 t100 fun t104=>
 ld 9 t104 h103 fun t105=>
 K c 106 [t105] h103 fun t106 h107=>
 ob (NA .not t106) fun t108=>
 eD (rG t108 false h107 (some (a94,h107))) fun t109 h110=>
 eD (rG t108 false h110 (ob (Az y 42 0 t100) fun g111=>some (g111,h110))) fun t112 h113=>
 eD (rG t108 false h113 (ob (tJ y 9 t112 h113) fun g114=>some (g114,h113))) fun t115 h116=>
 eD (rG t108 false h116 (ob (My y 135 false t109 t115 h116) fun g117=>some (g117,h116))) fun t118 h119=>
 ob (mV t108 (.bool true) t118) fun t120=>
 ob (GV.asB t120) fun q121=>jn (bC q121 (oN [a94,t100,a95,a96,a97] h119) (oR [(.bool false)] h119)) fun vs122 h123=>U5 vs122 fun a124 a125 a126 a127 a128=>fd 42 0 a125 fun t129=>
 ld 9 t129 h123 fun t130=>
 eD (IC y 135 a124 t130 (.bool true) h123) fun t131 h132=>
 oN [a124,a126,a127,a128] h132)) fun vs133 h134=>U4 vs133 fun a135 a136 a137 a138=>bn .add 3 a138 (i 1) fun t139=>
 oN [a135,a136,a137,t139] h134) (ql 27)
def Zk (c:CH) (ql:QH) (us:List GV) (H:GH):RS:=U2 us fun x1 x2=>
 ln 23 x1 fun t3=>
 jn (nB 0 (ql 31 [x1,x2,t3,(i 0)] H)) fun vs4 h5=>U0 vs4 (oR [(.int .i64 (.negSucc 0))] h5)
def ZC (c:CH) (ql:QH) (us:List GV) (H:GH):RS:=U4 us fun a6 a7 a8 a9=>jn (bn .lss 3 a9 a8 fun t10=>
 ob (GV.asB t10) fun q11=>jn (bC q11 (oX 0 [] H) (oN [a6,a7,a8,a9] H)) fun vs12 h13=>U4 vs12 fun a14 a15 a16 a17=>jn (nB 1 (ix 23 a14 a17 fun t18=>
 ld 42 t18 h13 fun t19=>
 ob (GV.asF a15) fun p22=>eD (c p22.1 (p22.2.1++[t19]++p22.2.2) h13) fun t20 h21=>
 ob (GV.asB t20) fun q23=>jn (bC q23 (oN [a14,a15,a16,a17] h21) (oR [a17] h21)) fun vs24 h25=>U4 vs24 fun a26 a27 a28 a29=>oN [a26,a27,a28,a29] h25)) fun vs30 h31=>U4 vs30 fun a32 a33 a34 a35=>bn .add 3 a35 (i 1) fun t36=>
 oN [a32,a33,a34,t36] h31) (ql 31)
def Zl (c:CH) (ql:QH) (us:List GV) (H:GH):RS:=U1 us fun x1=>
 jn (nB 0 (bn .lss 3 x1 (i 1) fun t2=>
 eD (rG t2 false H (some (x1,H))) fun t3 h4=>
 eD (rG t2 false h4 (ob (yP y .gtr 3 t3 (i 43)) fun g5=>some (g5,h4))) fun t6 h7=>
 ob (mV t2 (.bool true) t6) fun t8=>
 ob (GV.asB t8) fun q9=>jn (bC q9 (bn .leq 3 x1 (i 17) fun t10=>
 ob (GV.asB t10) fun q11=>jn (bC q11 (bn .leq 3 x1 (i 29) fun t12=>
 ob (GV.asB t12) fun q13=>jn (bC q13 (bn .leq 3 x1 (i 42) fun t14=>
 ob (GV.asB t14) fun q15=>jn (bC q15 (oN [] h7) (oR [(i 2)] h7)) fun vs16 h17=>U0 vs16 (oN [] h17)) (oR [(i 1)] h7)) fun vs18 h19=>U0 vs18 (oN [] h19)) (oR [(i 0)] h7)) fun vs20 h21=>U0 vs20 (oN [] h21)) (oR [(.int .i64 (.negSucc 0))] h7)) fun vs22 h23=>U0 vs22 (oN [] h23))) fun vs24 h25=>U0 vs24 (oR [(i 3)] h25)
def Zm (c:CH) (ql:QH) (us:List GV) (H:GH):RS:=U2 us fun x1 x2=>
 K c 64 [x1,(i 0)] H fun t3 h4=>
 ln 39 x1 fun t5=>
 bn .neq 3 t3 t5 fun t6=>
 ob (GV.asB t6) fun q7=>jn (bC q7 (oN [x1,x2] h4) (oR [(i 0),(.bool false)] h4)) fun vs8 h9=>U2 vs8 fun a10 a11=>ln 39 a10 fun t12=>
 bn .sub 3 t12 (i 1) fun t13=>
 jn (nB 0 (ql 32 [a10,a11,.snil,t13] h9)) fun vs14 h15=>U1 vs14 fun a16=>ix 47 a16 (i 0) fun t17=>
 ld 3 t17 h15 fun t18=>
 oR [t18,(.bool true)] h15
def ZD (c:CH) (ql:QH) (us:List GV) (H:GH):RS:=U4 us fun a19 a20 a21 a22=>jn (bn .geq 3 a22 (i 0) fun t23=>
 ob (GV.asB t23) fun q24=>jn (bC q24 (oX 0 [a21] H) (oN [a19,a20,a21,a22] H)) fun vs25 h26=>U4 vs25 fun a27 a28 a29 a30=>jn (nB 1 (ln 47 a29 fun t31=>
 ix 39 a27 a30 fun t32=>
 fd 84 0 t32 fun t33=>
 ld 3 t33 h26 fun t34=>
 K c 87 [t34] h26 fun t35 h36=>
 bn .sub 3 t31 t35 fun t37=>
 ob (AA y 47 a29 (some t37) none h36) fun t38=>
 ln 47 t38 fun t39=>
 jn (nB 2 (ql 33 [a27,a28,a29,a30,t37,(i 0),t38,t39,(i 0)] h36)) fun vs40 h41=>U6 vs40 fun a42 a43 a44 a45 a46 a47=>ob (AA y 47 a44 none (some a46) h41) fun t48=>
 ix 39 a42 a45 fun t49=>
 fd 84 0 t49 fun t50=>
 ld 3 t50 h41 fun t51=>
 ob (GV.asF a43) fun p54=>eD (c p54.1 (p54.2.1++[t51,a47]++p54.2.2) h41) fun t52 h53=>
 eD (x_ y 47 1 [(0,t52)] h53) fun t55 h56=>
 eD (Nw y 47 47 t48 t55 h56) fun t57 h58=>
 oN [a42,a43,t57,a45] h58)) fun vs59 h60=>U4 vs59 fun a61 a62 a63 a64=>bn .sub 3 a64 (i 1) fun t65=>
 oN [a61,a62,a63,t65] h60) (ql 32)
def ZE (c:CH) (ql:QH) (us:List GV) (H:GH):RS:=U9 us fun a66 a67 a68 a69 a70 a71 a72 a73 a74=>jn (bn .lss 3 a74 a73 fun t75=>
 ob (GV.asB t75) fun q76=>jn (bC q76 (oX 2 [a66,a67,a68,a69,a70,a71] H) (oN [a66,a67,a68,a69,a70,a71,a72,a73,a74] H)) fun vs77 h78=>U9 vs77 fun a79 a80 a81 a82 a83 a84 a85 a86 a87=>jn (nB 3 (ix 47 a85 a87 fun t88=>
 ld 3 t88 h78 fun t89=>
 ob (Qb a84 t89) fun t90=>
 oN [a79,a80,a81,a82,a83,t90,a85,a86,a87] h78)) fun vs91 h92=>U9 vs91 fun a93 a94 a95 a96 a97 a98 a99 a100 a101=>bn .add 3 a101 (i 1) fun t102=>
 oN [a93,a94,a95,a96,a97,a98,a99,a100,t102] h92) (ql 33)
def Zn (c:CH) (ql:QH) (us:List GV) (H:GH):RS:=U2 us fun x1 x2=>
 bn .add 3 x2 (i 1) fun t3=>
 oR [t3] H
def Zo (c:CH) (ql:QH) (us:List GV) (H:GH):RS:=U2 us fun x1 x2=>
 K c 91 [x1] H fun t3 h4=>
 ob (GV.asB t3) fun q5=>jn (bC q5 (oN [x2] h4) (bn .add 3 x2 (i 1) fun t6=>
 oR [t6] h4)) fun vs7 h8=>U1 vs7 fun a9=>oR [a9] h8
def Zp (c:CH) (ql:QH) (us:List GV) (H:GH):RS:=U1 us fun x1=>
 bn .geq 3 x1 (i 20) fun t2=>
 eD (rG t2 true H (some (x1,H))) fun t3 h4=>
 eD (rG t2 true h4 (ob (yP y .leq 3 t3 (i 29)) fun g5=>some (g5,h4))) fun t6 h7=>
 ob (mV t2 t6 (.bool false)) fun t8=>
 oR [t8] h7
def Zq (c:CH) (ql:QH) (us:List GV) (H:GH):RS:=U2 us fun x1 x2=>
 jn (nB 0 (ql 34 [x1,x2] H)) fun vs3 h4=>U1 vs3 fun a5=>oR [a5] h4
def ZF (c:CH) (ql:QH) (us:List GV) (H:GH):RS:=U2 us fun a6 a7=>jn (ln 9 a6 fun t8=>
 bn .lss 3 a7 t8 fun t9=>
 ob (GV.asB t9) fun q10=>jn (bC q10 (oX 0 [a7] H) (oN [a6,a7] H)) fun vs11 h12=>U2 vs11 fun a13 a14=>jn (nB 1 (ob (Sp y 9 a13 a14) fun t15=>
 jn (nB 2 (bn .eql 5 t15 (.int .u8 (.ofNat 32)) fun t16=>
 ob (GV.asB t16) fun q17=>jn (bC q17 (bn .eql 5 t15 (.int .u8 (.ofNat 9)) fun t18=>
 ob (GV.asB t18) fun q19=>jn (bC q19 (bn .eql 5 t15 (.int .u8 (.ofNat 10)) fun t20=>
 ob (GV.asB t20) fun q21=>jn (bC q21 (bn .eql 5 t15 (.int .u8 (.ofNat 13)) fun t22=>
 oN [a13,a14,t15,t22] h12) (oN [a13,a14,t15,t20] h12)) fun vs23 h24=>U4 vs23 fun a25 a26 a27 a28=>oN [a25,a26,a27,a28] h24) (oN [a13,a14,t15,t18] h12)) fun vs29 h30=>U4 vs29 fun a31 a32 a33 a34=>oN [a31,a32,a33,a34] h30) (oN [a13,a14,t15,t16] h12)) fun vs35 h36=>U4 vs35 fun a37 a38 a39 a40=>ob (GV.asB a40) fun q41=>jn (bC q41 (bn .eql 5 a39 (.int .u8 (.ofNat 35)) fun t43=>
 ob (GV.asB t43) fun q44=>jn (bC q44 (oR [a38] h36) (jn (nB 3 (ql 35 [a37,a38] h36)) fun vs45 h46=>U2 vs45 fun a47 a48=>oN [a47,a48] h46)) fun vs49 h50=>U2 vs49 fun a51 a52=>oN [a51,a52] h50) (bn .add 3 a38 (i 1) fun t42=>
 oN [a37,t42] h36)) fun vs53 h54=>U2 vs53 fun a55 a56=>oN [a55,a56] h54)) fun vs57 h58=>U2 vs57 fun a59 a60=>oN [a59,a60] h58)) fun vs61 h62=>U2 vs61 fun a63 a64=>oN [a63,a64] h62) (ql 34)
def ZG (c:CH) (ql:QH) (us:List GV) (H:GH):RS:=U2 us fun a65 a66=>jn (ln 9 a65 fun t67=>
 bn .lss 3 a66 t67 fun t68=>
 eD (rG t68 true H (some (a65,H))) fun t69 h70=>
 eD (rG t68 true h70 (some (a66,h70))) fun t71 h72=>
 eD (rG t68 true h72 (ob (Sp y 9 t69 t71) fun g73=>some (g73,h72))) fun t74 h75=>
 eD (rG t68 true h75 (ob (yP y .neq 5 t74 (.int .u8 (.ofNat 10))) fun g76=>some (g76,h75))) fun t77 h78=>
 ob (mV t68 t77 (.bool false)) fun t79=>
 ob (GV.asB t79) fun q80=>jn (bC q80 (oX 3 [a65,a66] h78) (oN [a65,a66] h78)) fun vs81 h82=>U2 vs81 fun a83 a84=>jn (nB 4 (bn .add 3 a84 (i 1) fun t85=>
 oN [a83,t85] h82)) fun vs86 h87=>U2 vs86 fun a88 a89=>oN [a88,a89] h87) (ql 35)
def Wk (c:CH) (ql:QH) (us:List GV) (H:GH):RS:=U4 us fun x1 x2 x3 x4=>
 jn (nB 0 (ql 37 [x1,x2,x3,x4,(i 0)] H)) fun vs5 h6=>U0 vs5 (oR [] h6)
def ZH (c:CH) (ql:QH) (us:List GV) (H:GH):RS:=U5 us fun a7 a8 a9 a10 a11=>jn (ob (GV.nilck a7) fun t12=>
 fd 106 0 t12 fun t13=>
 K c 122 [t13] H fun t14 h15=>
 bn .eql 9 t14 a8 fun t16=>
 ob (GV.asB t16) fun q17=>jn (bC q17 (oX 0 [] h15) (oN [a7,a8,a9,a10,a11] h15)) fun vs18 h19=>U5 vs18 fun a20 a21 a22 a23 a24=>jn (nB 1 (bn .eql 3 a24 a22 fun t25=>
 ob (GV.asB t25) fun q26=>jn (bC q26 (oN [a20,a21,a22,a23,a24] h19) (ob (GV.nilck a20) fun t27=>
 fd 106 0 t27 fun t28=>
 K c 105 [t28,(i 3)] h19 fun t29 h30=>
 oN [a20,a21,a22,a23,a24] h30)) fun vs31 h32=>U5 vs31 fun a33 a34 a35 a36 a37=>ob (GV.nilck a33) fun t38=>
 fd 106 0 t38 fun t39=>
 K c 124 [t39] h32 fun t40 h41=>
 ob (GV.asF a36) fun p44=>eD (c p44.1 (p44.2.1++[]++p44.2.2) h41) fun t42 h43=>
 oN [a33,a34,a35,a36,a37] h43)) fun vs45 h46=>U5 vs45 fun a47 a48 a49 a50 a51=>bn .add 3 a51 (i 1) fun t52=>
 oN [a47,a48,a49,a50,t52] h46) (ql 37)
def Wl (c:CH) (ql:QH) (us:List GV) (H:GH):RS:=U1 us fun x1=>
 ob (GV.nilck x1) fun t2=>
 fd 104 1 t2 fun t3=>
 ld 98 t3 H fun t4=>
 ln 98 t4 fun t5=>
 bn .eql 3 t5 (i 0) fun t6=>
 oR [t6] H
def Wm (c:CH) (ql:QH) (us:List GV) (H:GH):RS:=U1 us fun x1=>
 ln 9 x1 fun t2=>
 bn .lss 3 t2 (i 1) fun t3=>
 eD (rG t3 false H (some (x1,H))) fun t4 h5=>
 eD (rG t3 false h5 (ob (Lj y 9 t4) fun g6=>some (g6,h5))) fun t7 h8=>
 eD (rG t3 false h8 (ob (yP y .gtr 3 t7 (i 24)) fun g9=>some (g9,h8))) fun t10 h11=>
 ob (mV t3 (.bool true) t10) fun t12=>
 eD (rG t12 false h11 (some (x1,h11))) fun t13 h14=>
 eD (rG t12 false h14 (ob (Sp y 9 t13 (i 0)) fun g15=>some (g15,h14))) fun t16 h17=>
 eD (rG t12 false h17 (eD (c 116 [t16] h17) BN)) fun t18 h19=>
 eD (rG t12 false h19 (ob (NA .not t18) fun g20=>some (g20,h19))) fun t21 h22=>
 ob (mV t12 (.bool true) t21) fun t23=>
 ob (GV.asB t23) fun q24=>jn (bC q24 (oN [x1] h22) (oR [(.bool false)] h22)) fun vs25 h26=>U1 vs25 fun a27=>ln 9 a27 fun t28=>
 jn (nB 0 (ql 39 [a27,t28,(i 0)] h26)) fun vs29 h30=>U1 vs29 fun a31=>K c 129 [a31] h30 fun t32 h33=>
 ob (NA .not t32) fun t34=>
 oR [t34] h33
def ZI (c:CH) (ql:QH) (us:List GV) (H:GH):RS:=U3 us fun a35 a36 a37=>jn (bn .lss 3 a37 a36 fun t38=>
 ob (GV.asB t38) fun q39=>jn (bC q39 (oX 0 [a35] H) (oN [a35,a36,a37] H)) fun vs40 h41=>U3 vs40 fun a42 a43 a44=>jn (nB 1 (ob (Sp y 9 a42 a44) fun t45=>
 K c 117 [t45] h41 fun t46 h47=>
 ob (NA .not t46) fun t48=>
 ob (GV.asB t48) fun q49=>jn (bC q49 (oN [a42,a43,a44] h47) (oR [(.bool false)] h47)) fun vs50 h51=>U3 vs50 fun a52 a53 a54=>oN [a52,a53,a54] h51)) fun vs55 h56=>U3 vs55 fun a57 a58 a59=>bn .add 3 a59 (i 1) fun t60=>
 oN [a57,a58,t60] h56) (ql 39)
def Wn (c:CH) (ql:QH) (us:List GV) (H:GH):RS:=U3 us fun x1 x2 x3=>
 bn .geq 3 x1 x2 fun t4=>
 eD (rG t4 true H (some (x1,H))) fun t5 h6=>
 eD (rG t4 true h6 (some (x3,h6))) fun t7 h8=>
 eD (rG t4 true h8 (ob (yP y .leq 3 t5 t7) fun g9=>some (g9,h8))) fun t10 h11=>
 ob (mV t4 t10 (.bool false)) fun t12=>
 oR [t12] h11
def Wo (c:CH) (ql:QH) (us:List GV) (H:GH):RS:=U3 us fun x1 x2 x3=>
 ln 47 x2 fun t4=>
 bn .gtr 3 t4 (i 6) fun t5=>
 ob (GV.asB t5) fun q6=>jn (bC q6 (oN [x1,x2,x3] H) (oR [(i 0),(i 7)] H)) fun vs7 h8=>U3 vs7 fun a9 a10 a11=>ln 47 a10 fun t12=>
 jn (nB 0 (ql 40 [a9,a10,a11,a10,t12,(i 0)] h8)) fun vs13 h14=>U3 vs13 fun a15 a16 a17=>ln 47 a16 fun t18=>
 K c 45 [a15,t18] h14 fun t19 h20=>
 ob (NA .not t19) fun t21=>
 ob (GV.asB t21) fun q22=>jn (bC q22 (oN [a15,a16,a17] h20) (oR [(i 0),(i 7)] h20)) fun vs23 h24=>U3 vs23 fun a25 a26 a27=>bd 151 [(0,a25),(1,a26)] fun t28=>
 eD (oO y 151 h24) fun t29 h30=>
 eD (qG y 151 t29 t28 h30) fun t31 h32=>
 ld 151 t29 h32 fun t33=>
 K c 130 [t33,(i 0),a27] h32 fun t34 h35=>
 ex 0 t34 fun t36=>
 ex 1 t34 fun t37=>
 bn .eql 3 t36 (i 0) fun t38=>
 ob (GV.asB t38) fun q39=>jn (bC q39 (oN [t36] h35) (oR [(i 0),(i 6)] h35)) fun vs40 h41=>U1 vs40 fun a42=>oR [a42,(i 0)] h41
def ZJ (c:CH) (ql:QH) (us:List GV) (H:GH):RS:=U6 us fun a43 a44 a45 a46 a47 a48=>jn (bn .lss 3 a48 a47 fun t49=>
 ob (GV.asB t49) fun q50=>jn (bC q50 (oX 0 [a43,a44,a45] H) (oN [a43,a44,a45,a46,a47,a48] H)) fun vs51 h52=>U6 vs51 fun a53 a54 a55 a56 a57 a58=>jn (nB 1 (ix 47 a56 a58 fun t59=>
 ld 3 t59 h52 fun t60=>
 K c 107 [t60] h52 fun t61 h62=>
 ob (NA .not t61) fun t63=>
 ob (GV.asB t63) fun q64=>jn (bC q64 (oN [a53,a54,a55,a56,a57,a58] h62) (oR [(i 0),(i 7)] h62)) fun vs65 h66=>U6 vs65 fun a67 a68 a69 a70 a71 a72=>oN [a67,a68,a69,a70,a71,a72] h66)) fun vs73 h74=>U6 vs73 fun a75 a76 a77 a78 a79 a80=>bn .add 3 a80 (i 1) fun t81=>
 oN [a75,a76,a77,a78,a79,t81] h74) (ql 40)
def Wp (c:CH) (ql:QH) (us:List GV) (H:GH):RS:=U3 us fun x1 x2 x3=>
 ld 3 x2 H fun t4=>
 jn (nB 0 (ql 41 [x1,x3,t4] H)) fun vs5 h6=>U1 vs5 fun a7=>oR [a7] h6
def ZK (c:CH) (ql:QH) (us:List GV) (H:GH):RS:=U3 us fun a8 a9 a10=>jn (ld 9 a9 H fun t11=>
 ln 9 t11 fun t12=>
 bn .lss 3 a10 t12 fun t13=>
 eD (rG t13 true H (some (a8,H))) fun t14 h15=>
 eD (rG t13 true h15 (ob (tJ y 9 a9 h15) fun g16=>some (g16,h15))) fun t17 h18=>
 eD (rG t13 true h18 (some (a10,h18))) fun t19 h20=>
 eD (rG t13 true h20 (ob (Sp y 9 t17 t19) fun g21=>some (g21,h20))) fun t22 h23=>
 eD (rG t13 true h23 (ob (GV.asF t14) fun p24=>eD (c p24.1 (p24.2.1++[t22]++p24.2.2) h23) BN)) fun t25 h26=>
 ob (mV t13 t25 (.bool false)) fun t27=>
 ob (GV.asB t27) fun q28=>jn (bC q28 (oX 0 [a10] h26) (oN [a8,a9,a10] h26)) fun vs29 h30=>U3 vs29 fun a31 a32 a33=>jn (nB 1 (bn .add 3 a33 (i 1) fun t34=>
 oN [a31,a32,t34] h30)) fun vs35 h36=>U3 vs35 fun a37 a38 a39=>oN [a37,a38,a39] h36) (ql 41)
def Wq (c:CH) (ql:QH) (us:List GV) (H:GH):RS:=U1 us fun x1=>
 bn .geq 5 x1 (.int .u8 (.ofNat 97)) fun t2=>
 eD (rG t2 true H (some (x1,H))) fun t3 h4=>
 eD (rG t2 true h4 (ob (yP y .leq 5 t3 (.int .u8 (.ofNat 122))) fun g5=>some (g5,h4))) fun t6 h7=>
 ob (mV t2 t6 (.bool false)) fun t8=>
 eD (rG t8 false h7 (some (x1,h7))) fun t9 h10=>
 eD (rG t8 false h10 (ob (yP y .geq 5 t9 (.int .u8 (.ofNat 65))) fun g11=>some (g11,h10))) fun t12 h13=>
 eD (rG t8 false h13 (some (t12,h13))) fun t14 h15=>
 eD (rG t14 true h15 (some (x1,h15))) fun t16 h17=>
 eD (rG t14 true h17 (ob (yP y .leq 5 t16 (.int .u8 (.ofNat 90))) fun g18=>some (g18,h17))) fun t19 h20=>
 eD (rG t8 false h20 (ob (mV t14 t19 (.bool false)) fun g21=>some (g21,h20))) fun t22 h23=>
 ob (mV t8 (.bool true) t22) fun t24=>
 oR [t24] h23
def Wr (c:CH) (ql:QH) (us:List GV) (H:GH):RS:=U1 us fun x1=>
 K c 116 [x1] H fun t2 h3=>
 eD (rG t2 false h3 (some (x1,h3))) fun t4 h5=>
 eD (rG t2 false h5 (eD (c 118 [t4] h5) BN)) fun t6 h7=>
 ob (mV t2 (.bool true) t6) fun t8=>
 eD (rG t8 false h7 (some (x1,h7))) fun t9 h10=>
 eD (rG t8 false h10 (ob (yP y .eql 5 t9 (.int .u8 (.ofNat 95))) fun g11=>some (g11,h10))) fun t12 h13=>
 ob (mV t8 (.bool true) t12) fun t14=>
 oR [t14] h13
def Ws (c:CH) (ql:QH) (us:List GV) (H:GH):RS:=U1 us fun x1=>
 bn .geq 5 x1 (.int .u8 (.ofNat 48)) fun t2=>
 eD (rG t2 true H (some (x1,H))) fun t3 h4=>
 eD (rG t2 true h4 (ob (yP y .leq 5 t3 (.int .u8 (.ofNat 57))) fun g5=>some (g5,h4))) fun t6 h7=>
 ob (mV t2 t6 (.bool false)) fun t8=>
 oR [t8] h7
def Wt (c:CH) (ql:QH) (us:List GV) (H:GH):RS:=U1 us fun x1=>
 eD (x_ y 102 9 [(0,(.str 11822 2)),(1,(.str 15917 2)),(2,(.str 15674 2)),(3,(.str 9766 2)),(4,(.str 31868 2)),(5,(.str 15677 2)),(6,(.str 15649 2)),(7,(.str 15676 2)),(8,(.str 15678 2))] H) fun t2 h3=>
 ln 102 t2 fun t4=>
 jn (nB 0 (ql 43 [x1,t2,t4,(i 0)] h3)) fun vs5 h6=>U1 vs5 fun a7=>ob (Sp y 9 a7 (i 0)) fun t8=>
 K c 139 [(.str 172099982263598878148345807877454395 15),t8] h6 fun t9 h10=>
 bn .geq 3 t9 (i 0) fun t11=>
 ob (GV.asB t11) fun q12=>jn (bC q12 (oN [] h10) (oR [(i 1)] h10)) fun vs13 h14=>U0 vs13 (oR [(i 0)] h14)
def ZL (c:CH) (ql:QH) (us:List GV) (H:GH):RS:=U4 us fun a15 a16 a17 a18=>jn (bn .lss 3 a18 a17 fun t19=>
 ob (GV.asB t19) fun q20=>jn (bC q20 (oX 0 [a15] H) (oN [a15,a16,a17,a18] H)) fun vs21 h22=>U4 vs21 fun a23 a24 a25 a26=>jn (nB 1 (ix 102 a24 a26 fun t27=>
 ld 9 t27 h22 fun t28=>
 K c 138 [a23,t28] h22 fun t29 h30=>
 ob (GV.asB t29) fun q31=>jn (bC q31 (oN [a23,a24,a25,a26] h30) (oR [(i 2)] h30)) fun vs32 h33=>U4 vs32 fun a34 a35 a36 a37=>oN [a34,a35,a36,a37] h33)) fun vs38 h39=>U4 vs38 fun a40 a41 a42 a43=>bn .add 3 a43 (i 1) fun t44=>
 oN [a40,a41,a42,t44] h39) (ql 43)
def Wu (c:CH) (ql:QH) (us:List GV) (H:GH):RS:=U2 us fun x1 x2=>
 K c 122 [x1] H fun t3 h4=>
 bn .neq 9 t3 x2 fun t5=>
 ob (GV.asB t5) fun q6=>jn (bC q6 (oN [x1] h4) (oR [(.bool false)] h4)) fun vs7 h8=>U1 vs7 fun a9=>K c 124 [a9] h8 fun t10 h11=>
 oR [(.bool true)] h11
def Wv (c:CH) (ql:QH) (us:List GV) (H:GH):RS:=U1 us fun x1=>
 ob (GV.nilck x1) fun t2=>
 fd 104 1 t2 fun t3=>
 ld 98 t3 H fun t4=>
 ln 98 t4 fun t5=>
 bn .eql 3 t5 (i 0) fun t6=>
 ob (GV.asB t6) fun q7=>jn (bC q7 (oN [x1] H) (oR [(.str 0 0)] H)) fun vs8 h9=>U1 vs8 fun a10=>ob (GV.nilck a10) fun t11=>
 fd 104 0 t11 fun t12=>
 ld 9 t12 h9 fun t13=>
 ob (GV.nilck a10) fun t14=>
 fd 104 1 t14 fun t15=>
 ld 98 t15 h9 fun t16=>
 ix 98 t16 (i 0) fun t17=>
 fd 123 1 t17 fun t18=>
 ld 3 t18 h9 fun t19=>
 ob (GV.nilck a10) fun t20=>
 fd 104 1 t20 fun t21=>
 ld 98 t21 h9 fun t22=>
 ix 98 t22 (i 0) fun t23=>
 fd 123 2 t23 fun t24=>
 ld 3 t24 h9 fun t25=>
 ob (AA y 9 t13 (some t19) (some t25) h9) fun t26=>
 oR [t26] h9
def Ww (c:CH) (ql:QH) (us:List GV) (H:GH):RS:=U1 us fun x1=>
 eD (oO y 123 H) fun t2 h3=>
 ob (GV.nilck x1) fun t4=>
 fd 104 1 t4 fun t5=>
 ld 98 t5 h3 fun t6=>
 ln 98 t6 fun t7=>
 bn .eql 3 t7 (i 0) fun t8=>
 ob (GV.asB t8) fun q9=>jn (bC q9 (oN [x1,t2] h3) (K c 105 [x1,(i 4)] h3 fun t10 h11=>
 oN [x1,t2] h11)) fun vs12 h13=>U2 vs12 fun a14 a15=>ob (GV.nilck a14) fun t16=>
 fd 104 1 t16 fun t17=>
 ld 98 t17 h13 fun t18=>
 ix 98 t18 (i 0) fun t19=>
 ld 123 t19 h13 fun t20=>
 eD (oO y 123 h13) fun t21 h22=>
 eD (qG y 123 t21 t20 h22) fun t23 h24=>
 ob (GV.nilck a14) fun t25=>
 fd 104 1 t25 fun t26=>
 ld 98 t26 h24 fun t27=>
 ob (AA y 98 t27 (some (i 1)) none h24) fun t28=>
 ob (GV.nilck a14) fun t29=>
 fd 104 1 t29 fun t30=>
 eD (qG y 98 t30 t28 h24) fun t31 h32=>
 ld 123 t21 h32 fun t33=>
 eD (qG y 123 a15 t33 h32) fun t34 h35=>
 ob (ob (tJ y 123 a15 h35) fun r36=>some [r36]) fun vs37=>oR vs37 h35
def Wx (c:CH) (ql:QH) (us:List GV) (H:GH):RS:=U3 us fun x1 x2 x3=>
 eD (Dk x1 H) fun t4 h5=>
 fd 151 0 t4 fun t6=>
 ld 39 t6 h5 fun t7=>
 ix 39 t7 x2 fun t8=>
 ld 84 t8 h5 fun t9=>
 eD (oO y 84 h5) fun t10 h11=>
 eD (qG y 84 t10 t9 h11) fun t12 h13=>
 bn .add 3 x2 (i 1) fun t14=>
 fd 84 0 t10 fun t15=>
 ld 3 t15 h13 fun t16=>
 K c 87 [t16] h13 fun t17 h18=>
 bn .eql 3 t17 (i 0) fun t19=>
 ob (GV.asB t19) fun q20=>jn (bC q20 (oN [x3,t4,t14,t10] h18) (fd 84 0 t10 fun t21=>
 ld 3 t21 h18 fun t22=>
 K c 144 [t22] h18 fun t23 h24=>
 eD (rG t23 true h24 (some (x3,h24))) fun t25 h26=>
 eD (rG t23 true h26 (ob (NA .not t25) fun g27=>some (g27,h26))) fun t28 h29=>
 ob (mV t23 t28 (.bool false)) fun t30=>
 ob (GV.asB t30) fun q31=>jn (bC q31 (oN [t4,t14,t10] h29) (oR [(i 0),t14] h29)) fun vs32 h33=>U3 vs32 fun a34 a35 a36=>ld 151 a34 h33 fun t37=>
 ld 84 a36 h33 fun t38=>
 K c 145 [t37,t38] h33 fun t39 h40=>
 oR [t39,a35] h40)) fun vs41 h42=>U4 vs41 fun a43 a44 a45 a46=>eD (rG a43 false h42 (ob (Az y 84 0 a46) fun g47=>some (g47,h42))) fun t48 h49=>
 eD (rG a43 false h49 (ob (tJ y 3 t48 h49) fun g50=>some (g50,h49))) fun t51 h52=>
 eD (rG a43 false h52 (eD (c 91 [t51] h52) BN)) fun t53 h54=>
 ob (mV a43 (.bool true) t53) fun t55=>
 eD (oO y 162 h54) fun t56 h57=>
 fd 84 0 a46 fun t58=>
 ld 3 t58 h57 fun t59=>
 K c 87 [t59] h57 fun t60 h61=>
 jn (nB 0 (ql 44 [a44,a45,a46,t55,t56,t60,(i 0)] h61)) fun vs62 h63=>U3 vs62 fun a64 a65 a66=>fd 84 0 a65 fun t67=>
 ld 3 t67 h63 fun t68=>
 ld 162 a66 h63 fun t69=>
 K c 146 [t68,t69] h63 fun t70 h71=>
 oR [t70,a64] h71
def ZM (c:CH) (ql:QH) (us:List GV) (H:GH):RS:=U7 us fun a72 a73 a74 a75 a76 a77 a78=>jn (bn .lss 3 a78 a77 fun t79=>
 ob (GV.asB t79) fun q80=>jn (bC q80 (oX 0 [a73,a74,a76] H) (oN [a72,a73,a74,a75,a76,a77,a78] H)) fun vs81 h82=>U7 vs81 fun a83 a84 a85 a86 a87 a88 a89=>jn (nB 1 (ld 151 a83 h82 fun t90=>
 K c 130 [t90,a84,a86] h82 fun t91 h92=>
 ex 0 t91 fun t93=>
 ex 1 t91 fun t94=>
 ix 162 a87 a89 fun t95=>
 eD (qG y 3 t95 t93 h92) fun t96 h97=>
 oN [a83,t94,a85,a86,a87,a88,a89] h97)) fun vs98 h99=>U7 vs98 fun a100 a101 a102 a103 a104 a105 a106=>bn .add 3 a106 (i 1) fun t107=>
 oN [a100,a101,a102,a103,a104,a105,t107] h99) (ql 44)
def Wy (c:CH) (ql:QH) (us:List GV) (H:GH):RS:=U2 us fun x1 x2=>
 K c 148 [x1,x2] H fun t3 h4=>
 oR [t3] h4
def Wz (c:CH) (ql:QH) (us:List GV) (H:GH):RS:=U2 us fun x1 x2=>
 K c 149 [x1,x2] H fun t3 h4=>
 oR [t3] h4
def WA (c:CH) (ql:QH) (us:List GV) (H:GH):RS:=U2 us fun x1 x2=>
 bn .eql 3 x2 (i 6) fun t3=>
 ob (GV.asB t3) fun q4=>jn (bC q4 (oN [x1,x2] H) (K c 151 [x1] H fun t5 h6=>
 oR [t5] h6)) fun vs7 h8=>U2 vs7 fun a9 a10=>bn .add 3 a10 (i 1) fun t11=>
 K c 141 [a9,t11] h8 fun t12 h13=>
 jn (nB 0 (ql 45 [a9,a10,t12] h13)) fun vs14 h15=>U1 vs14 fun a16=>oR [a16] h15
def ZN (c:CH) (ql:QH) (us:List GV) (H:GH):RS:=U3 us fun a17 a18 a19=>jn (jn (nB 1 (K c 122 [a17] H fun t20 h21=>
 K c 152 [t20] h21 fun t22 h23=>
 bn .eql 3 t22 (i 0) fun t24=>
 eD (rG t24 false h23 (some (t22,h23))) fun t25 h26=>
 eD (rG t24 false h26 (eD (c 153 [t25] h26) BN)) fun t27 h28=>
 eD (rG t24 false h28 (some (a18,h28))) fun t29 h30=>
 eD (rG t24 false h30 (ob (yP y .neq 3 t27 t29) fun g31=>some (g31,h30))) fun t32 h33=>
 ob (mV t24 (.bool true) t32) fun t34=>
 ob (GV.asB t34) fun q35=>jn (bC q35 (oN [a17,a18,a19,t22] h33) (oR [a19] h33)) fun vs36 h37=>U4 vs36 fun a38 a39 a40 a41=>K c 124 [a38] h37 fun t42 h43=>
 bn .add 3 a39 (i 1) fun t44=>
 K c 141 [a38,t44] h43 fun t45 h46=>
 eD (x_ y 114 2 [(0,a40),(1,t45)] h46) fun t47 h48=>
 K c 142 [a41,t47] h48 fun t49 h50=>
 bn .eql 3 a39 (i 3) fun t51=>
 ob (GV.asB t51) fun q52=>jn (bC q52 (oN [a38,a39,t49] h50) (oR [t49] h50)) fun vs53 h54=>U3 vs53 fun a55 a56 a57=>oN [a55,a56,a57] h54)) fun vs58 h59=>U3 vs58 fun a60 a61 a62=>oN [a60,a61,a62] h59) (ql 45)
def WB (c:CH) (ql:QH) (us:List GV) (H:GH):RS:=U2 us fun x1 x2=>
 K c 154 [x1,(i 0)] H fun t3 h4=>
 ln 114 x2 fun t5=>
 jn (nB 0 (ql 46 [t3,x2,t5,(i 0)] h4)) fun vs6 h7=>U1 vs6 fun a8=>oR [a8] h7
def ZO (c:CH) (ql:QH) (us:List GV) (H:GH):RS:=U4 us fun a9 a10 a11 a12=>jn (bn .lss 3 a12 a11 fun t13=>
 ob (GV.asB t13) fun q14=>jn (bC q14 (oX 0 [a9] H) (oN [a9,a10,a11,a12] H)) fun vs15 h16=>U4 vs15 fun a17 a18 a19 a20=>jn (nB 1 (ix 114 a18 a20 fun t21=>
 ld 39 t21 h16 fun t22=>
 eD (Nw y 39 39 a17 t22 h16) fun t23 h24=>
 oN [t23,a18,a19,a20] h24)) fun vs25 h26=>U4 vs25 fun a27 a28 a29 a30=>bn .add 3 a30 (i 1) fun t31=>
 oN [a27,a28,a29,t31] h26) (ql 46)
def WC (c:CH) (ql:QH) (us:List GV) (H:GH):RS:=U2 us fun x1 x2=>
 ln 102 x1 fun t3=>
 jn (nB 0 (ql 47 [x1,x2,t3,(i 0)] H)) fun vs4 h5=>U0 vs4 (oR [(.int .i64 (.negSucc 0))] h5)
def ZP (c:CH) (ql:QH) (us:List GV) (H:GH):RS:=U4 us fun a6 a7 a8 a9=>jn (bn .lss 3 a9 a8 fun t10=>
 ob (GV.asB t10) fun q11=>jn (bC q11 (oX 0 [] H) (oN [a6,a7,a8,a9] H)) fun vs12 h13=>U4 vs12 fun a14 a15 a16 a17=>jn (nB 1 (ix 102 a14 a17 fun t18=>
 ld 9 t18 h13 fun t19=>
 bn .eql 9 a15 t19 fun t20=>
 ob (GV.asB t20) fun q21=>jn (bC q21 (oN [a14,a15,a16,a17] h13) (oR [a17] h13)) fun vs22 h23=>U4 vs22 fun a24 a25 a26 a27=>oN [a24,a25,a26,a27] h23)) fun vs28 h29=>U4 vs28 fun a30 a31 a32 a33=>bn .add 3 a33 (i 1) fun t34=>
 oN [a30,a31,a32,t34] h29) (ql 47)
def WE (c:CH) (ql:QH) (us:List GV) (H:GH):RS:=U2 us fun x1 x2=>
 ln 9 x1 fun t3=>
 ln 9 x2 fun t4=>
 bn .geq 3 t3 t4 fun t5=>
 eD (rG t5 true H (some (x1,H))) fun t6 h7=>
 eD (rG t5 true h7 (some (x2,h7))) fun t8 h9=>
 eD (rG t5 true h9 (ob (Lj y 9 t8) fun g10=>some (g10,h9))) fun t11 h12=>
 eD (rG t5 true h12 (ob (AA y 9 t6 none (some t11) h12) fun g13=>some (g13,h12))) fun t14 h15=>
 eD (rG t5 true h15 (some (x2,h15))) fun t16 h17=>
 eD (rG t5 true h17 (ob (yP y .eql 9 t14 t16) fun g18=>some (g18,h17))) fun t19 h20=>
 ob (mV t5 t19 (.bool false)) fun t21=>
 oR [t21] h20
def WF (c:CH) (ql:QH) (us:List GV) (H:GH):RS:=U2 us fun x1 x2=>
 K c 156 [x1,x2] H fun t3 h4=>
 oR [t3] h4
def WG (c:CH) (ql:QH) (us:List GV) (H:GH):RS:=U1 us fun x1=>
 K c 159 [] H fun t2 h3=>
 K c 158 [x1,(i 30),t2] h3 fun t4 h5=>
 oR [t4] h5
def WH (c:CH) (ql:QH) (us:List GV) (H:GH):RS:=U2 us fun x1 x2=>
 bd 84 [(0,x1),(1,x2)] fun t3=>
 eD (x_ y 39 1 [(0,t3)] H) fun t4 h5=>
 oR [t4] h5
def WI (c:CH) (ql:QH) (us:List GV) (H:GH):RS:=U2 us fun x1 x2=>
 ob (GV.asB x1) fun q3=>jn (bC q3 (oN [] H) (oR [x2] H)) fun vs4 h5=>U0 vs4 (oR [(i 0)] h5)
def WJ (c:CH) (ql:QH) (us:List GV) (H:GH):RS:=U3 us fun x1 x2 x3=>
 bn .eql 9 x1 (.str 0 0) fun t4=>
 ob (GV.asB t4) fun q5=>jn (bC q5 (oN [x1,x2,x3] H) (oR [(i 0)] H)) fun vs6 h7=>U3 vs6 fun a8 a9 a10=>ln 102 a10 fun t11=>
 jn (nB 0 (ql 48 [a8,a9,a10,t11,(i 0)] h7)) fun vs12 h13=>U0 vs12 (oR [(i 0)] h13)
def ZQ (c:CH) (ql:QH) (us:List GV) (H:GH):RS:=U5 us fun a14 a15 a16 a17 a18=>jn (bn .lss 3 a18 a17 fun t19=>
 ob (GV.asB t19) fun q20=>jn (bC q20 (oX 0 [] H) (oN [a14,a15,a16,a17,a18] H)) fun vs21 h22=>U5 vs21 fun a23 a24 a25 a26 a27=>jn (nB 1 (ix 102 a25 a27 fun t28=>
 ld 9 t28 h22 fun t29=>
 bn .eql 9 t29 a23 fun t30=>
 ob (GV.asB t30) fun q31=>jn (bC q31 (oN [a23,a24,a25,a26,a27] h22) (bn .add 3 a24 a27 fun t32=>
 oR [t32] h22)) fun vs33 h34=>U5 vs33 fun a35 a36 a37 a38 a39=>oN [a35,a36,a37,a38,a39] h34)) fun vs40 h41=>U5 vs40 fun a42 a43 a44 a45 a46=>bn .add 3 a46 (i 1) fun t47=>
 oN [a42,a43,a44,a45,t47] h41) (ql 48)
def WK (c:CH) (ql:QH) (us:List GV) (H:GH):RS:=U1 us fun x1=>
 K c 164 [] H fun t2 h3=>
 K c 158 [x1,(i 2),t2] h3 fun t4 h5=>
 oR [t4] h5
def WL (c:CH) (ql:QH) (us:List GV) (H:GH):RS:=U1 us fun x1=>
 K c 165 [] H fun t2 h3=>
 K c 158 [x1,(i 20),t2] h3 fun t4 h5=>
 oR [t4] h5
def WM (c:CH) (ql:QH) (us:List GV) (H:GH):RS:=U1 us fun x1=>
 K c 166 [] H fun t2 h3=>
 K c 158 [x1,(i 13),t2] h3 fun t4 h5=>
 oR [t4] h5
def WN (c:CH) (ql:QH) (us:List GV) (H:GH):RS:=U0 us (eD (x_ y 102 5 [(0,(.str 25705 2)),(1,(.str 6776164 3)),(2,(.str 1953460082 4)),(3,(.str 127991760381303 6)),(4,(.str 1801675106 4))] H) fun t1 h2=>
 oR [t1] h2)
def d0:(Code×Cx)×f_:=NE (dH Tryz.f7 [1,1,1,1,1,1,0,1,0,0],jR Tryz.f7 [(0,214)]) s7
def d1:(Code×Cx)×f_:=NE (dH Tryz.f7 [1,1,1,1,1,1,1,0,1,0,0],jR Tryz.f7 [(2,80)]) s7
def d2:(Code×Cx)×f_:=gD (dH Tryz.f9 [1,1,0,1,0,0],jR Tryz.f9 [(0,0)]) 2
def d3:(Code×Cx)×f_:=NE (dH Tryz.f11 [1,1,0,1,0,0],jR Tryz.f11 [(0,12)]) We
def d4:(Code×Cx)×f_:=NE (dH Tryz.f11 [1,1,1,0,1,0,0],jR Tryz.f11 [(2,0)]) We
def d5:(Code×Cx)×f_:=NE (dH Tryz.f11 [1,1,1,0,1,0,0,1,0,0,1,1,1,0,0],jR Tryz.f11 [(4,76),(3,76),(2,0)]) We
def d6:(Code×Cx)×f_:=NE (dH Tryz.f15 [1,1,1,1,0,1,0,0],jR Tryz.f15 [(0,220)]) Vy
def d7:(Code×Cx)×f_:=NE (dH Tryz.f15 [1,1,1,1,1,0,1,0,0],jR Tryz.f15 [(2,220)]) Vy
def d8:(Code×Cx)×f_:=NE (dH Tryz.f15 [1,1,1,1,1,1,1,1,0,1,0,0],jR Tryz.f15 [(4,216)]) Vy
def d9:(Code×Cx)×f_:=NE (dH Tryz.f15 [1,1,1,1,1,1,1,1,1,0,1,0,0],jR Tryz.f15 [(6,80)]) Vy
def ZU:(Code×Cx)×f_:=gD (dH Tryz.f23 [1,1,0,1,0,0],jR Tryz.f23 [(0,8)]) 10
def ZV:(Code×Cx)×f_:=gD (dH Tryz.f24 [1,1,1,0,1,0,0],jR Tryz.f24 [(0,48)]) 11
def ZW:(Code×Cx)×f_:=gD (dH Tryz.f29 [1,1,0,1,0,0],jR Tryz.f29 [(0,24)]) 12
def ZX:(Code×Cx)×f_:=gD (dH Tryz.f30 [1,1,0,1,0,0],jR Tryz.f30 [(0,0)]) 13
def ZY:(Code×Cx)×f_:=gD (dH Tryz.f37 [1,1,0,1,0,0],jR Tryz.f37 [(0,32)]) 14
def ZZ:(Code×Cx)×f_:=((dH Tryz.f45 [1,1,0,1,0,0],jR Tryz.f45 [(0,1)]),Zt)
def Z_:(Code×Cx)×f_:=NE (dH Tryz.f50 [1,1,1,0,1,0,0],jR Tryz.f50 [(0,2)]) Wg
def d17:(Code×Cx)×f_:=NE (dH Tryz.f50 [1,1,1,1,0,1,0,0],jR Tryz.f50 [(2,2)]) Wg
def d18:(Code×Cx)×f_:=NE (dH Tryz.f50 [1,1,1,1,1,1,0,1,0,0],jR Tryz.f50 [(4,0)]) Wg
def d19:(Code×Cx)×f_:=((dH Tryz.f51 [1,1,0,1,0,0],jR Tryz.f51 [(0,3)]),Zu)
def d20:(Code×Cx)×f_:=((dH Tryz.f51 [1,1,1,1,1,0,1,0,0],jR Tryz.f51 [(2,256)]),Zv)
def d21:(Code×Cx)×f_:=gD (dH Tryz.f55 [1,1,0,1,0,0],jR Tryz.f55 [(0,12)]) 21
def d22:(Code×Cx)×f_:=((dH Tryz.f56 [1,0,1,0,0],jR Tryz.f56 [(0,0)]),Zw)
def d23:(Code×Cx)×f_:=((dH Tryz.f58 [1,0,1,0,0],jR Tryz.f58 [(0,0)]),Zx)
def d24:(Code×Cx)×f_:=((dH Tryz.f64 [1,1,0,1,0,0],jR Tryz.f64 [(0,0)]),Zy)
def d25:(Code×Cx)×f_:=((dH Tryz.f70 [1,1,1,0,1,0,0],jR Tryz.f70 [(0,32)]),Zz)
def d26:(Code×Cx)×f_:=((dH Tryz.f73 [1,1,1,0,1,0,0],jR Tryz.f73 [(0,2)]),ZA)
def d27:(Code×Cx)×f_:=((dH Tryz.f73 [1,1,1,1,1,0,1,0,0],jR Tryz.f73 [(2,0)]),ZB)
def d28:(Code×Cx)×f_:=gD (dH Tryz.f75 [1,1,1,0,1,0,0],jR Tryz.f75 [(0,0)]) 28
def d29:(Code×Cx)×f_:=gD (dH Tryz.f76 [1,1,0,1,0,0],jR Tryz.f76 [(0,8)]) 29
def d30:(Code×Cx)×f_:=gD (dH Tryz.f77 [1,1,0,1,0,0],jR Tryz.f77 [(0,0)]) 30
def d31:(Code×Cx)×f_:=((dH Tryz.f85 [1,0,1,0,0],jR Tryz.f85 [(0,0)]),ZC)
def d32:(Code×Cx)×f_:=((dH Tryz.f88 [1,1,1,0,1,0,0],jR Tryz.f88 [(0,64)]),ZD)
def d33:(Code×Cx)×f_:=((dH Tryz.f88 [1,1,1,0,1,0,0,1,0,0,1,1,0,1,0,0],jR Tryz.f88 [(2,963),(1,195),(0,64)]),ZE)
def d34:(Code×Cx)×f_:=((dH Tryz.f95 [1,0,0,0],jR Tryz.f95 [(0,2)]),ZF)
def d35:(Code×Cx)×f_:=((dH Tryz.f95 [1,0,0,0,1,0,1,0,1,1,1,0,0,0],jR Tryz.f95 [(3,3),(2,3),(1,3),(0,2)]),ZG)
def d36:(Code×Cx)×f_:=gD (dH Tryz.f100 [1,1,1,0,1,0,0],jR Tryz.f100 [(0,33)]) 36
def d37:(Code×Cx)×f_:=((dH Tryz.f101 [1,0,0],jR Tryz.f101 [(0,0)]),ZH)
def d38:(Code×Cx)×f_:=gD (dH Tryz.f103 [1,1,1,1,1,0,0,0],jR Tryz.f103 [(0,5)]) 38
def d39:(Code×Cx)×f_:=((dH Tryz.f106 [1,1,0,1,0,0],jR Tryz.f106 [(0,1)]),ZI)
def d40:(Code×Cx)×f_:=((dH Tryz.f109 [1,1,0,1,0,0],jR Tryz.f109 [(0,7)]),ZJ)
def d41:(Code×Cx)×f_:=((dH Tryz.f115 [1,1,0,0,0],jR Tryz.f115 [(0,32)]),ZK)
def d42:(Code×Cx)×f_:=gD (dH Tryz.f119 [1,1,1,0,1,0,0],jR Tryz.f119 [(0,16)]) 42
def d43:(Code×Cx)×f_:=((dH Tryz.f120 [1,0,1,0,0],jR Tryz.f120 [(0,1)]),ZL)
def d44:(Code×Cx)×f_:=((dH Tryz.f130 [1,1,1,1,1,1,0,1,0,0],jR Tryz.f130 [(0,1408)]),ZM)
def d45:(Code×Cx)×f_:=((dH Tryz.f141 [1,1,1,0,0],jR Tryz.f141 [(0,16)]),ZN)
def d46:(Code×Cx)×f_:=((dH Tryz.f142 [1,1,0,1,0,0],jR Tryz.f142 [(0,32)]),ZO)
def d47:(Code×Cx)×f_:=((dH Tryz.f143 [1,0,1,0,0],jR Tryz.f143 [(0,0)]),ZP)
def d48:(Code×Cx)×f_:=((dH Tryz.f158 [1,1,0,1,0,0],jR Tryz.f158 [(0,0)]),ZQ)
def Md (f:Nat):Option (Func×f_):=(tN f 101 (tN f 57 (tN f 32 (tN f 20 (tN f 11 (tN f 7 (tL f 6 (Tryz.f6,(gB Tryz.f6))) (tN f 9 (tL f 7 (Tryz.f7,(Wc Tryz.f7 s7))) (tL f 9 (Tryz.f9,(Na Tryz.f9 2))))) (tN f 15 (tL f 11 (Tryz.f11,(Wc Tryz.f11 We))) (tN f 19 (tL f 15 (Tryz.f15,(Wc Tryz.f15 Vy))) (tL f 19 (Tryz.f19,(gB Tryz.f19)))))) (tN f 23 (tN f 21 (tL f 20 (Tryz.f20,(gB Tryz.f20))) (tN f 22 (tL f 21 (Tryz.f21,YT)) (tL f 22 (Tryz.f22,(gB Tryz.f22))))) (tN f 29 (tN f 24 (tL f 23 (Tryz.f23,(Na Tryz.f23 10))) (tL f 24 (Tryz.f24,(Na Tryz.f24 11)))) (tN f 30 (tL f 29 (Tryz.f29,(Na Tryz.f29 12))) (tL f 30 (Tryz.f30,(Na Tryz.f30 13))))))) (tN f 45 (tN f 35 (tN f 33 (tL f 32 (Tryz.f32,(gB Tryz.f32))) (tN f 34 (tL f 33 (Tryz.f33,YU)) (tL f 34 (Tryz.f34,YV)))) (tN f 36 (tL f 35 (Tryz.f35,(gB Tryz.f35))) (tN f 37 (tL f 36 (Tryz.f36,YW)) (tL f 37 (Tryz.f37,(Na Tryz.f37 14)))))) (tN f 50 (tN f 48 (tL f 45 (Tryz.f45,YX)) (tN f 49 (tL f 48 (Tryz.f48,(gB Tryz.f48))) (tL f 49 (Tryz.f49,(gB Tryz.f49))))) (tN f 55 (tN f 51 (tL f 50 (Tryz.f50,(Wc Tryz.f50 Wg))) (tL f 51 (Tryz.f51,YY))) (tN f 56 (tL f 55 (Tryz.f55,(Na Tryz.f55 21))) (tL f 56 (Tryz.f56,YZ))))))) (tN f 75 (tN f 65 (tN f 60 (tN f 58 (tL f 57 (Tryz.f57,Y_)) (tN f 59 (tL f 58 (Tryz.f58,Za)) (tL f 59 (Tryz.f59,Zb)))) (tN f 61 (tL f 60 (Tryz.f60,Zc)) (tN f 64 (tL f 61 (Tryz.f61,Zd)) (tL f 64 (Tryz.f64,Ze))))) (tN f 70 (tN f 66 (tL f 65 (Tryz.f65,Zf)) (tN f 67 (tL f 66 (Tryz.f66,Zg)) (tL f 67 (Tryz.f67,Zh)))) (tN f 73 (tN f 72 (tL f 70 (Tryz.f70,Zi)) (tL f 72 (Tryz.f72,(gB Tryz.f72)))) (tN f 74 (tL f 73 (Tryz.f73,Zj)) (tL f 74 (Tryz.f74,(gB Tryz.f74))))))) (tN f 89 (tN f 85 (tN f 76 (tL f 75 (Tryz.f75,(Na Tryz.f75 28))) (tN f 77 (tL f 76 (Tryz.f76,(Na Tryz.f76 29))) (tL f 77 (Tryz.f77,(Na Tryz.f77 30))))) (tN f 87 (tL f 85 (Tryz.f85,Zk)) (tN f 88 (tL f 87 (Tryz.f87,Zl)) (tL f 88 (Tryz.f88,Zm))))) (tN f 95 (tN f 90 (tL f 89 (Tryz.f89,Zn)) (tN f 91 (tL f 90 (Tryz.f90,Zo)) (tL f 91 (Tryz.f91,Zp)))) (tN f 99 (tN f 96 (tL f 95 (Tryz.f95,Zq)) (tL f 96 (Tryz.f96,(gB Tryz.f96)))) (tN f 100 (tL f 99 (Tryz.f99,(gB Tryz.f99))) (tL f 100 (Tryz.f100,(Na Tryz.f100 36))))))))) (tN f 139 (tN f 119 (tN f 107 (tN f 104 (tN f 102 (tL f 101 (Tryz.f101,Wk)) (tN f 103 (tL f 102 (Tryz.f102,(gB Tryz.f102))) (tL f 103 (Tryz.f103,(Na Tryz.f103 38))))) (tN f 105 (tL f 104 (Tryz.f104,Wl)) (tN f 106 (tL f 105 (Tryz.f105,(gB Tryz.f105))) (tL f 106 (Tryz.f106,Wm))))) (tN f 115 (tN f 108 (tL f 107 (Tryz.f107,(gB Tryz.f107))) (tN f 109 (tL f 108 (Tryz.f108,Wn)) (tL f 109 (Tryz.f109,Wo)))) (tN f 117 (tN f 116 (tL f 115 (Tryz.f115,Wp)) (tL f 116 (Tryz.f116,Wq))) (tN f 118 (tL f 117 (Tryz.f117,Wr)) (tL f 118 (Tryz.f118,Ws)))))) (tN f 125 (tN f 122 (tN f 120 (tL f 119 (Tryz.f119,(Na Tryz.f119 42))) (tN f 121 (tL f 120 (Tryz.f120,Wt)) (tL f 121 (Tryz.f121,Wu)))) (tN f 123 (tL f 122 (Tryz.f122,Wv)) (tN f 124 (tL f 123 (Tryz.f123,(gB Tryz.f123))) (tL f 124 (Tryz.f124,Ww))))) (tN f 128 (tN f 126 (tL f 125 (Tryz.f125,(gB Tryz.f125))) (tN f 127 (tL f 126 (Tryz.f126,(gB Tryz.f126))) (tL f 127 (Tryz.f127,(gB Tryz.f127))))) (tN f 130 (tN f 129 (tL f 128 (Tryz.f128,(gB Tryz.f128))) (tL f 129 (Tryz.f129,(gB Tryz.f129)))) (tN f 138 (tL f 130 (Tryz.f130,Wx)) (tL f 138 (Tryz.f138,Wy))))))) (tN f 153 (tN f 145 (tN f 142 (tN f 140 (tL f 139 (Tryz.f139,Wz)) (tN f 141 (tL f 140 (Tryz.f140,(gB Tryz.f140))) (tL f 141 (Tryz.f141,WA)))) (tN f 143 (tL f 142 (Tryz.f142,WB)) (tN f 144 (tL f 143 (Tryz.f143,WC)) (tL f 144 (Tryz.f144,(gB Tryz.f144)))))) (tN f 149 (tN f 146 (tL f 145 (Tryz.f145,(gB Tryz.f145))) (tN f 148 (tL f 146 (Tryz.f146,(gB Tryz.f146))) (tL f 148 (Tryz.f148,WE)))) (tN f 151 (tN f 150 (tL f 149 (Tryz.f149,WF)) (tL f 150 (Tryz.f150,(gB Tryz.f150)))) (tN f 152 (tL f 151 (Tryz.f151,(gB Tryz.f151))) (tL f 152 (Tryz.f152,WG)))))) (tN f 160 (tN f 157 (tN f 154 (tL f 153 (Tryz.f153,(gB Tryz.f153))) (tN f 155 (tL f 154 (Tryz.f154,WH)) (tL f 155 (Tryz.f155,WI)))) (tN f 158 (tL f 157 (Tryz.f157,(gB Tryz.f157))) (tN f 159 (tL f 158 (Tryz.f158,WJ)) (tL f 159 (Tryz.f159,(gB Tryz.f159)))))) (tN f 163 (tN f 161 (tL f 160 (Tryz.f160,(gB Tryz.f160))) (tN f 162 (tL f 161 (Tryz.f161,WK)) (tL f 162 (Tryz.f162,WL)))) (tN f 165 (tN f 164 (tL f 163 (Tryz.f163,WM)) (tL f 164 (Tryz.f164,(gB Tryz.f164)))) (tN f 166 (tL f 165 (Tryz.f165,(gB Tryz.f165))) (tL f 166 (Tryz.f166,WN)))))))))
def Sk (f:Nat):Option ((Code×Cx)×f_):=(tN f 24 (tN f 12 (tN f 6 (tN f 3 (tN f 1 (tL f 0 d0) (tN f 2 (tL f 1 d1) (tL f 2 d2))) (tN f 4 (tL f 3 d3) (tN f 5 (tL f 4 d4) (tL f 5 d5)))) (tN f 9 (tN f 7 (tL f 6 d6) (tN f 8 (tL f 7 d7) (tL f 8 d8))) (tN f 10 (tL f 9 d9) (tN f 11 (tL f 10 ZU) (tL f 11 ZV))))) (tN f 18 (tN f 15 (tN f 13 (tL f 12 ZW) (tN f 14 (tL f 13 ZX) (tL f 14 ZY))) (tN f 16 (tL f 15 ZZ) (tN f 17 (tL f 16 Z_) (tL f 17 d17)))) (tN f 21 (tN f 19 (tL f 18 d18) (tN f 20 (tL f 19 d19) (tL f 20 d20))) (tN f 22 (tL f 21 d21) (tN f 23 (tL f 22 d22) (tL f 23 d23)))))) (tN f 36 (tN f 30 (tN f 27 (tN f 25 (tL f 24 d24) (tN f 26 (tL f 25 d25) (tL f 26 d26))) (tN f 28 (tL f 27 d27) (tN f 29 (tL f 28 d28) (tL f 29 d29)))) (tN f 33 (tN f 31 (tL f 30 d30) (tN f 32 (tL f 31 d31) (tL f 32 d32))) (tN f 34 (tL f 33 d33) (tN f 35 (tL f 34 d34) (tL f 35 d35))))) (tN f 42 (tN f 39 (tN f 37 (tL f 36 d36) (tN f 38 (tL f 37 d37) (tL f 38 d38))) (tN f 40 (tL f 39 d39) (tN f 41 (tL f 40 d40) (tL f 41 d41)))) (tN f 45 (tN f 43 (tL f 42 d42) (tN f 44 (tL f 43 d43) (tL f 44 d44))) (tN f 47 (tN f 46 (tL f 45 d45) (tL f 46 d46)) (tN f 48 (tL f 47 d47) (tL f 48 d48)))))))
def KY:Fb:=⟨Md,Sk⟩
def FO (f:Nat) (e:Func×f_):Prop:=(∀(c:CH) (lp:LH) us H,e.2 c (KY.loop lp) us H=MZ vH c lp e.1 us H)∧Tryz.prog.funcs[f]? = some e.1∧bE Tryz.prog f∧TS y e.1=true
def LO (e:(Code×Cx)×f_):Prop:=∀(c:CH) (lp:LH) us H,e.2 c (KY.loop lp) us H=UC vH c lp e.1.1 e.1.2 us H
theorem rF {f n:Nat} {x e:Func×f_} (h2:Tryz.prog.funcs[n]? = some x.1) (h3:bE Tryz.prog n) (h1:∀(c:CH) (lp:LH) us H,x.2 c (KY.loop lp) us H=MZ vH c lp x.1 us H:=by intro _ _ _ _;kernel_rfl) (h4:TS y x.1=true:=by kernel_rfl):tL f n x=some e->FO f e:=rL (show FO n x from⟨h1,h2,h3,h4⟩)
theorem xU {f n:Nat} {x e:(Code×Cx)×f_} (h:LO x:=by intro _ _ _ _;kernel_rfl):tL f n x=some e->LO e:=rL (R:=fun _=>LO) h
theorem Hi {f:Nat} {e:Func×f_}:Md f=some e->FO f e:=(rN (rN (rN (rN (rN (rN (rF Tryz.func6 Tryz.call6) (rN (rF Tryz.func7 Tryz.call7) (rF Tryz.func9 Tryz.call9))) (rN (rF Tryz.func11 Tryz.call11) (rN (rF Tryz.func15 Tryz.call15) (rF Tryz.func19 Tryz.call19)))) (rN (rN (rF Tryz.func20 Tryz.call20) (rN (rF Tryz.func21 Tryz.call21) (rF Tryz.func22 Tryz.call22))) (rN (rN (rF Tryz.func23 Tryz.call23) (rF Tryz.func24 Tryz.call24)) (rN (rF Tryz.func29 Tryz.call29) (rF Tryz.func30 Tryz.call30))))) (rN (rN (rN (rF Tryz.func32 Tryz.call32) (rN (rF Tryz.func33 Tryz.call33) (rF Tryz.func34 Tryz.call34))) (rN (rF Tryz.func35 Tryz.call35) (rN (rF Tryz.func36 Tryz.call36) (rF Tryz.func37 Tryz.call37)))) (rN (rN (rF Tryz.func45 Tryz.call45) (rN (rF Tryz.func48 Tryz.call48) (rF Tryz.func49 Tryz.call49))) (rN (rN (rF Tryz.func50 Tryz.call50) (rF Tryz.func51 Tryz.call51)) (rN (rF Tryz.func55 Tryz.call55) (rF Tryz.func56 Tryz.call56)))))) (rN (rN (rN (rN (rF Tryz.func57 Tryz.call57) (rN (rF Tryz.func58 Tryz.call58) (rF Tryz.func59 Tryz.call59))) (rN (rF Tryz.func60 Tryz.call60) (rN (rF Tryz.func61 Tryz.call61) (rF Tryz.func64 Tryz.call64)))) (rN (rN (rF Tryz.func65 Tryz.call65) (rN (rF Tryz.func66 Tryz.call66) (rF Tryz.func67 Tryz.call67))) (rN (rN (rF Tryz.func70 Tryz.call70) (rF Tryz.func72 Tryz.call72)) (rN (rF Tryz.func73 Tryz.call73) (rF Tryz.func74 Tryz.call74))))) (rN (rN (rN (rF Tryz.func75 Tryz.call75) (rN (rF Tryz.func76 Tryz.call76) (rF Tryz.func77 Tryz.call77))) (rN (rF Tryz.func85 Tryz.call85) (rN (rF Tryz.func87 Tryz.call87) (rF Tryz.func88 Tryz.call88)))) (rN (rN (rF Tryz.func89 Tryz.call89) (rN (rF Tryz.func90 Tryz.call90) (rF Tryz.func91 Tryz.call91))) (rN (rN (rF Tryz.func95 Tryz.call95) (rF Tryz.func96 Tryz.call96)) (rN (rF Tryz.func99 Tryz.call99) (rF Tryz.func100 Tryz.call100))))))) (rN (rN (rN (rN (rN (rF Tryz.func101 Tryz.call101) (rN (rF Tryz.func102 Tryz.call102) (rF Tryz.func103 Tryz.call103))) (rN (rF Tryz.func104 Tryz.call104) (rN (rF Tryz.func105 Tryz.call105) (rF Tryz.func106 Tryz.call106)))) (rN (rN (rF Tryz.func107 Tryz.call107) (rN (rF Tryz.func108 Tryz.call108) (rF Tryz.func109 Tryz.call109))) (rN (rN (rF Tryz.func115 Tryz.call115) (rF Tryz.func116 Tryz.call116)) (rN (rF Tryz.func117 Tryz.call117) (rF Tryz.func118 Tryz.call118))))) (rN (rN (rN (rF Tryz.func119 Tryz.call119) (rN (rF Tryz.func120 Tryz.call120) (rF Tryz.func121 Tryz.call121))) (rN (rF Tryz.func122 Tryz.call122) (rN (rF Tryz.func123 Tryz.call123) (rF Tryz.func124 Tryz.call124)))) (rN (rN (rF Tryz.func125 Tryz.call125) (rN (rF Tryz.func126 Tryz.call126) (rF Tryz.func127 Tryz.call127))) (rN (rN (rF Tryz.func128 Tryz.call128) (rF Tryz.func129 Tryz.call129)) (rN (rF Tryz.func130 Tryz.call130) (rF Tryz.func138 Tryz.call138)))))) (rN (rN (rN (rN (rF Tryz.func139 Tryz.call139) (rN (rF Tryz.func140 Tryz.call140) (rF Tryz.func141 Tryz.call141))) (rN (rF Tryz.func142 Tryz.call142) (rN (rF Tryz.func143 Tryz.call143) (rF Tryz.func144 Tryz.call144)))) (rN (rN (rF Tryz.func145 Tryz.call145) (rN (rF Tryz.func146 Tryz.call146) (rF Tryz.func148 Tryz.call148))) (rN (rN (rF Tryz.func149 Tryz.call149) (rF Tryz.func150 Tryz.call150)) (rN (rF Tryz.func151 Tryz.call151) (rF Tryz.func152 Tryz.call152))))) (rN (rN (rN (rF Tryz.func153 Tryz.call153) (rN (rF Tryz.func154 Tryz.call154) (rF Tryz.func155 Tryz.call155))) (rN (rF Tryz.func157 Tryz.call157) (rN (rF Tryz.func158 Tryz.call158) (rF Tryz.func159 Tryz.call159)))) (rN (rN (rF Tryz.func160 Tryz.call160) (rN (rF Tryz.func161 Tryz.call161) (rF Tryz.func162 Tryz.call162))) (rN (rN (rF Tryz.func163 Tryz.call163) (rF Tryz.func164 Tryz.call164)) (rN (rF Tryz.func165 Tryz.call165) (rF Tryz.func166 Tryz.call166))))))))
theorem PC {f:Nat} {e:(Code×Cx)×f_}:Sk f=some e->LO e:=(rN (rN (rN (rN (rN xU (rN xU xU)) (rN xU (rN xU xU))) (rN (rN xU (rN xU xU)) (rN xU (rN xU xU)))) (rN (rN (rN xU (rN xU xU)) (rN xU (rN xU xU))) (rN (rN xU (rN xU xU)) (rN xU (rN xU xU))))) (rN (rN (rN (rN xU (rN xU xU)) (rN xU (rN xU xU))) (rN (rN xU (rN xU xU)) (rN xU (rN xU xU)))) (rN (rN (rN xU (rN xU xU)) (rN xU (rN xU xU))) (rN (rN xU (rN xU xU)) (rN (rN xU xU) (rN xU xU))))))
theorem Ry:Kr KY vH:=⟨fun h=>(Hi h).1,PC⟩
theorem Pz {f:Nat} {e:Func×f_} (h:Md f=some e):Tryz.prog.funcs[f]? = some e.1∧bE Tryz.prog f∧TS y e.1=true:=(Hi h).2
end
end Go.Gx
end
section
namespace Go.Gx
open Go Go.Sx
section
section
variable {P:Program} {gs:zH} {w0:fU gs} {tb:TB}
theorem Jb:oZ P w0 (fun _ _ _=>none):=fun f us H g H' h=>by cases h
theorem El:Dt P w0 tb (fun _ _ _ _=>none):=fun b cx vs H out h=>by cases h
theorem QS {ch:CH} {lp:LH} (hT:eB P tb) (hm:P.follows .mixedOrders=true) (hcall:∀w0:fU gs,oZ P w0 ch) (hloop:Dt P w0 tb lp) {f:Nat} {fn:Func} {us:List GV} {H:GH} {out:IQ} (h1:P.funcs[f]? = some fn) (hok:TS tb fn=true) (h:MZ tb ch lp fn us H=some out) (he:out.e = .ret) {ρ:eL} {w:World} {vs:List Value} (R:gJ w0 ρ H w) (hr:tP ρ us vs):
  Calls P f vs.toArray w fun e w'=>∃v ρ',e = .returned v∧ρ.le ρ'∧gJ w0 ρ' out.H w'∧Rl ρ' (Np out.vs) v:=by
 obtain⟨h3,h4⟩:=Js hok
 obtain⟨body,hb,h⟩:=aE.1 (show ob fn.body _=some out from h)
 obtain⟨σ,hσ,h⟩:=nG h
 rw[List.range_eq_range']at hσ
 have hlen:=Ff hσ
 have hvl:vs.length<=fn.ntmps:=by rw[<-hr.len,hlen];exact h4
 refine Ag h1 hb ?_
 have F:iN ρ fn.ntmps σ {tmps:=vs.toArray++Array.replicate (fn.ntmps - vs.toArray.size) undef,defers:=[]}:=by
  refine HD rfl (by simp;omega) hr (fun j v hv=> ?_) hσ
  have hlt:=aV hv
  rw[Nat.zero_add,Array.getElem?_append_left (by simpa using hlt)]
  simpa using hv
 refine Ah hT hm hcall hloop body _ _ _ ⟨σ,H⟩ out ρ _ w _ (h3 body hb) h F R ⟨fun s' ρ' a' w' hk hle' F' R'=> ?_,fun id s' ρ' a' w' hk hle' F' R'=> ?_,fun s' ρ' a' w' hk hle' F' R'=> ?_⟩
 ·obtain⟨e1,v,hv,hres⟩:=CZ (fn:=fn) hT rfl F' R' hk
  exact Sx.body_end (.inr rfl) F'.defers hres ⟨v,ρ',rfl,hle',by rw[e1];exact R',hv⟩
 ·have:=yA hk
  rw[he]at this;cases this
 ·obtain⟨e1,v,hv,hres⟩:=CZ (fn:=fn) hT rfl F' R' hk
  exact Sx.body_end (.inl rfl) F'.defers hres ⟨v,ρ',rfl,hle',by rw[e1];exact R',hv⟩
noncomputable def GT (tb:TB) (f:Nat) (fn:Func):CH:=fun g us H=>bif Nat.beq g f then Hg (MZ tb (fun _ _ _=>none) (fun _ _ _ _=>none) fn us H)else none
theorem OF (hT:eB P tb) (hm:P.follows .mixedOrders=true) {f:Nat} {fn:Func} (h1:P.funcs[f]? = some fn) (hb:bE P f) (hok:TS tb fn=true):oZ P w0 (GT tb f fn):=fun g us H x H' h ρ w vs R hr=>by
 unfold GT at h
 cases h2:Nat.beq g f with
 |false=>rw[h2]at h;cases h
 |true=>
 rw[h2]at h
 have h2:=Nat.eq_of_beq_eq_true h2
 subst h2
 replace h:Hg (MZ tb (fun _ _ _=>none) (fun _ _ _ _=>none) fn us H)=some (x,H'):=h
 unfold Hg at h
 obtain⟨o,h3,h4⟩:=aE.1 h
 cases he:o.e with
 |normal=>rw[he]at h4;cases h4
 |exit id=>rw[he]at h4;cases h4
 |ret=>
  rw[he]at h4;cases h4
  exact .inr ⟨hb _ w,QS hT hm (fun _=>Jb) El h1 hok h3 he R hr⟩
theorem NB {id:Nat} {o:Oper} {l:List Oper} {Q:Exit->Act->List Frame->World->Prop} {a:Act} {cs:List Frame} {w:World} (hnd:l.all fV=true) (hg:o.guard=none) (hrun:(execOp a.eval o).run P w = .ok .recover w)
  (hrec:recoverD cs=none) (h:Sx.wpList P (o::l).toArray (fun e a' w'=>Q e a' cs w') l (a.put o.dst .nilIface) w):(Code.region id (o::l).toArray false).wpSIn (FR none) 0 P Q a cs w:=by
 intro b k hb hro hF hroom
 have ho:(o::l).toArray[0]? = some o:=by simp
 obtain⟨e,a',w',hq,harr⟩:=wp_opsIn (F:=FR none) (n:=0) (Q:=fun e a' w'=>Q e a' cs w') (ops:=(o::l).toArray) (List.range' 1 l.length) (a.put o.dst .nilIface) w
  (by rw[wpOpsIn_eq_wpListIn l 1 (by intro j;simp[Nat.add_comm 1 j])];exact Sx.wpList_in l _ w hnd h) b k cs hro hF hroom
 have hw:Region.wanted o (yielded (o::l).toArray a.tmps)=true:=by simp[Region.wanted,hg]
 have h0:(lone (b.atR a (.inRegion (o::l).toArray (0::List.range' 1 l.length)::k)) cs w).fenced P (FR none):=fenced_oper hF hroom ho (fun _ _=>trivial)
 have hg':=stepGR_op (P:=P) (b:=b) (k:=k) (cs:=cs) (w:=w) (rest:=List.range' 1 l.length) ho hw
 rw[hro,Oper.semAt_none]at hg'
 have hfin:∀v,(b.atR a (.inRegion (o::l).toArray (0::List.range' 1 l.length)::k)).finish v=b.atR (a.put o.dst v) (.inRegion (o::l).toArray (List.range' 1 l.length)::k):=by
  intro v;rw[Frame.finish_atR,ho];rfl
 have hk:(b.atR a (.inRegion (o::l).toArray (0::List.range' 1 l.length)::k)).kind = .deferred:=hb
 have htr:=tryRecover_deferred hk cs
 have hr:List.range (o::l).toArray.size=0::List.range' 1 l.length:=by simp[List.range_eq_range',List.range'_succ]
 have hs:=stepR_region (P:=P) (b:=b) (a:=a) (k:=k) (cs:=cs) (w:=w) (id:=id) (ops:=(o::l).toArray)
 rw[hr]at hs
 refine⟨e,a',cs,w',rfl,hq,.of_steps (.head (fenced_calm hF hroom rfl) hs (.one h0 (step_lone_go ?_))) harr⟩
 rw[hg',<-hfin]
 simp only[Frame.atR,hro]at htr ⊢
 simp[stepG.apply,hrun,htr,hrec]
theorem MQ {ch:CH} {lp:LH} (hT:eB P tb) (hm:P.follows .mixedOrders=true) {f:Nat} {fn:Func} {id m d:Nat} {o:Oper} {l:List Oper} {rest:Code} {cx:Cx} {out:IQ} {args:Array Value} {w:World}
  (hcall:∀w0:fU Ve,oZ P w0 ch) (hloop:Dt P (fU.one w) tb lp) (hf:P.funcs[f]? = some fn) (hb:fn.body=some (.seq (.region id (o::l).toArray false) rest)) (hg:o.guard=none) (hd:o.dst=some d) (hdn:d<fn.ntmps)
  (hrun:∀ρ w,(execOp ρ o).run P w = .ok .recover w) (hl:l.all (DK fn.ntmps)=true) (hr:Do tb fn.ntmps rest=true) (hres:fn.results = #[]) (hsz:args.size<=fn.ntmps)
  (h:BJ tb ch (o::l) (QR tb ch lp rest m cx (CY [])) l ⟨[(d,.inil)],H0⟩=some out) (he:out.e = .normal):
  CallsDIn (FR none) 0 P f args .returning w fun e u' w'=>∃v,e = .returned v∧u' = .returning∧J_ w w':=by
 have hnd:l.all fV=true:=List.all_eq_true.2 fun o hmo=>(qU (List.all_eq_true.1 hl o hmo)).1
 refine callsDIn_of_wpSIn hf hb trivial fun c₀ cs hu=> ?_
 have hrec:recoverD (c₀::cs)=none:=by simp[recoverD,hu]
 refine wpSIn_seq (NB hnd hg (hrun _ _) hrec ?_)
 have F:iN (fun _=>none) fn.ntmps [(d,.inil)] (({tmps:=args++Array.replicate (fn.ntmps - args.size) undef,defers:=[]}:Act).put o.dst .nilIface):=by
  rw[hd]
  refine iN.put ⟨rfl,by simp;omega,fun t g hg=>(by cases hg)⟩ hdn ?_
  exact .inil
 refine CN hT (hcall (fU.one w)) l ⟨[(d,.inil)],H0⟩ _ _ w hl F (GN (fU.one w) rfl) h fun s' ρ' a' w' hk hle' F' R'=> ?_
 refine wpSIn_of_wpIn rfl ?_
 refine Ah hT hm hcall hloop rest _ _ _ s' out ρ' a' w' _ hr hk F' R' ⟨fun s2 ρ2 a2 w2 hk2 hle2 F2 R2=> ?_,fun id s2 ρ2 a2 w2 hk2 hle2 F2 R2=> ?_,fun s2 ρ2 a2 w2 hk2 hle2 F2 R2=> ?_⟩
 ·refine⟨F2.defers,c₀.mode,rfl,.tuple #[],?_,_,rfl,hu,R2.ext.ext⟩
  simp[results,hres]
 ·have:=yA hk2
  rw[he]at this;cases this
 ·have:=Im hk2
  rw[he]at this;cases this
theorem EX {o:Oper} {l:List Oper} {ops:Array Oper} {Q:Exit->Act->World->Prop} {a:Act} {w w':World} {v:Value} (hg:o.guard=none) (hr:(execOp a.eval o).run P w = .ok (.value v) w') (h:Sx.wpList P ops Q l (a.put o.dst v) w'):Sx.wpList P ops Q (o::l) a w:=by
 unfold Sx.wpList
 rw[if_pos (by simp[Region.wanted,hg])]
 exact .inl (by simp only[Oper.wp,hr,Oper.upon];exact h)
theorem JW {o:Oper} {l:List Oper} {ops:Array Oper} {Q:Exit->Act->World->Prop} {a:Act} {w w':World} (hg:o.guard=none) (hr:(execOp a.eval o).run P w = .ok .skip w') (h:Sx.wpList P ops Q l (a.put o.dst undef) w'):Sx.wpList P ops Q (o::l) a w:=by
 unfold Sx.wpList
 rw[if_pos (by simp[Region.wanted,hg])]
 exact .inl (by simp only[Oper.wp,hr,Oper.upon];exact h)
theorem NC {o:Oper} {l:List Oper} {ops:Array Oper} {Q:Exit->Act->World->Prop} {a:Act} {w:World} {f:Nat} {args:Array Value} {S:Value->World->Prop} (hg:o.guard=none) (hr:(execOp a.eval o).run P w = .ok (.enter f args) w)
  (hc:Calls P f args w fun e w'=>∃v,e = .returned v∧S v w') (h:∀v w',S v w'->Sx.wpList P ops Q l (a.put o.dst v) w'):Sx.wpList P ops Q (o::l) a w:=by
 unfold Sx.wpList
 rw[if_pos (by simp[Region.wanted,hg])]
 refine .inl ?_
 simp only[Oper.wp,hr,Oper.upon]
 refine hc.mono ?_
 rintro e w' ⟨v,rfl,hs⟩
 exact h v w' hs
theorem Tt (hT:eB P tb) {c cc T1 T2 i0 i1 i2 i3 y0 y1 y2 y3 y4 y5 y6 y7:Nat} {p0 p1 p2 p3 p4 p5 p6 p7:String} {e0 e1 e2 e3 e4 e5 e6 e7:Array Edge} {fn:Func} (hf:P.funcs[c]? = some fn) (hbd:bE P c) (hcc:bE P cc)
  (hb:fn.body=some (.seq (.region i0 #[⟨some 2,.alloc T1,y0,p0,e0,none⟩,⟨some 3,.alloc T2,y1,p1,e1,none⟩] false)
   (.seq (.region i1 #[⟨some 4,.makeFunc (.func cc) #[] #[.tmp 2,.tmp 3],y2,p2,e2,none⟩,⟨none,.defer ⟨.value (.tmp 4),#[],#[]⟩,y3,p3,e3,none⟩] false)
   (.seq (.region i2 #[⟨some 5,.move (.tmp 0),y4,p4,e4,none⟩,⟨some 6,.call ⟨.value (.tmp 5),#[],#[]⟩,y5,p5,e5,none⟩] false)
   (.seq (.region i3 #[⟨none,.store T1 (.tmp 2) (.const (.int .i64 0)),y6,p6,e6,none⟩,⟨none,.store T2 (.tmp 3) (.const (.int .i64 0)),y7,p7,e7,none⟩] false) .ret)))))
  (hn:fn.ntmps=7) (hres:fn.results = #[.cell 2 T1,.cell 3 T2])
  (hA1:∀H,oO tb T1 H=some (.ptr H.n 0,H.new (.cells [vG]))) (hA2:∀H,oO tb T2 H=some (.ptr H.n 0,H.new (.cells [vG])))
  (hS1:∀H h c,GH.cells H h=some [c]->qG tb T1 (.ptr h 0) vG H=some (.un,H.set h (.cells [vG]))) (hS2:∀H h c,GH.cells H h=some [c]->qG tb T2 (.ptr h 0) vG H=some (.un,H.set h (.cells [vG])))
  (hL1:∀H h,GH.cells H h=some [vG]->tJ tb T1 (.ptr h 0) H=some vG) (hL2:∀H h,GH.cells H h=some [vG]->tJ tb T2 (.ptr h 0) H=some vG)
  (hdef:∀args w,args.size=2->CallsDIn (FR none) 0 P cc args .returning w fun e u' w'=>∃v,e = .returned v∧u' = .returning∧J_ w w')
  {ρ:eL} {g:Nat} {us cs:List Value} {w:World} {H H':GH} {c1 c2:GV} (R:gJ w0 ρ H w) (hc:∀ρ' w',ρ.le ρ'->gJ w0 ρ' ((H.new (.cells [vG])).new (.cells [vG])) w'->∃x,sI P w0 ρ' g (us++cs) w' x H') (h1:H'.cells H.n=some [c1]) (h2:H'.cells (H.n+1)=some [c2]):
  sI P w0 ρ c [.func (.func g) us.toArray cs.toArray] w (.tup [vG,vG]) ((((H'.set H.n (.cells [vG])).set (H.n+1) (.cells [vG])).del H.n).del (H.n+1)):=by
 refine .inr ⟨hbd _ w,?_⟩
 refine Jc (r:=none) (n:=0) (callsIn_of_wp_defers hf hb trivial ?_)
 rw[hn]
 obtain⟨v1,w1,ρ1,hr1,hle1,R1,hv1⟩:=DY (P:=P) hT R (hA1 H)
 obtain⟨v2,w2,ρ2,hr2,hle2,R2,hv2⟩:=DY (P:=P) hT R1 (hA2 _)
 obtain⟨x,hx⟩:=hc ρ2 w2 (eL.le_trans hle1 hle2) R2
 refine wpIn_seq (qH rfl ?_)
 refine EX rfl (v:=v1) (w':=w1) (by simp[execOp,hr1]) ?_
 refine EX rfl (v:=v2) (w':=w2) (by simp[execOp,hr2]) ?_
 show Code.wpIn (FR none) 0 P _ _ (⟨#[.func (.func g) us.toArray cs.toArray,undef,v1,v2,undef,undef,undef],[]⟩:Act) w2
 refine wpIn_seq (wpIn_region_lit ?_)
 refine wpListIn_plain rfl fun K hK=>⟨fun _ _=>trivial,?_⟩
 have hm:(Oper.semAt (FR none).round (⟨#[.func (.func g) us.toArray cs.toArray,undef,v1,v2,undef,undef,undef],[]⟩:Act).eval ⟨some 4,.makeFunc (.func cc) #[] #[.tmp 2,.tmp 3],y2,p2,e2,none⟩).run P w2 = .ok (.value (.func (.func cc) #[] #[v1,v2])) w2:=by
  rw[show(FR none).round=none from rfl,Oper.semAt_none]
  simp[execOp,Instr.makeFunc,Act.eval]
 rw[hm]
 refine hK _ _ ?_
 show wpListIn _ _ _ _ _ _ (⟨#[.func (.func g) us.toArray cs.toArray,undef,v1,v2,.func (.func cc) #[] #[v1,v2],undef,undef],[]⟩:Act) w2
 refine wpListIn_plain rfl fun K hK=>⟨fun _ _=>trivial,?_⟩
 have hm:(Oper.semAt (FR none).round (⟨#[.func (.func g) us.toArray cs.toArray,undef,v1,v2,.func (.func cc) #[] #[v1,v2],undef,undef],[]⟩:Act).eval ⟨none,.defer ⟨.value (.tmp 4),#[],#[]⟩,y3,p3,e3,none⟩).run P w2 = .ok (.defer ⟨.fn (.func cc) #[v1,v2],#[]⟩) w2:=by
  rw[show(FR none).round=none from rfl,Oper.semAt_none]
  simp[execOp,resolve,Act.eval,Deferred.ofValue]
 rw[hm]
 refine hK _ _ ?_
 show Code.wpIn (FR none) 0 P _ _ (⟨#[.func (.func g) us.toArray cs.toArray,undef,v1,v2,.func (.func cc) #[] #[v1,v2],undef,undef],[⟨.fn (.func cc) #[v1,v2],#[]⟩]⟩:Act) w2
 refine wpIn_seq (qH rfl ?_)
 refine EX rfl (v:= .func (.func g) us.toArray cs.toArray) (w':=w2) (by simp[execOp,Act.eval]) ?_
 show Sx.wpList _ _ _ _ (⟨#[.func (.func g) us.toArray cs.toArray,undef,v1,v2,.func (.func cc) #[] #[v1,v2],.func (.func g) us.toArray cs.toArray,undef],[⟨.fn (.func cc) #[v1,v2],#[]⟩]⟩:Act) w2
 have go:∀v w3 ρ3,ρ2.le ρ3->gJ w0 ρ3 H' w3->Code.wpIn (FR none) 0 P (.seq (.region i3 #[⟨none,.store T1 (.tmp 2) (.const (.int .i64 0)),y6,p6,e6,none⟩,⟨none,.store T2 (.tmp 3) (.const (.int .i64 0)),y7,p7,e7,none⟩] false) .ret) (bodyPostDIn (FR none) 0 P fn fun e w'=>∃v ρ',e = .returned v∧ρ.le ρ'∧gJ w0 ρ' ((((H'.set H.n (.cells [vG])).set (H.n+1) (.cells [vG])).del H.n).del (H.n+1)) w'∧Rl ρ' (.tup [vG,vG]) v) (⟨#[.func (.func g) us.toArray cs.toArray,undef,v1,v2,.func (.func cc) #[] #[v1,v2],.func (.func g) us.toArray cs.toArray,v],[⟨.fn (.func cc) #[v1,v2],#[]⟩]⟩:Act) w3:=by
  intro v w3 ρ3 hle3 R3
  have hz:∀ρ,Rl ρ vG (.int .i64 0):=fun ρ=> .int _ _
  obtain⟨_,w4,ρ4,hr4,hle4,R4⟩:=DZ (P:=P) (T:=T1) hT R3 ((hv1.le hle2).le hle3) (hz _) (hS1 _ _ _ h1)
  have h2':(H'.set H.n (.cells [vG])).cells (H.n+1)=some [c2]:=by
   rw[gA]at h2 ⊢
   rw[pA,if_neg (by omega)];exact h2
  obtain⟨_,w5,ρ5,hr5,hle5,R5⟩:=DZ (P:=P) (T:=T2) hT R4 ((hv2.le hle3).le hle4) (hz _) (hS2 _ _ _ h2')
  refine wpIn_seq (qH rfl ?_)
  refine JW rfl (w':=w4) (by simp[execOp,Act.eval,hr4]) ?_
  refine JW rfl (w':=w5) (by simp[execOp,Act.eval,Act.put,hr5]) ?_
  refine wpIn_ret ?_
  show LeavesIn (FR none) 0 P fn #[.func (.func g) us.toArray cs.toArray,undef,v1,v2,.func (.func cc) #[] #[v1,v2],.func (.func g) us.toArray cs.toArray,v] _ [⟨.fn (.func cc) #[v1,v2],#[]⟩] .returning w5
  refine leavesIn_cons (f:=cc) (args:= #[v1,v2]) (by simp) (by simp[FR,Fence.wide]) (by simp[invoke,hcc _ w5]) (fun _ _=>trivial) ?_
  refine(hdef #[v1,v2] w5 rfl).mono ?_
  rintro e u' w6 ⟨x6,rfl,rfl,hext⟩
  have R6:=R5.ext' hext
  have F:iN ρ5 7 [(2,.ptr H.n 0),(3,.ptr (H.n+1) 0)] (⟨#[.func (.func g) us.toArray cs.toArray,undef,v1,v2,.func (.func cc) #[] #[v1,v2],.func (.func g) us.toArray cs.toArray,v],[]⟩:Act):=by
   refine⟨rfl,rfl,fun t g hg=> ?_⟩
   rw[yE]at hg
   by_cases h2:t=2
   ·rw[if_pos h2]at hg;cases hg;rw[h2]
    exact(((hv1.le hle2).le hle3).le hle4).le hle5
   ·rw[if_neg h2,yE]at hg
    by_cases h3:t=3
    ·rw[if_pos h3]at hg;cases hg;rw[h3]
     exact((hv2.le hle3).le hle4).le hle5
    ·rw[if_neg h3]at hg;cases hg
  have hres':KX tb ⟨fn.results.toList,0,[]⟩ ⟨[(2,.ptr H.n 0),(3,.ptr (H.n+1) 0)],(H'.set H.n (.cells [vG])).set (H.n+1) (.cells [vG])⟩=some ⟨.ret,[vG,vG],(H'.set H.n (.cells [vG])).set (H.n+1) (.cells [vG])⟩:=by
   rw[hres]
   have q1:tJ tb T1 (.ptr H.n 0) ((H'.set H.n (.cells [vG])).set (H.n+1) (.cells [vG]))=some vG:=hL1 _ _ (by rw[gA,pA,if_neg (by omega),pA,if_pos rfl])
   have q2:tJ tb T2 (.ptr (H.n+1) 0) ((H'.set H.n (.cells [vG])).set (H.n+1) (.cells [vG]))=some vG:=hL2 _ _ (by rw[gA,pA,if_pos rfl])
   show ob (ob (tJ tb T1 (.ptr H.n 0) _) fun v=>ob (ob (tJ tb T2 (.ptr (H.n+1) 0) _) fun v=>ob (some []) fun vs=>some (v::vs)) fun vs=>some (v::vs)) _=_
   rw[q1,q2];rfl
  obtain⟨_,v6,hv6,hr6⟩:=CZ (fn:=fn) (P:=P) hT rfl F R6 hres'
  exact⟨v6,hr6,v6,ρ5,rfl,eL.le_trans hle1 (eL.le_trans hle2 (eL.le_trans hle3 (eL.le_trans hle4 hle5))),(R6.del _).del _,hv6⟩
 rcases hx with⟨v,w3,ρ3,hr,hle3,R3,_⟩|⟨hr,hcalls⟩
 ·refine EX rfl (v:=v) (w':=w3) (by simpa [execOp,resolve,Act.eval,Deferred.ofValue,invoke]using hr) ?_
  exact go v w3 ρ3 hle3 R3
 ·refine NC rfl (f:=g) (args:=(us++cs).toArray) (S:=fun v w'=>∃ρ',ρ2.le ρ'∧gJ w0 ρ' H' w') (by simpa [execOp,resolve,Act.eval,Deferred.ofValue,invoke]using hr) (hcalls.mono ?_) fun v w3 ⟨ρ3,hle3,R3⟩=>go v w3 ρ3 hle3 R3
  rintro e w' ⟨v,ρ',rfl,hle,R',_⟩
  exact⟨v,rfl,ρ',hle,R'⟩
end
end
section
noncomputable section
def KG (n c:Nat) (len:Nat):Nat->Option Nat:=Nat.rec (motive:=fun _=>Nat->Option Nat) (fun _=>none) (fun _ ih i=>Bool.casesOn (motive:=fun _=>Option Nat) (Nat.beq (Nat.mod (Nat.shiftRight n (Nat.mul 8 i)) 256) c) (ih (Nat.succ i)) (some i)) len
def WS (k:IntKind):Bool:=match k with
 | .u8=>true
 |_=>false
def QV (fx:Nat) (f:Nat) (us:List GV):Option GV:=bif Nat.beq f fx then List.casesOn (motive:=fun _=>Option GV) us none (fun a r=>List.casesOn (motive:=fun _=>Option GV) r none fun c r=>List.casesOn (motive:=fun _=>Option GV) r (ob a.asStr fun s=>ob c.asI fun p=>ob (SI p.2) fun k=>
 bif WS p.1 then(bif Nat.blt k 256 then Option.casesOn (motive:=fun _=>Option GV) (KG s.1 k s.2 0) (some (.int .i64 (.negSucc 0))) (fun i=>some (.int .i64 (.ofNat i)))else none)else none) fun _ _=>none)else none
theorem LE (x:List UInt8) (c:Nat) (hc:c<256):∀k i,i+k=x.length->(match KG (jX x) c k i with|none=>(-1:Int)|some j=>(j:Int))=(if Lib.indexByte (x.drop i) c.toUInt8 = -1 then -1 else Lib.indexByte (x.drop i) c.toUInt8+i)
 |0,i,h=>by
  rw[List.drop_of_length_le (by omega)]
  simp[KG,Lib.indexByte]
 | k + 1, i, h => by
  have ih:=LE x c hc k (i+1) (by omega)
  have hi:i<x.length:=by omega
  have e:KG (jX x) c (k+1) i=Bool.casesOn (motive:=fun _=>Option Nat) (Nat.beq (Nat.mod (Nat.shiftRight (jX x) (Nat.mul 8 i)) 256) c) (KG (jX x) c k (i+1)) (some i):=rfl
  rw[e,Ly x i hi,List.drop_eq_getElem_cons hi]
  have hcc:(x[i]).toNat=c↔x[i]=c.toUInt8:=by
   rw[<-UInt8.toNat_inj]
   have:c.toUInt8.toNat=c:=by simp[Nat.toUInt8];omega
   rw[this]
  unfold Lib.indexByte
  cases hb:Nat.beq (x[i]).toNat c with
  |true=>
   have:=hcc.1 (Nat.eq_of_beq_eq_true hb)
   simp[this]
  | false =>
   have hne:¬x[i]=c.toUInt8:=fun h'=>by
    have:=hcc.2 h'
    rw[this]at hb
    simp at hb
   have hge:=Lib.indexByte_ge (x.drop (i+1)) c.toUInt8
   simp only[beq_iff_eq,hne,if_false]
   rw[ih]
   by_cases h1:Lib.indexByte (x.drop (i+1)) c.toUInt8 = -1
   ·simp[h1]
   ·rw[if_neg h1,if_neg h1,if_neg (by omega)]
    push_cast;omega
section
variable {P:Program} {gs:zH} {w0:fU gs}
theorem QW {fx:Nat} {fn:Func} (hf:P.funcs[fx]? = some fn) (hname:(fn.name == "runtime.NumGoroutine")=false) (hb:fn.body.isNone=true) (hn:Extern.findNext fn=none) (he:Extern.find fn=some Extern.BytealgIndexByte.indexByte)
  {f:Nat} {us:List GV} {g:GV} (h:QV fx f us=some g) (ρ:eL) (w:World) (vs:List Value) (H:GH) (R:gJ w0 ρ H w) (hr:tP ρ us vs):sI P w0 ρ f vs w g H:=by
 unfold QV at h
 replace h:=bL.1 h
 have h1:=Nat.eq_of_beq_eq_true h.1
 replace h:=h.2
 subst h1
 cases us with
 |nil=>cases h
 |cons a us=>
 cases us with
 |nil=>cases h
 |cons c us=>
 cases us with
 |cons _ _=>cases h
 |nil=>
 obtain⟨s,hs,h⟩:=aE.1 (show ob a.asStr _=some g from h)
 obtain⟨p,hp,h⟩:=aE.1 h
 obtain⟨k,hk,h⟩:=aE.1 h
 obtain⟨hu,h⟩:=bL.1 h
 obtain⟨hlt,h⟩:=bL.1 h
 obtain⟨v,vs,rfl,hv,hr⟩:=hr.of_cons
 obtain⟨v',vs,rfl,hv',hr⟩:=hr.of_cons
 rw[hr.of_nil]
 rw[pG hs]at hv
 rw[kQ hp]at hv'
 obtain⟨S,rfl,e1,e2⟩:=hv.str_inv
 have hv':=hv'.int_inv
 subst hv'
 have hpu:p.1 = .u8:=by cases hq:p.1<;>rw[hq]at hu<;>first|rfl|cases hu
 have hk':p.2=(k:Int):=Cc hk
 have hlt:k<256:=by simpa using hlt
 refine .inl ⟨.int .i64 (Lib.indexByte S.data.toList p.2.toNat.toUInt8),w,ρ,?_,eL.le_refl _,R,?_⟩
 ·rw[run_callFunc_extern hf hname hb hn he,hpu,Lib.run_indexByteString]
  rfl
 ·have key:=LE (bI S) k hlt s.2 0 (by omega)
  rw[e1]at h
  rw[List.drop_zero]at key
  have e3:Lib.indexByte S.data.toList p.2.toNat.toUInt8=(match KG (jX (bI S)) k s.2 0 with|none=>(-1:Int)|some j=>(j:Int)):=by
   rw[key,hk']
   have:bI S=S.data.toList:=rfl
   rw[this]
   simp only[Int.toNat_natCast]
   split
   ·assumption
   ·omega
  rw[e3]
  cases hx:KG (jX (bI S)) k s.2 0 with
  |none=>rw[hx]at h;cases h;exact .int _ _
  |some j=>rw[hx]at h;cases h;exact .int _ _
end
end
end
section
noncomputable section
section
variable {α R:Type}
def a0 (us:List α) (k:Option R):Option R:=List.casesOn (motive:=fun _=>Option R) us k (fun _ _=>none)
def a1 (us:List α) (k:α->Option R):Option R:=List.casesOn (motive:=fun _=>Option R) us none fun a r=>a0 r (k a)
def a2 (us:List α) (k:α->α->Option R):Option R:=List.casesOn (motive:=fun _=>Option R) us none fun a r=>a1 r (k a)
def a3 (us:List α) (k:α->α->α->Option R):Option R:=List.casesOn (motive:=fun _=>Option R) us none fun a r=>a2 r (k a)
def a4 (us:List α) (k:α->α->α->α->Option R):Option R:=List.casesOn (motive:=fun _=>Option R) us none fun a r=>a3 r (k a)
def a5 (us:List α) (k:α->α->α->α->α->Option R):Option R:=List.casesOn (motive:=fun _=>Option R) us none fun a r=>a4 r (k a)
def a6 (us:List α) (k:α->α->α->α->α->α->Option R):Option R:=List.casesOn (motive:=fun _=>Option R) us none fun a r=>a5 r (k a)
end
end
section
variable {P:Program} {gs:zH} {w0:fU gs} {w:World} {ρ:eL} {H H':GH} {g:GV}
theorem TH (w:World) (S:Nat->Prop) (_:∀h∈([]:List bB),h.p w S):∃_:Nat,IF Ve w fun _=>False:=⟨0,fun _ h=>absurd h List.not_mem_nil⟩
theorem Ia {gs:Nat->zH} {f:Nat} {V:Value} {L:List bB} (hL:∀w S,(∀h∈L,h.p w S)->∃T,IF (gs T) w fun _=>False) (hb:bE P f) (hv:∀ρ V',Rl ρ g V'->V'=V) (h:∀T (b:fU (gs T)),sI P b (fun _=>none) f [] b.w g H'):aZ P f #[] L (fun _:Unit=>V) (fun _ l=>l) (fun _ l=>l):=by
 intro w0 S0 hw
 obtain⟨T,hT⟩:=hL w0 S0 hw
 rcases h T (.of w0 hT)with⟨v,w',ρ',hr,_⟩|⟨_,hc⟩
 ·have hq:=hb #[] w0
  rw[show([]:List Value).toArray = #[]from rfl]at hr
  rw[show(fU.of w0 hT).w=w0 from rfl,hq]at hr;cases hr
 refine hc.mono ?_
 rintro e w' ⟨v,ρ',rfl,_,R,hr⟩
 exact⟨(),by rw[hv _ _ hr],R.ext,fun _ _=>False,⟨fun i m hm=>by simp at hm,fun i k h=>h.elim,fun i j k h=>h.elim⟩,fun f hf=>by simp at hf⟩
section
variable {tb:TB} {T:TypeId}
theorem Lp (h:zG tb T=some [vG]) (H:GH):oO tb T H=some (.ptr H.n 0,H.new (.cells [vG])):=by
 unfold oO
 rw[h]
 show H.newK (.cells [vG]) (fun h H'=>some (GV.ptr h 0,H'))=_
 rw[gN]
theorem Mj {t:Ty} (h:tb T=some t) (hs:t.size=1) (H:GH) (k:Nat) (c:GV) (hc:GH.cells H k=some [c]):qG tb T (.ptr k 0) vG H=some (.un,H.set k (.cells [vG])):=by
 show ob (H.cells k) (fun cs=>ob (tb T) fun t=>bif Nat.beq 1 t.size then bif Nat.beq t.size 0 then none else ob (CO [vG] 0 cs) fun cs'=>H.setK k (.cells cs') fun H'=>some (GV.un,H')else none)=_
 rw[hc,h]
 show(bif Nat.beq 1 t.size then bif Nat.beq t.size 0 then none else ob (CO [vG] 0 [c]) fun cs'=>H.setK k (.cells cs') fun H'=>some (GV.un,H')else none)=_
 rw[hs]
 show H.setK k (.cells [vG]) (fun H'=>some (GV.un,H'))=_
 rw[vJ]
theorem O_ {t:Ty} (h:tb T=some t) (ha:xO t.desc=false) (H:GH) (k:Nat) (hc:GH.cells H k=some [vG]):tJ tb T (.ptr k 0) H=some vG:=by
 show ob (H.cells k) (fun cs=>ob (tb T) fun t=>yX t cs 0)=_
 rw[hc,h]
 show yX t [vG] 0=_
 unfold yX
 rw[ha];rfl
end
def HO (fn:Func):List Oper:=match fn.body with
 |some (.seq (.region _ ops _) _)=>ops.toList
 |_=>[]
def OA (fn:Func):Code:=match fn.body with
 |some (.seq _ c)=>c
 |_=> .skip
def QK (fn:Func):Nat:=match HO fn with
 |o::_=>o.dst.getD 0
 | []=>0
def YN (r:RS):Bool:=match r with
 |some o=>match o.e with
  | .normal=>true
  |_=>false
 |none=>false
theorem Pg {r:RS} (h:YN r=true):∃out,r=some out∧out.e = .normal:=by
 unfold YN at h
 cases r with
 |none=>cases h
 |some o=>
  refine⟨o,rfl,?_⟩
  cases he:o.e<;>simp only[he]at h<;>first|rfl|cases h
def WV (r:OR):Bool:=match r with
 |some (.bool true,_)=>true
 |_=>false
theorem Ph {r:OR} (h:WV r=true):∃H',r=some (.bool true,H'):=by
 unfold WV at h
 split at h
 ·exact⟨_,rfl⟩
 ·cases h
end
end
end Go.Gx
end
section
set_option maxRecDepth 100000
namespace Go.Gx
open Go Go.Sx Go.Proofs Go.Proofs.YthnplbmmlbnelaaGreat
noncomputable section
def TG (f:Nat) (us:List GV) (H:GH):Option (GV×GH):=none
abbrev gl:Nat->zH:=fun _:Nat=>Ve
def gp:GP:=⟨vH,71,TG,QV 156⟩
section
variable {T:Nat} {w0:fU (gl T)} {w:World} {ρ:eL} {H H':GH} {g:GV} {us:List GV} {vs:List Value}
theorem QX {f:Nat} (h:TG f us H=some (g,H')) (R:gJ w0 ρ H w) (hr:tP ρ us vs):sI Tryz.prog w0 ρ f vs w g H':=by
 unfold TG at h
 cases h
end
theorem TE:UV Tryz.prog vH=true:=by kernel_rfl
theorem EV:eB Tryz.prog vH:=⟨JK,TD TE⟩
theorem Ue {gs:zH} (w0:fU gs):oZ Tryz.prog w0 (GT vH 98 Tryz.f98):=OF EV mixedOrders Tryz.func98 Tryz.call98 (by kernel_rfl)
theorem Tw (args:Array Value) (w:World) (hs:args.size=2):CallsDIn (FR none) 0 Tryz.prog 97 args .returning w fun e u' w'=>∃v,e = .returned v∧u' = .returning∧J_ w w':=by
 obtain⟨out,h,he⟩:=Pg (r:=BJ vH (GT vH 98 Tryz.f98) (HO Tryz.f97) (QR vH (GT vH 98 Tryz.f98) (fun _ _ _ _=>none) (OA Tryz.f97) 0 ⟨[],0,[]⟩ (CY [])) (HO Tryz.f97).tail ⟨[(QK Tryz.f97,.inil)],H0⟩) (by kernel_rfl)
 exact MQ (ch:=GT vH 98 Tryz.f98) (lp:=fun _ _ _ _=>none) EV mixedOrders Ue El Tryz.func97 rfl rfl rfl (by decide +kernel) (fun ρ w=>by simp[execOp,resolve,invoke,builtin]) (by kernel_rfl) (by kernel_rfl) rfl (by rw[hs];decide +kernel) h he
theorem WR {gs:zH} {ext:FuncId->List GV->GH->Option (GV×GH)} (hx:∀(w0:fU gs) {f us H g H'},ext f us H=some (g,H')->∀ρ w vs,gJ w0 ρ H w->tP ρ us vs->sI Tryz.prog w0 ρ f vs w g H') (w0:fU gs):Uv Tryz.prog ⟨vH,71,ext,QV 156⟩ KY.fns w0:=by
 refine⟨EV,mixedOrders,fun h=> ?_,hx w0,fun h ρ w vs H R hr=>QW Tryz.func156 rfl rfl rfl rfl h ρ w vs H R hr,fun R hc h1 h2=> ?_⟩
 ·obtain⟨e,he,h⟩:=aE.1 (show ob (Md _) _=some _ from h)
  cases h
  obtain⟨q1,q2,q3⟩:=Pz he
  exact⟨q1,q2,Js q3⟩
 ·exact Tt (tb:=vH) (T1:=3) (T2:=30) (cc:=97) EV Tryz.func71 Tryz.call71 Tryz.call97 rfl rfl rfl (Lp (by kernel_rfl)) (Lp (by kernel_rfl)) (Mj rfl rfl) (Mj rfl rfl) (O_ rfl rfl) (O_ rfl rfl) Tw R hc h1 h2
theorem gok {T:Nat} (w0:fU (gl T)):Uv Tryz.prog gp KY.fns w0:=WR (fun w0 f us H g H' h ρ w vs R hr=>QX h R hr) w0
end
end Go.Gx
end
section
namespace Go.Proofs.YthnplbmmlbnelaaGreat
open Go Go.Sx Go.Gx
set_option maxRecDepth 100000
def vX (fuel:Nat):Option (Bool):=some (true)
theorem Ou:bE Tryz.prog 6:=Tryz.call6
theorem QN:WV (OD KY gp 4000 6 [] H0)=true:=by kernel_rfl
theorem BO (fuel:Nat) (r:Bool) (h:vX fuel=some r):
  aZ Tryz.prog 6 #[] [] (fun x:Unit=>Value.bool (r)) (fun x l=>l) (fun _ l=>l):=by
 obtain rfl:=Option.some.inj h
 obtain⟨H',h1⟩:=Ph QN
 rw[OE Ry]at h1
 exact Ia TH Ou (fun ρ V' h=>h.bool_inv) fun T b=>OC (gs:=gl T) gok h1 (GN b rfl) .nil
end Go.Proofs.YthnplbmmlbnelaaGreat
end
section
namespace Go.Proofs.YthnplbmmlbnelaaGreat
open Go.Sx
section
def wL  (a2:Unit):Option (Bool):=
 some (true)
def rY (p0:cA) (p1:cA) (a6:Int) (ag5:(Int)->Option (Bool)):Option (Bool):=
 if a6<(List.length p0:Int)then(ck (0<=a6∧a6<(List.length p0:Int)) (ck (0<=a6∧a6<(List.length p1:Int)) (if(((at' p0 a6).1),((at' p0 a6).2))≠(((at' p1 a6).1),((at' p1 a6).2))then(some (false))else(ag5 (wI .i64 (a6+(1:Int)))))))else(wL  (()))
def t_ (U:Nat) (p0:cA) (p1:cA):Option (Bool):=
 if(List.length p0:Int)≠(List.length p1:Int)then(some (false))else(bH (rY p0 p1) U (0:Int))
theorem Om:bE Tryz.prog 30:=Tryz.call30
theorem Dg (U:Nat) {p0:cA} {p1:cA} (v0:Value)  (v1:Value) (r:Bool) (h:t_ U p0 p1=some r):
  aZ Tryz.prog 30 #[v0,v1] [Sl aY v0 p0,Sl aY v1 p1] (fun x:Unit=>vB (r)) (fun x l=>l) (fun _ l=>l):=by
 refine aZ.of Tryz.func30 rfl Tryz.ntmps30 rfl fun c=>?_
 refine aT<|aB rfl<|aL<|aI<|aT<|aA rfl<|cY (dB rfl) rfl<|aA rfl<|cY (eZ rfl) rfl<|rV rfl<|aL ?_
 refine fG h rfl (fun h=>?_) fun h=>?_
 ·refine aT<|aB rfl<|aL<|aS<|aG ?_
  cases h
  exact gU rfl
 refine bJ<|aI<|cF (fun a2=>wL  a2=some r) (fun a2 b3=>[]) (fun a2 b3=>[]) ?_ ?_
 ·refine aT<|aB rfl<|aL<|aP<|eH (rY p0 p1) (fun a6 b7=>[(0,v0),(1,v1),(5,vI (a6))]) (fun a6 b7=>[]) (0:Int) () h SF (bK.refl _) ?_
  intro k8 a6 b7 h
  refine aI<|aT<|aA rfl<|aA rfl<|cY (dB rfl) rfl<|cZ rfl<|aL ?_
  refine fG h rfl (fun h=>?_) fun h=>?_
  ·refine bJ<|aI<|aP<|aI ?_
   refine Gi [0,0,3,7,0,0,48,112,255] 8 mixedOrders ?_
   refine cR rfl<|cR rfl<|eO h fun j10 h=>cN rfl .nil (lN 0 rfl) (aU rfl rfl (dB rfl) rfl rfl j10) bD.z<|cN rfl .nil (lN 0 rfl) (fO (cs:=[vI ((at' p0 a6).1),vI ((at' p0 a6).2)]) rfl (dB rfl) dI rfl rfl rfl rfl j10) bD.z<|cR rfl<|cR rfl<|eO h fun j11 h=>cN rfl .nil (lN 1 rfl) (aU rfl rfl (dB rfl) rfl rfl j11) bD.z<|cN rfl .nil (lN 1 rfl) (fO (cs:=[vI ((at' p1 a6).1),vI ((at' p1 a6).2)]) rfl (dB rfl) dI rfl rfl rfl rfl j11) bD.z<|dM 8 rfl rfl<|aD (NZ rfl rfl (QQ (((at' p0 a6).1),((at' p0 a6).2)) (((at' p1 a6).1),((at' p1 a6).2)) _ _)) rfl<|aL ?_
   refine fG h rfl (fun h=>?_) fun h=>?_
   ·refine aT<|aB rfl<|aL<|aS<|bP<|aG<|aG<|bP<|aG ?_
    cases h
    exact gU rfl
   refine cS<|kB<|aH<|aA rfl<|cU rfl<|aB rfl<|aL ?_
   exact AC (wI .i64 (a6+(1:Int))) () h SF rfl
  refine dY ?_
  exact b_ () (()) h SF rfl
 intro a2 b3 h
 unfold wL at h
 refine aT<|aB rfl<|aL<|aS ?_
 cases h
 exact gU rfl
end
section
def wM  (a9:Unit):Option (Bool):=
 some (true)
def wN (a13:Int) (ag12:(Int)->Option (Bool)) (a17:Unit):Option (Bool):=
 ag12 (wI .i64 (a13+(1:Int)))
def wP (a37:Int) (ag36:(Int)->Option (Bool)) (a42:Bool):Option (Bool):=
 if a42=true then(some (false))else(ag36 (wI .i64 (a37+(1:Int))))
def oE (U:Nat) (a13:Int) (ag12:(Int)->Option (Bool)) (a29:PS) (a37:Int) (ag36:(Int)->Option (Bool)):Option (Bool):=
 if a37<(List.length a29.2.2.2:Int)then(ck (0<=a37∧a37<(List.length a29.2.2.2:Int)) (ck (0<=a37∧a37<(List.length a29.2.1:Int)) (if((at' a29.2.2.2 a37).1)≠((at' a29.2.1 a37).1)then(wP a37 ag36 (true))else(ck (0<=a37∧a37<(List.length a29.2.2.2:Int)) (ck (0<=a37∧a37<(List.length a29.2.1:Int)) (Option.bind (t_ U ((at' a29.2.2.2 a37).2) ((at' a29.2.1 a37).2)) fun r52=>(wP a37 ag36 ((!r52)))))))))else(wN a13 ag12 (()))
def sA (U:Nat) (a13:Int) (ag12:(Int)->Option (Bool)) (a29:PS) (a32:Bool):Option (Bool):=
 if a32=true then(some (false))else(bH (oE U a13 ag12 a29) U (0:Int))
def wO (U:Nat) (p0:dZ) (p1:dZ) (a13:Int) (ag12:(Int)->Option (Bool)) (a29:PS):Option (Bool):=
 if(!dC ((at' p0.2.2 a13).1) ((at' p1.2.2 a13).1))=true then(sA U a13 ag12 a29 (true))else(Option.bind (t_ U a29.2.2.1 a29.1) fun r56=>(if(!r56)=true then(sA U a13 ag12 a29 (true))else(sA U a13 ag12 a29 (decide ((List.length a29.2.2.2:Int)≠(List.length a29.2.1:Int))))))
def gM (U:Nat) (p0:dZ) (p1:dZ) (a13:Int) (ag12:(Int)->Option (Bool)):Option (Bool):=
 if a13<(List.length p0.2.2:Int)then(ck (0<=a13∧a13<(List.length p0.2.2:Int)) (ck (0<=a13∧a13<(List.length p1.2.2:Int)) (wO U p0 p1 a13 ag12 (((at' p1.2.2 a13).2.1),((at' p1.2.2 a13).2.2),((at' p0.2.2 a13).2.1),((at' p0.2.2 a13).2.2)))))else(wM  (()))
def r_ (U:Nat) (p0:dZ) (p1:dZ) (a7:Unit):Option (Bool):=
 bH (gM U p0 p1) U (0:Int)
def sB (U:Nat) (p0:dZ) (p1:dZ) (a91:Int) (ag90:(Int)->Option (Bool)):Option (Bool):=
 if a91<(List.length p0.2.1:Int)then(ck (0<=a91∧a91<(List.length p0.2.1:Int)) (ck (0<=a91∧a91<(List.length p1.2.1:Int)) (if(((at' p0.2.1 a91).1),((at' p0.2.1 a91).2.1),((at' p0.2.1 a91).2.2.1),((at' p0.2.1 a91).2.2.2.1),((at' p0.2.1 a91).2.2.2.2.1),((at' p0.2.1 a91).2.2.2.2.2))≠(((at' p1.2.1 a91).1),((at' p1.2.1 a91).2.1),((at' p1.2.1 a91).2.2.1),((at' p1.2.1 a91).2.2.2.1),((at' p1.2.1 a91).2.2.2.2.1),((at' p1.2.1 a91).2.2.2.2.2))then(some (false))else(ag90 (wI .i64 (a91+(1:Int)))))))else(r_ U p0 p1 (()))
def rZ (U:Nat) (p0:dZ) (p1:dZ) (a4:Bool):Option (Bool):=
 if a4=true then(some (false))else(bH (sB U p0 p1) U (0:Int))
def uA (U:Nat) (p0:dZ) (p1:dZ):Option (Bool):=
 if(!dC p0.1 p1.1)=true then(rZ U p0 p1 (true))else(if(List.length p0.2.1:Int)≠(List.length p1.2.1:Int)then(rZ U p0 p1 (true))else(rZ U p0 p1 (decide ((List.length p0.2.2:Int)≠(List.length p1.2.2:Int)))))
theorem SL:bE Tryz.prog 11:=Tryz.call11
theorem Iw (U:Nat) {p0:dZ} {p1:dZ} (v0:Value)  (v1:Value)  (v2:Value)  (v3:Value) (r:Bool) (h:uA U p0 p1=some r):
  aZ Tryz.prog 11 #[Value.agg #[vS (p0.1),v0,v1],Value.agg #[vS (p1.1),v2,v3]] [Sl aQ v0 p0.2.1,Sl aK v1 p0.2.2,Sl aQ v2 p1.2.1,Sl aK v3 p1.2.2] (fun x:Unit=>vB (r)) (fun x l=>l) (fun _ l=>l):=by
 refine aZ.of Tryz.func11 rfl Tryz.ntmps11 rfl fun c=>?_
 unfold uA at h
 refine aT<|aN (aR.box (cs:=[vS (p0.1),v0,v1]) rfl rfl) rfl fun b1=>aN (aR.box (cs:=[vS (p1.1),v2,v3]) rfl rfl) rfl fun b2=>aB rfl<|aL<|aI<|aI<|cF (fun a4=>rZ U p0 p1 a4=some r) (fun a4 b5=>[(2,vP b1),(3,vP b2),(32,vB (a4))]) (fun a4 b5=>[dD b2 [vS (p1.1),v2,v3] 25,dD b1 [vS (p0.1),v0,v1] 25]) ?_ ?_
 ·refine aH<|bQ rfl<|cM 1 rfl<|bQ rfl<|cM 0 rfl<|aD (Oc rfl rfl) rfl<|aA rfl ?_
  refine e_ (by exact rfl) (by exact rfl) (fun hp98=>?_) (fun hp98=>?_)
  ·have h:=Ak hp98 h
   refine aC rfl<|aC rfl<|aC rfl<|aC rfl<|aC rfl<|aC rfl<|aC rfl<|bO rfl<|aA rfl<|aC rfl<|aC rfl<|aC rfl<|aC rfl<|aC rfl<|aC rfl<|aC rfl<|bO rfl<|aL ?_
   exact b_ (true) () h SF rfl
  have h:=rI hp98 h
  refine aF rfl (bW rfl rfl rfl rfl rfl) rfl<|aF rfl (cI 1 rfl rfl rfl rfl rfl) rfl<|aF rfl (eX rfl (dB rfl) rfl) rfl<|aF rfl (bW rfl rfl rfl rfl rfl) rfl<|aF rfl (cI 0 rfl rfl rfl rfl rfl) rfl<|aF rfl (eX rfl (Ck rfl) rfl) rfl<|aF rfl (xB rfl rfl) rfl<|bR rfl<|aA rfl ?_
  refine mW h rfl (fun _ h=>?_) fun _ h=>?_
  ·refine aC rfl<|aC rfl<|aC rfl<|aC rfl<|aC rfl<|aC rfl<|aC rfl<|bO rfl<|aL ?_
   exact b_ (true) () h SF rfl
  refine aF rfl (bW rfl rfl rfl rfl rfl) rfl<|aF rfl (cI 1 rfl rfl rfl rfl rfl) rfl<|aF rfl (eX rfl (eZ rfl) rfl) rfl<|aF rfl (bW rfl rfl rfl rfl rfl) rfl<|aF rfl (cI 0 rfl rfl rfl rfl rfl) rfl<|aF rfl (eX rfl (dA 3 rfl) rfl) rfl<|aF rfl (xB rfl rfl) rfl<|bR rfl<|aL ?_
  exact b_ (decide ((List.length p0.2.2:Int)≠(List.length p1.2.2:Int))) () h SF rfl
 intro a4 b5 h
 refine eY h rfl (fun _ h=>?_) fun _ h=>?_
 ·refine aT<|aB rfl<|aL<|aS<|aG ?_
  cases h
  exact vF rfl
 refine bJ<|aI<|cF (fun a7=>r_ U p0 p1 a7=some r) (fun a7 b8=>[(2,vP b1),(3,vP b2)]) (fun a7 b8=>[dD b2 [vS (p1.1),v2,v3] 25,dD b1 [vS (p0.1),v0,v1] 25]) ?_ ?_
 ·refine aT<|aB rfl<|aL<|aP<|eH (sB U p0 p1) (fun a91 b92=>[(2,vP b1),(3,vP b2),(5,vI (a91))]) (fun a91 b92=>[dD b2 [vS (p1.1),v2,v3] 25,dD b1 [vS (p0.1),v0,v1] 25]) (0:Int) () h SF (bK.refl _) ?_
  intro k93 a91 b92 h
  refine aI<|aT<|aA rfl<|bQ rfl<|cM 1 rfl<|cY (dB rfl) rfl<|cZ rfl<|aL ?_
  refine fG h rfl (fun h=>?_) fun h=>?_
  ·refine bJ<|aI<|aP<|aI ?_
   refine Gi [0,1,0,7,15,0,32,0,224,480,1023] 10 mixedOrders ?_
   refine lV rfl<|tO 1 rfl<|cR rfl<|eO h fun j95 h=>cN rfl .nil (lN 0 rfl) (aU rfl rfl (dB rfl) rfl rfl j95) bD.z<|cN rfl .nil (lN 0 rfl) (fO (cs:=[vS ((at' p0.2.1 a91).1),vI ((at' p0.2.1 a91).2.1),vI ((at' p0.2.1 a91).2.2.1),vI ((at' p0.2.1 a91).2.2.2.1),vI ((at' p0.2.1 a91).2.2.2.2.1),vI ((at' p0.2.1 a91).2.2.2.2.2)]) rfl (dB rfl) bU rfl rfl rfl rfl j95) bD.z<|lV rfl<|tO 0 rfl<|cR rfl<|eO h fun j96 h=>cN rfl .nil (lN 2 rfl) (aU rfl rfl (dB rfl) rfl rfl j96) bD.z<|cN rfl .nil (lN 2 rfl) (fO (cs:=[vS ((at' p1.2.1 a91).1),vI ((at' p1.2.1 a91).2.1),vI ((at' p1.2.1 a91).2.2.1),vI ((at' p1.2.1 a91).2.2.2.1),vI ((at' p1.2.1 a91).2.2.2.2.1),vI ((at' p1.2.1 a91).2.2.2.2.2)]) rfl (dB rfl) bU rfl rfl rfl rfl j96) bD.z<|dM 10 rfl rfl<|aD (NZ rfl rfl (QP (((at' p0.2.1 a91).1),((at' p0.2.1 a91).2.1),((at' p0.2.1 a91).2.2.1),((at' p0.2.1 a91).2.2.2.1),((at' p0.2.1 a91).2.2.2.2.1),((at' p0.2.1 a91).2.2.2.2.2)) (((at' p1.2.1 a91).1),((at' p1.2.1 a91).2.1),((at' p1.2.1 a91).2.2.1),((at' p1.2.1 a91).2.2.2.1),((at' p1.2.1 a91).2.2.2.2.1),((at' p1.2.1 a91).2.2.2.2.2)) _ _)) rfl<|aL ?_
   refine fG h rfl (fun h=>?_) fun h=>?_
   ·refine aT<|aB rfl<|aL<|aS<|bP<|aG<|aG<|bP<|aG ?_
    cases h
    exact vF rfl
   refine cS<|kB<|aH<|aA rfl<|cU rfl<|aB rfl<|aL ?_
   exact AC (wI .i64 (a91+(1:Int))) () h SF rfl
  refine dY ?_
  exact b_ () (()) h SF rfl
 intro a7 b8 h
 unfold r_ at h
 refine aI<|cF (fun a9=>wM  a9=some r) (fun a9 b10=>[]) (fun a9 b10=>[]) ?_ ?_
 ·refine aT<|aB rfl<|aL<|aP<|eH (gM U p0 p1) (fun a13 b14=>[(2,vP b1),(3,vP b2),(6,vI (a13))]) (fun a13 b14=>[dD b2 [vS (p1.1),v2,v3] 25,dD b1 [vS (p0.1),v0,v1] 25]) (0:Int) () h SF (bK.refl _) ?_
  intro k15 a13 b14 h
  refine aI<|aT<|aA rfl<|bQ rfl<|cM 1 rfl<|cY (eZ rfl) rfl<|cZ rfl<|aL ?_
  refine fG h rfl (fun h=>?_) fun h=>?_
  ·refine bJ<|aI<|cF (fun a17=>wN a13 (bH (gM U p0 p1) k15) a17=some r) (fun a17 b18=>[(2,vP b1),(3,vP b2),(6,vI (a13))]) (fun a17 b18=>[dD b2 [vS (p1.1),v2,v3] 25,dD b1 [vS (p0.1),v0,v1] 25]) ?_ ?_
   ·refine aP<|aI<|pB (B:=Nat×Nat×Value×Value×Value×Value) (fun a29=>wO U p0 p1 a13 (bH (gM U p0 p1) k15) a29=some r) (fun a29 b30=>[(2,vP b1),(3,vP b2),(6,vI (a13)),(7,vP b30.1),(8,vP b30.2.1)]) (fun a29 b30=>[dD b30.2.1 [vS ((at' p1.2.2 a13).1),b30.2.2.1,b30.2.2.2.1] 42,dD b30.1 [vS ((at' p0.2.2 a13).1),b30.2.2.2.2.1,b30.2.2.2.2.2] 42,dD b2 [vS (p1.1),v2,v3] 25,dD b1 [vS (p0.1),v0,v1] 25]) (fun a29 b30=>[Sl aQ v0 p0.2.1,Sl aK v1 p0.2.2,Sl aQ v2 p1.2.1,Sl aK v3 p1.2.2,Sl aY b30.2.2.1 a29.1,Sl bA b30.2.2.2.1 a29.2.1,Sl aY b30.2.2.2.2.1 a29.2.2.1,Sl bA b30.2.2.2.2.2 a29.2.2.2]) ?_ ?_
    ·have⟨j60,h⟩:=HQ h
     refine eO h fun j62 h=>MK [0,1,0,7,15,0,32,0,224,480,0,0,3103,8191] 13 [[0,1,2,3,4,5,6,7,8,9,10,11,12,13],[0,1,2,3,4,5,6,7,8,9,11,10,12,13]] mixedOrders (by decide +kernel) (by decide +kernel) ?_
     intro o ho
     simp only[List.mem_cons,List.not_mem_nil,or_false]at ho
     rcases ho with rfl|rfl
     ·refine lV rfl<|tO 1 rfl<|cR rfl<|cN rfl .nil (lN 1 rfl) (aU rfl rfl (dB rfl) rfl rfl j60) bD.z<|tQ (v:=v1) (ds:=p0.2.2) aX (eZ rfl) fun us71=>?_
      refine JR.stp (bZ ((iY (bY (f:=aJ) (eZ rfl) j60.1 (by first|exact j60.2|simpa using j60.2))):aM _ _ (Sl aY ((at' us71 a13).1) ((at' p0.2.2 a13).2.1)))) ?_
      refine JR.stp (bZ ((iC (bY (f:=aJ) (Ck rfl) j60.1 (by first|exact j60.2|simpa using j60.2))):aM _ _ (Sl bA ((at' us71 a13).2) ((at' p0.2.2 a13).2.2)))) ?_
      refine cN rfl .nil (lN 2 rfl) (eP (cs:=[vS ((at' p0.2.2 a13).1),(at' us71 a13).1,(at' us71 a13).2]) rfl (dB rfl) rfl rfl rfl rfl ⟨j60.1,by first|exact j60.2|simpa using j60.2⟩) bD.z<|lV rfl<|tO 0 rfl<|cR rfl<|cN rfl .nil (lN 7 rfl) (aU rfl rfl (dB rfl) rfl rfl j62) bD.z<|tQ (v:=v3) (ds:=p1.2.2) aX (dA 7 rfl) fun us72=>?_
      refine JR.stp (bZ ((iY (bY (f:=aJ) (eZ rfl) j62.1 (by first|exact j62.2|simpa using j62.2))):aM _ _ (Sl aY ((at' us72 a13).1) ((at' p1.2.2 a13).2.1)))) ?_
      refine JR.stp (bZ ((iC (bY (f:=aJ) (Ck rfl) j62.1 (by first|exact j62.2|simpa using j62.2))):aM _ _ (Sl bA ((at' us72 a13).2) ((at' p1.2.2 a13).2.2)))) ?_
      refine cN rfl .nil (lN 2 rfl) (eP (cs:=[vS ((at' p1.2.2 a13).1),(at' us72 a13).1,(at' us72 a13).2]) rfl (dB rfl) rfl rfl rfl rfl ⟨j62.1,by first|exact j62.2|simpa using j62.2⟩) bD.z<|JR.loud rfl rfl rfl (aR.alloc (cs:=xJ) rfl rfl) rfl (fun b73=>(CJ [([],[2]),([],[11]),([1],[]),([],[6]),([],[9]),([2],[])] rfl)) fun b73=>JR.loud rfl rfl rfl (aR.alloc (cs:=xJ) rfl rfl) rfl (fun b74=>(CJ [([],[2]),([],[11]),([2],[]),([],[6]),([],[9]),([3],[])] rfl)) fun b74=>sK (Know.one ((dA 5 rfl))) fun ho76=>sK (Know.one ((dA 4 rfl))) fun ho77=>II rfl rfl rfl (BH 1 (vs:=[vS ((at' p0.2.2 a13).1),(at' us71 a13).1,(at' us71 a13).2]) rfl rfl (fE rfl (fE ho76 (fE ho77 rfl))) rfl rfl rfl) (fun x75=>(CJ [([],[2]),([],[11]),([2],[])] rfl)) fun x75=>dM 13 rfl rfl<|dG (Know.one ((eZ rfl))) fun ho78=>dG (Know.one ((dB rfl))) fun ho79=>cC 0 (vs:=[vS ((at' p1.2.2 a13).1),(at' us72 a13).1,(at' us72 a13).2]) rfl rfl (fE rfl (fE ho78 (fE ho79 rfl))) rfl rfl rfl<|aL ?_
      exact bS (((at' p1.2.2 a13).2.1),((at' p1.2.2 a13).2.2),((at' p0.2.2 a13).2.1),((at' p0.2.2 a13).2.2)) (b73,b74,((at' us72 a13).1),((at' us72 a13).2),((at' us71 a13).1),((at' us71 a13).2)) h SF (bK.refl _) (hI [8,9,10,11,1,0,5,4] rfl)
     refine lV rfl<|tO 1 rfl<|cR rfl<|cN rfl .nil (lN 1 rfl) (aU rfl rfl (dB rfl) rfl rfl j60) bD.z<|tQ (v:=v1) (ds:=p0.2.2) aX (eZ rfl) fun us80=>?_
     refine JR.stp (bZ ((iY (bY (f:=aJ) (eZ rfl) j60.1 (by first|exact j60.2|simpa using j60.2))):aM _ _ (Sl aY ((at' us80 a13).1) ((at' p0.2.2 a13).2.1)))) ?_
     refine JR.stp (bZ ((iC (bY (f:=aJ) (Ck rfl) j60.1 (by first|exact j60.2|simpa using j60.2))):aM _ _ (Sl bA ((at' us80 a13).2) ((at' p0.2.2 a13).2.2)))) ?_
     refine cN rfl .nil (lN 2 rfl) (eP (cs:=[vS ((at' p0.2.2 a13).1),(at' us80 a13).1,(at' us80 a13).2]) rfl (dB rfl) rfl rfl rfl rfl ⟨j60.1,by first|exact j60.2|simpa using j60.2⟩) bD.z<|lV rfl<|tO 0 rfl<|cR rfl<|cN rfl .nil (lN 7 rfl) (aU rfl rfl (dB rfl) rfl rfl j62) bD.z<|tQ (v:=v3) (ds:=p1.2.2) aX (dA 7 rfl) fun us81=>?_
     refine JR.stp (bZ ((iY (bY (f:=aJ) (eZ rfl) j62.1 (by first|exact j62.2|simpa using j62.2))):aM _ _ (Sl aY ((at' us81 a13).1) ((at' p1.2.2 a13).2.1)))) ?_
     refine JR.stp (bZ ((iC (bY (f:=aJ) (Ck rfl) j62.1 (by first|exact j62.2|simpa using j62.2))):aM _ _ (Sl bA ((at' us81 a13).2) ((at' p1.2.2 a13).2.2)))) ?_
     refine cN rfl .nil (lN 2 rfl) (eP (cs:=[vS ((at' p1.2.2 a13).1),(at' us81 a13).1,(at' us81 a13).2]) rfl (dB rfl) rfl rfl rfl rfl ⟨j62.1,by first|exact j62.2|simpa using j62.2⟩) bD.z<|JR.loud rfl rfl rfl (aR.alloc (cs:=xJ) rfl rfl) rfl (fun b82=>(CJ [([],[2]),([],[11]),([1],[]),([],[6]),([],[9]),([2],[])] rfl)) fun b82=>JR.loud rfl rfl rfl (aR.alloc (cs:=xJ) rfl rfl) rfl (fun b83=>(CJ [([],[2]),([],[11]),([2],[]),([],[6]),([],[9]),([3],[])] rfl)) fun b83=>sK (Know.one ((dA 5 rfl))) fun ho85=>sK (Know.one ((dA 4 rfl))) fun ho86=>II rfl rfl rfl (BH 0 (vs:=[vS ((at' p0.2.2 a13).1),(at' us80 a13).1,(at' us80 a13).2]) rfl rfl (fE rfl (fE ho85 (fE ho86 rfl))) rfl rfl rfl) (fun x84=>(CJ [([],[2]),([],[11]),([2],[])] rfl)) fun x84=>dM 13 rfl rfl<|dG (Know.one ((eZ rfl))) fun ho87=>dG (Know.one ((dB rfl))) fun ho88=>cC 1 (vs:=[vS ((at' p1.2.2 a13).1),(at' us81 a13).1,(at' us81 a13).2]) rfl rfl (fE rfl (fE ho87 (fE ho88 rfl))) rfl rfl rfl<|aL ?_
     exact bS (((at' p1.2.2 a13).2.1),((at' p1.2.2 a13).2.2),((at' p0.2.2 a13).2.1),((at' p0.2.2 a13).2.2)) (b83,b82,((at' us81 a13).1),((at' us81 a13).2),((at' us80 a13).1),((at' us80 a13).2)) h SF (bK.ix [1,0,2,3] rfl rfl) (hI [8,9,10,11,1,0,5,4] rfl)
    intro a29 b30 h
    unfold wO at h
    refine aI<|aI<|pB (B:=Unit) (fun a32=>sA U a13 (bH (gM U p0 p1) k15) a29 a32=some r) (fun a32 b33=>[(2,vP b1),(3,vP b2),(6,vI (a13)),(7,vP b30.1),(8,vP b30.2.1),(89,vB (a32))]) (fun a32 b33=>[dD b30.2.1 [vS ((at' p1.2.2 a13).1),b30.2.2.1,b30.2.2.2.1] 42,dD b30.1 [vS ((at' p0.2.2 a13).1),b30.2.2.2.2.1,b30.2.2.2.2.2] 42,dD b2 [vS (p1.1),v2,v3] 25,dD b1 [vS (p0.1),v0,v1] 25]) (fun a32 b33=>[Sl aQ v0 p0.2.1,Sl aK v1 p0.2.2,Sl aQ v2 p1.2.1,Sl aK v3 p1.2.2,Sl aY b30.2.2.1 a29.1,Sl bA b30.2.2.2.1 a29.2.1,Sl aY b30.2.2.2.2.1 a29.2.2.1,Sl bA b30.2.2.2.2.2 a29.2.2.2]) ?_ ?_
    ·refine aH<|bQ rfl<|cM 1 rfl<|bQ rfl<|cM 0 rfl<|aD (Oc rfl rfl) rfl<|aA rfl ?_
     refine e_ (by exact rfl) (by exact rfl) (fun hp55=>?_) (fun hp55=>?_)
     ·have h:=Ak hp55 h
      refine aC rfl<|aC rfl<|aC rfl<|aC rfl<|aC rfl<|aC rfl<|bO rfl<|aA rfl<|aC rfl<|aC rfl<|aC rfl<|aC rfl<|aC rfl<|aC rfl<|aC rfl<|bO rfl<|aL ?_
      exact b_ (true) () h SF rfl
     have h:=rI hp55 h
     refine aF rfl (bW rfl rfl rfl rfl rfl) rfl<|aF rfl (cI 1 rfl rfl rfl rfl rfl) rfl<|aF rfl (bW rfl rfl rfl rfl rfl) rfl<|aF rfl (cI 0 rfl rfl rfl rfl rfl) rfl<|eM h fun r56 w57 h=>fA rfl (aR.callQ Om (Dg U b30.2.2.2.2.1 b30.2.2.1 r56 w57) rfl (hI [6,4] rfl)) rfl fun x58=>aF rfl (eC rfl) rfl<|bR rfl<|aA rfl ?_
     refine e_ (by exact rfl) (by exact rfl) (fun hp59=>?_) (fun hp59=>?_)
     ·have h:=Ak hp59 h
      refine aC rfl<|aC rfl<|aC rfl<|aC rfl<|aC rfl<|aC rfl<|aC rfl<|bO rfl<|aL ?_
      exact b_ (true) () h SF rfl
     have h:=rI hp59 h
     refine aF rfl (bW rfl rfl rfl rfl rfl) rfl<|aF rfl (cI 1 rfl rfl rfl rfl rfl) rfl<|aF rfl (eX rfl (dA 7 rfl) rfl) rfl<|aF rfl (bW rfl rfl rfl rfl rfl) rfl<|aF rfl (cI 0 rfl rfl rfl rfl rfl) rfl<|aF rfl (eX rfl (dA 5 rfl) rfl) rfl<|aF rfl (xB rfl rfl) rfl<|bR rfl<|aL ?_
     exact b_ (decide ((List.length a29.2.2.2:Int)≠(List.length a29.2.1:Int))) () h SF rfl
    intro a32 b33 h
    refine eY h rfl (fun _ h=>?_) fun _ h=>?_
    ·refine aT<|aB rfl<|aL<|aS<|aG<|bP<|aG<|aG<|bP<|aG ?_
     cases h
     exact vF rfl
    refine bJ<|aT<|aB rfl<|aL<|aP<|yS (B:=Unit) (oE U a13 (bH (gM U p0 p1) k15) a29) (fun a37 b38=>[(2,vP b1),(3,vP b2),(6,vI (a13)),(7,vP b30.1),(8,vP b30.2.1),(9,vI (a37))]) (fun a37 b38=>[dD b30.2.1 [vS ((at' p1.2.2 a13).1),b30.2.2.1,b30.2.2.2.1] 42,dD b30.1 [vS ((at' p0.2.2 a13).1),b30.2.2.2.2.1,b30.2.2.2.2.2] 42,dD b2 [vS (p1.1),v2,v3] 25,dD b1 [vS (p0.1),v0,v1] 25]) (fun a37 b38=>[Sl aQ v0 p0.2.1,Sl aK v1 p0.2.2,Sl aQ v2 p1.2.1,Sl aK v3 p1.2.2,Sl aY b30.2.2.1 a29.1,Sl bA b30.2.2.2.1 a29.2.1,Sl aY b30.2.2.2.2.1 a29.2.2.1,Sl bA b30.2.2.2.2.2 a29.2.2.2]) (0:Int) () h SF (bK.refl _) (aO.refl _ _) ?_
    intro k39 a37 b38 h
    refine aI<|aT<|aA rfl<|bQ rfl<|cM 1 rfl<|cY (dA 7 rfl) rfl<|cZ rfl<|aL ?_
    refine fG h rfl (fun h=>?_) fun h=>?_
    ·refine bJ<|aI<|aP<|aI<|pB (B:=Unit) (fun a42=>wP a37 (bH (oE U a13 (bH (gM U p0 p1) k15) a29) k39) a42=some r) (fun a42 b43=>[(2,vP b1),(3,vP b2),(6,vI (a13)),(7,vP b30.1),(8,vP b30.2.1),(9,vI (a37)),(125,vB (a42))]) (fun a42 b43=>[dD b30.2.1 [vS ((at' p1.2.2 a13).1),b30.2.2.1,b30.2.2.2.1] 42,dD b30.1 [vS ((at' p0.2.2 a13).1),b30.2.2.2.2.1,b30.2.2.2.2.2] 42,dD b2 [vS (p1.1),v2,v3] 25,dD b1 [vS (p0.1),v0,v1] 25]) (fun a42 b43=>[Sl aQ v0 p0.2.1,Sl aK v1 p0.2.2,Sl aQ v2 p1.2.1,Sl aK v3 p1.2.2,Sl aY b30.2.2.1 a29.1,Sl bA b30.2.2.2.1 a29.2.1,Sl aY b30.2.2.2.2.1 a29.2.2.1,Sl bA b30.2.2.2.2.2 a29.2.2.2]) ?_ ?_
     ·refine Gi [0,1,0,7,15,31,0,64,0,448,960,1984,4095,8191,16383,32767,16383,131071,262143,524287,16383,1064959,16383,7356415,15745023,32522239,67108863,134217727,268435455] 26 mixedOrders ?_
      refine lV rfl<|tO 1 rfl<|cR rfl<|eO h fun j45 h=>cN rfl .nil (lN 7 rfl) (aU rfl rfl (dB rfl) rfl rfl j45) bD.z<|rH rfl (cB rfl rfl rfl rfl rfl)<|cN rfl .nil (lN 7 rfl) (eQ rfl (dB rfl) rfl rfl rfl hJ j45) bD.z<|lV rfl<|tO 0 rfl<|cR rfl<|eO h fun j46 h=>cN rfl .nil (lN 5 rfl) (aU rfl rfl (dB rfl) rfl rfl j46) bD.z<|rH rfl (cB rfl rfl rfl rfl rfl)<|cN rfl .nil (lN 5 rfl) (eQ rfl (dB rfl) rfl rfl rfl hJ j46) bD.z<|rH rfl (xB rfl rfl)<|cR rfl ?_
      refine Dr (by exact rfl) (by exact rfl) (by exact rfl) (fun hp47=>?_) (fun hp47=>?_)
      ·have h:=Ak hp47 h
       refine bG rfl rfl rfl rfl<|bG rfl rfl rfl rfl<|bG rfl rfl rfl rfl<|bG rfl rfl rfl rfl<|bG rfl rfl rfl rfl<|bG rfl rfl rfl rfl<|bG rfl rfl rfl rfl<|bG rfl rfl rfl rfl<|bG rfl rfl rfl rfl<|bG rfl rfl rfl rfl<|bG rfl rfl rfl rfl<|bG rfl rfl rfl rfl<|dM 26 rfl rfl<|aC rfl<|aC rfl<|bO rfl<|aL ?_
       exact b_ (true) () h SF rfl
      have h:=TI hp47 h
      refine gH rfl .nil .nil (bW rfl rfl rfl rfl rfl) bD.z<|gH rfl (bK.cons 1 rfl .nil) .nil (cI 0 rfl rfl rfl rfl rfl) bD.z<|gH rfl .nil .nil (fY rfl) bD.z<|eO h fun j48 h=>gH rfl .nil (lN 7 rfl) (aU rfl rfl (dB rfl) rfl rfl j48) bD.z<|gH rfl .nil .nil (cB rfl rfl rfl rfl rfl) bD.z<|tQ (v:=b30.2.2.2.2.2) (ds:=a29.2.2.2) cL (dA 7 rfl) fun us49=>?_
      refine JR.stp (bZ ((bY (f:=cG) (eZ rfl) j48.1 (by first|exact j48.2|simpa using j48.2)):aM _ _ (Sl aY (at' us49 a37) ((at' a29.2.2.2 a37).2)))) ?_
      refine gH rfl .nil (lN 1 rfl) (tR (gv:=fun x=>x) rfl (dB rfl) rfl rfl rfl jE ⟨j48.1,by first|exact j48.2|simpa using j48.2⟩) bD.z<|gH rfl .nil .nil (bW rfl rfl rfl rfl rfl) bD.z<|gH rfl (bK.cons 0 rfl .nil) .nil (cI 0 rfl rfl rfl rfl rfl) bD.z<|gH rfl .nil .nil (fY rfl) bD.z<|eO h fun j50 h=>gH rfl .nil (lN 8 rfl) (aU rfl rfl (dB rfl) rfl rfl j50) bD.z<|gH rfl .nil .nil (cB rfl rfl rfl rfl rfl) bD.z<|tQ (v:=b30.2.2.2.1) (ds:=a29.2.1) cL (dA 8 rfl) fun us51=>?_
      refine JR.stp (bZ ((bY (f:=cG) (eZ rfl) j50.1 (by first|exact j50.2|simpa using j50.2)):aM _ _ (Sl aY (at' us51 a37) ((at' a29.2.1 a37).2)))) ?_
      refine gH rfl .nil (lN 1 rfl) (tR (gv:=fun x=>x) rfl (dB rfl) rfl rfl rfl jE ⟨j50.1,by first|exact j50.2|simpa using j50.2⟩) bD.z<|dM 26 rfl rfl<|eM h fun r52 w53 h=>fA rfl (aR.callQ Om (Dg U (at' us49 a37) (at' us51 a37) r52 w53) rfl (hI [3,0] rfl)) rfl fun x54=>aF rfl (eC rfl) rfl<|bR rfl<|aL ?_
      exact bS ((!r52)) () h SF (bK.refl _) (hI [6,7,8,9,10,11,12,13] rfl)
     intro a42 b43 h
     refine eY h rfl (fun _ h=>?_) fun _ h=>?_
     ·refine aT<|aB rfl<|aL<|aS<|bP<|aG<|aG<|bP<|bP<|aG<|aG<|bP<|aG ?_
      cases h
      exact vF rfl
     refine cS<|kB<|aH<|aA rfl<|cU rfl<|aB rfl<|aL ?_
     exact AC (wI .i64 (a37+(1:Int))) () h SF rfl
    refine Dq<|sJ<|sJ<|GL<|kB ?_
    exact bS () (()) h SF (bK.ix [2,3] rfl rfl) (hI [0,1,2,3] rfl)
   intro a17 b18 h
   unfold wN at h
   refine aH<|aA rfl<|cU rfl<|aB rfl<|aL ?_
   exact AC (wI .i64 (a13+(1:Int))) () h SF rfl
  refine dY ?_
  exact bS () (()) h SF .nil (aO.refl _ _)
 intro a9 b10 h
 unfold wM at h
 refine aT<|aB rfl<|aL<|aS ?_
 cases h
 exact gU rfl
end
section
def oU  (a2:Unit):Option (Bool):=
 some (true)
def lA (p0:bV) (p1:bV) (a6:Int) (ag5:(Int)->Option (Bool)):Option (Bool):=
 if a6<(List.length p0:Int)then(ck (0<=a6∧a6<(List.length p0:Int)) (ck (0<=a6∧a6<(List.length p1:Int)) (if(at' p0 a6)≠(at' p1 a6)then(some (false))else(ag5 (wI .i64 (a6+(1:Int)))))))else(oU  (()))
def qO (U:Nat) (p0:bV) (p1:bV):Option (Bool):=
 if(List.length p0:Int)≠(List.length p1:Int)then(some (false))else(bH (lA p0 p1) U (0:Int))
theorem SX:bE Tryz.prog 31:=Tryz.call31
theorem DU (U:Nat) {p0:bV} {p1:bV} (v0:Value)  (v1:Value) (r:Bool) (h:qO U p0 p1=some r):
  aZ Tryz.prog 31 #[v0,v1] [Sl lH v0 p0,Sl lH v1 p1] (fun x:Unit=>vB (r)) (fun x l=>l) (fun _ l=>l):=by
 refine aZ.of Tryz.func31 rfl Tryz.ntmps31 rfl fun c=>?_
 refine aT<|aB rfl<|aL<|aI<|aT<|aA rfl<|cY (dB rfl) rfl<|aA rfl<|cY (eZ rfl) rfl<|rV rfl<|aL ?_
 refine fG h rfl (fun h=>?_) fun h=>?_
 ·refine aT<|aB rfl<|aL<|aS<|aG ?_
  cases h
  exact gU rfl
 refine bJ<|aI<|cF (fun a2=>oU  a2=some r) (fun a2 b3=>[]) (fun a2 b3=>[]) ?_ ?_
 ·refine aT<|aB rfl<|aL<|aP<|eH (lA p0 p1) (fun a6 b7=>[(0,v0),(1,v1),(5,vI (a6))]) (fun a6 b7=>[]) (0:Int) () h SF (bK.refl _) ?_
  intro k8 a6 b7 h
  refine aI<|aT<|aA rfl<|aA rfl<|cY (dB rfl) rfl<|cZ rfl<|aL ?_
  refine fG h rfl (fun h=>?_) fun h=>?_
  ·refine bJ<|aI<|aP<|aI ?_
   refine Gi [0,0,3,7,0,0,48,112,255] 8 mixedOrders ?_
   refine cR rfl<|cR rfl<|eO h fun j10 h=>cN rfl .nil (lN 0 rfl) (aU rfl rfl (dB rfl) rfl rfl j10) bD.z<|cN rfl .nil (lN 0 rfl) (fN rfl (dB rfl) rfl rfl rfl jP j10) bD.z<|cR rfl<|cR rfl<|eO h fun j11 h=>cN rfl .nil (lN 1 rfl) (aU rfl rfl (dB rfl) rfl rfl j11) bD.z<|cN rfl .nil (lN 1 rfl) (fN rfl (dB rfl) rfl rfl rfl jP j11) bD.z<|dM 8 rfl rfl<|rV rfl<|aL ?_
   refine fG h rfl (fun h=>?_) fun h=>?_
   ·refine aT<|aB rfl<|aL<|aS<|bP<|aG<|aG<|bP<|aG ?_
    cases h
    exact gU rfl
   refine cS<|kB<|aH<|aA rfl<|cU rfl<|aB rfl<|aL ?_
   exact AC (wI .i64 (a6+(1:Int))) () h SF rfl
  refine dY ?_
  exact b_ () (()) h SF rfl
 intro a2 b3 h
 unfold oU at h
 refine aT<|aB rfl<|aL<|aS ?_
 cases h
 exact gU rfl
end
section
def wS  (a2:Unit):Option (Bool):=
 some (true)
def sF (U:Nat) (p0:d_) (p1:d_) (a6:Int) (ag5:(Int)->Option (Bool)):Option (Bool):=
 if a6<(List.length p0:Int)then(ck (0<=a6∧a6<(List.length p0:Int)) (ck (0<=a6∧a6<(List.length p1:Int)) (Option.bind (qO U (at' p0 a6) (at' p1 a6)) fun r12=>(if(!r12)=true then(some (false))else(ag5 (wI .i64 (a6+(1:Int))))))))else(wS  (()))
def xS (U:Nat) (p0:d_) (p1:d_):Option (Bool):=
 if(List.length p0:Int)≠(List.length p1:Int)then(some (false))else(bH (sF U p0 p1) U (0:Int))
theorem SN:bE Tryz.prog 12:=Tryz.call12
theorem Iy (U:Nat) {p0:d_} {p1:d_} (v0:Value)  (z1:List (Value×bV))  (v2:Value)  (z3:List (Value×bV)) (r:Bool) (h:xS U p0 p1=some r):
  aZ Tryz.prog 12 #[v0,v2] [S2 lH v0 z1 p0,S2 lH v2 z3 p1] (fun x:Unit=>vB (r)) (fun x l=>l) (fun _ l=>l):=by
 refine aZ.of Tryz.func12 rfl Tryz.ntmps12 rfl fun c=>?_
 refine aT<|aB rfl<|aL<|aI<|aT<|aA rfl<|aD (Cb rfl (dB rfl) rfl) rfl<|aA rfl<|aD (Cb rfl (eZ rfl) rfl) rfl<|rV rfl<|aL ?_
 refine fG h rfl (fun h=>?_) fun h=>?_
 ·refine aT<|aB rfl<|aL<|aS<|aG ?_
  cases h
  exact gU rfl
 refine bJ<|aI<|cF (fun a2=>wS  a2=some r) (fun a2 b3=>[]) (fun a2 b3=>[]) ?_ ?_
 ·refine aT<|aB rfl<|aL<|aP<|eH (sF U p0 p1) (fun a6 b7=>[(0,v0),(1,v2),(5,vI (a6))]) (fun a6 b7=>[]) (0:Int) () h SF (bK.refl _) ?_
  intro k8 a6 b7 h
  refine aI<|aT<|aA rfl<|aA rfl<|aD (Cb rfl (dB rfl) rfl) rfl<|cZ rfl<|aL ?_
  refine fG h rfl (fun h=>?_) fun h=>?_
  ·refine bJ<|aI<|aP<|aI ?_
   refine Gi [0,0,3,7,0,0,48,112,255,511] 8 mixedOrders ?_
   refine cR rfl<|cR rfl<|eO h fun j10 h=>cN rfl .nil (lN 0 rfl) (zM rfl rfl (dB rfl) rfl rfl j10) bD.z<|cN rfl .nil (lN 0 rfl) (zN rfl (dB rfl) rfl rfl j10) bD.z<|cR rfl<|cR rfl<|eO h fun j11 h=>cN rfl .nil (lN 1 rfl) (zM rfl rfl (dB rfl) rfl rfl j11) bD.z<|cN rfl .nil (lN 1 rfl) (zN rfl (dB rfl) rfl rfl j11) bD.z<|dM 8 rfl rfl<|eM h fun r12 w13 h=>aN (aR.callQ SX (DU U ((at' z1 a6).1) ((at' z3 a6).1) r12 w13) rfl (aO.cons (aM.el (dB rfl) j10.1 j10.2) (aO.cons (aM.el (eZ rfl) j11.1 j11.2) .nil))) rfl fun x14=>aD (eC rfl) rfl<|aL ?_
   refine eY h rfl (fun _ h=>?_) fun _ h=>?_
   ·refine aT<|aB rfl<|aL<|aS<|bP<|aG<|aG<|bP<|aG ?_
    cases h
    exact gU rfl
   refine cS<|kB<|aH<|aA rfl<|cU rfl<|aB rfl<|aL ?_
   exact AC (wI .i64 (a6+(1:Int))) () h SF rfl
  refine dY ?_
  exact b_ () (()) h SF rfl
 intro a2 b3 h
 unfold wS at h
 refine aT<|aB rfl<|aL<|aS ?_
 cases h
 exact gU rfl
end
section
def mZ  (a5:d_):Option d_:=
 some (a5)
def m_ (a11:Int×d_) (ag10:(Int×d_)->Option d_) (a17:d_):Option d_:=
 ag10 ((wI .i64 (a11.1+(1:Int))),a17)
def iI (a25:Int×d_) (ag24:(Int×d_)->Option d_) (a31:d_):Option d_:=
 ag24 ((wI .i64 (a25.1+(1:Int))),a31)
def iJ (p0:d_) (p1:Int) (a11:Int×d_) (ag10:(Int×d_)->Option d_) (a25:Int×d_) (ag24:(Int×d_)->Option d_):Option d_:=
 if a25.1<(List.length (List.drop (Int.toNat 0) (List.take (Int.toNat (min (List.length (at' p0 a11.1):Int) (32:Int))) (at' p0 a11.1))):Int)then(ck (0<=a25.1∧a25.1<(List.length (List.drop (Int.toNat 0) (List.take (Int.toNat (min (List.length (at' p0 a11.1):Int) (32:Int))) (at' p0 a11.1))):Int)) (ck (0<=a25.1) (if(oY .u32 (rC .u32 p1 a25.1) (1:Int))=(1:Int)then(ck (0<=a11.1∧a11.1<(List.length a25.2:Int)) (ck ((List.length (at' a25.2 a11.1):Int)+(List.length ([(at' (List.drop (Int.toNat 0) (List.take (Int.toNat (min (List.length (at' p0 a11.1):Int) (32:Int))) (at' p0 a11.1))) a25.1)]):Int)<=1099511627) (ck (0<=a11.1∧a11.1<(List.length (List.set a25.2 (Int.toNat a11.1) ((at' a25.2 a11.1)++([(at' (List.drop (Int.toNat 0) (List.take (Int.toNat (min (List.length (at' p0 a11.1):Int) (32:Int))) (at' p0 a11.1))) a25.1)]))):Int)) (iI a25 ag24 (List.set a25.2 (Int.toNat a11.1) ((at' a25.2 a11.1)++([(at' (List.drop (Int.toNat 0) (List.take (Int.toNat (min (List.length (at' p0 a11.1):Int) (32:Int))) (at' p0 a11.1))) a25.1)])))))))else(iI a25 ag24 (a25.2)))))else(m_ a11 ag10 (a25.2))
def fH (U:Nat) (p0:d_) (p1:Int) (a11:Int×d_) (ag10:(Int×d_)->Option d_):Option d_:=
 if a11.1<(List.length p0:Int)then(ck (0<=a11.1∧a11.1<(List.length p0:Int)) (ck (0<=(0:Int)∧(0:Int)<=(min (List.length (at' p0 a11.1):Int) (32:Int))∧(min (List.length (at' p0 a11.1):Int) (32:Int))<=(List.length (at' p0 a11.1):Int)) (bH (iJ p0 p1 a11 ag10) U ((0:Int),a11.2))))else(mZ  (a11.2))
def oS (U:Nat) (p0:d_) (p1:Int):Option d_:=
 ck (0<=(List.length p0:Int)∧(List.length p0:Int)<=1099511627) (bH (fH U p0 p1) U ((0:Int),(List.replicate (Int.toNat (List.length p0:Int)) ([]:bV))))
theorem SO:bE Tryz.prog 13:=Tryz.call13
theorem De (U:Nat) {p0:d_} {p1:Int} (v0:Value)  (z1:List (Value×bV)) (r:d_) (h:oS U p0 p1=some r):
  aZ Tryz.prog 13 #[v0,vU (p1)] [S2 lH v0 z1 p0] (fun x:Value×List Value=>x.1) (fun x l=>Ar iA x.1 x.2::CB fK x.2 r::l) (fun _ l=>l):=by
 refine aZ.of Tryz.func13 rfl Tryz.ntmps13 rfl fun c=>?_
 refine aT<|aB rfl<|aL<|aT<|aA rfl<|aD (Cb rfl (dB rfl) rfl) rfl<|eO h fun j1 h=>c_ (Eb fK (Int.toNat (List.length p0:Int)))<|aN (z_ (e:=iA) (oI) rfl rfl rfl rfl j1 rfl rfl rfl) rfl fun u2=>aB rfl<|aL<|aI<|CS (B:=nT) (fun a5=>mZ  a5=some r) (fun a5 b6=>[(5,u2)]) (fun a5 b6=>[Ar iA u2 b6,CB fK b6 a5]) ?_ ?_
 ·refine aT<|aA rfl<|aD (Cb rfl (dB rfl) rfl) rfl<|aA rfl<|aL<|aP<|eH (B:=nT) (fH U p0 p1) (fun a11 b12=>[(1,vU (p1)),(5,u2),(13,v0),(14,vI (List.length p0:Int)),(15,vI (a11.1))]) (fun a11 b12=>[Ar iA u2 b12,CB fK b12 a11.2]) ((0:Int),(List.replicate (Int.toNat (List.length p0:Int)) ([]:bV))) (List.replicate (Int.toNat (List.length p0:Int)) (oI)) h SF (bK.refl _) ?_
  intro k13 a11 b12 h
  refine aT<|cZ rfl<|aL<|aI ?_
  refine fG h rfl (fun h=>?_) fun h=>?_
  ·refine bJ<|aI<|CS (B:=nT) (fun a17=>m_ a11 (bH (fH U p0 p1) k13) a17=some r) (fun a17 b18=>[(1,vU (p1)),(5,u2),(13,v0),(14,vI (List.length p0:Int)),(15,vI (a11.1))]) (fun a17 b18=>[Ar iA u2 b18,CB fK b18 a17]) ?_ ?_
   ·refine aP<|aT<|aA rfl<|eO h fun j19 h=>aD (zM rfl rfl (dB rfl) rfl rfl j19) rfl<|aD (zN rfl (dB rfl) rfl rfl j19) rfl<|aB rfl<|aB rfl<|aL<|aT<|aA rfl<|aA rfl<|aD (eX rfl (aM.el (dB rfl) j19.1 j19.2) rfl) rfl<|aD (UK rfl rfl) rfl<|eO h fun j20 h=>aD (CI rfl rfl (aM.el (dB rfl) j19.1 j19.2) rfl rfl j20) rfl<|aD (eX rfl (aM.part (q:=1) (aM.el (dB rfl) j19.1 j19.2) rfl j20) rfl) rfl<|aA rfl<|aL<|aP<|eH (B:=nT) (iJ p0 p1 a11 (bH (fH U p0 p1) k13)) (fun a25 b26=>[(1,vU (p1)),(5,u2),(6,vI (a11.1)),(13,v0),(14,vI (List.length p0:Int)),(15,vI (a11.1)),(24,It ((at' z1 a11.1).1) (Int.toNat 0) (Int.toNat (min (List.length (at' p0 a11.1):Int) (32:Int))) 1),(25,vI (List.length (List.drop (Int.toNat 0) (List.take (Int.toNat (min (List.length (at' p0 a11.1):Int) (32:Int))) (at' p0 a11.1))):Int)),(26,vI (a25.1))]) (fun a25 b26=>[Ar iA u2 b26,CB fK b26 a25.2]) ((0:Int),a11.2) (b12) h SF (bK.refl _) ?_
    intro k27 a25 b26 h
    refine aT<|cZ rfl<|aL<|aI ?_
    refine fG h rfl (fun h=>?_) fun h=>?_
    ·refine bJ<|aI<|CS (B:=nT) (fun a31=>iI a25 (bH (iJ p0 p1 a11 (bH (fH U p0 p1) k13)) k27) a31=some r) (fun a31 b32=>[(1,vU (p1)),(5,u2),(6,vI (a11.1)),(13,v0),(14,vI (List.length p0:Int)),(15,vI (a11.1)),(24,It ((at' z1 a11.1).1) (Int.toNat 0) (Int.toNat (min (List.length (at' p0 a11.1):Int) (32:Int))) 1),(25,vI (List.length (List.drop (Int.toNat 0) (List.take (Int.toNat (min (List.length (at' p0 a11.1):Int) (32:Int))) (at' p0 a11.1))):Int)),(26,vI (a25.1))]) (fun a31 b32=>[Ar iA u2 b32,CB fK b32 a31]) ?_ ?_
     ·refine aP<|aT<|aA rfl<|eO h fun j33 h=>aD (aU rfl rfl (aM.part (q:=1) (aM.el (dB rfl) j19.1 j19.2) rfl j20) rfl rfl j33) rfl<|aD (fN rfl (aM.part (q:=1) (aM.el (dB rfl) j19.1 j19.2) rfl j20) rfl rfl rfl jP j33) rfl<|aB rfl<|aB rfl<|aL<|aT<|aA rfl<|aA rfl<|eO h fun j34 h=>aD (AW rfl rfl j34) rfl<|Eo rfl<|cH rfl<|aL ?_
      refine fG h rfl (fun h=>?_) fun h=>?_
      ·refine aH<|aA rfl<|aA rfl<|aA rfl<|aA rfl<|eO h fun j36 h=>aD (zM rfl rfl (Ds (i:=0) (j:=1) rfl rfl jD) rfl rfl j36) rfl<|dG (Cy 1 rfl) fun hl37=>aD (MM 0 rfl rfl hl37 rfl rfl j36) rfl<|aA rfl<|aN (iR (e:=fK) ([(at' (List.drop (Int.toNat 0) (List.take (Int.toNat (min (List.length (at' p0 a11.1):Int) (32:Int))) (at' p0 a11.1))) a25.1)]) [(0,vI (at' (List.drop (Int.toNat 0) (List.take (Int.toNat (min (List.length (at' p0 a11.1):Int) (32:Int))) (at' p0 a11.1))) a25.1))] rfl rfl rfl rfl (xC (vI (at' (List.drop (Int.toNat 0) (List.take (Int.toNat (min (List.length (at' p0 a11.1):Int) (32:Int))) (at' p0 a11.1))) a25.1)) rfl) rfl rfl rfl) rfl fun u38=>eO h fun j40 h=>aN (Es 2 jD rfl rfl rfl (bT (aM.res 0 rfl) jD) rfl rfl rfl rfl j36 j40 rfl) rfl fun u39=>eO h fun j41 h=>dG (Cy 2 rfl) fun hl42=>?_
       refine aD (N_ 1 rfl rfl rfl rfl rfl j41.1 (by have q1:=j41.2;have q2:=hl42;(try simp only[List.length_set]at q1);(try simp only[List.length_set]at q2);(try simp only[List.length_set]);omega)) rfl ?_
       refine dG (IK 2 (k:=a11.1) rfl ⟨j41.1,by first|exact j41.2|simpa using j41.2⟩) fun ho43=>?_
       refine Kk 1 2 ⟨j41.1,by first|exact j41.2|simpa using j41.2⟩ rfl rfl rfl rfl rfl (by simp) ho43 rfl ?_
       refine fF<|kB ?_
       exact bS (List.set a25.2 (Int.toNat a11.1) ((at' a25.2 a11.1)++([(at' (List.drop (Int.toNat 0) (List.take (Int.toNat (min (List.length (at' p0 a11.1):Int) (32:Int))) (at' p0 a11.1))) a25.1)]))) (List.set b26 (Int.toNat a11.1) u39) h SF (bK.ix [1,2] rfl rfl) (aO.refl _ _)
      refine cS<|kB ?_
      exact b_ (a25.2) (b26) h SF rfl
     intro a31 b32 h
     unfold iI at h
     refine aH<|cU rfl<|aA rfl<|aL ?_
     exact AC ((wI .i64 (a25.1+(1:Int))),a31) (b32) h SF rfl
    refine Dq<|sJ<|sJ<|GL<|kB ?_
    exact b_ (a25.2) (b26) h SF rfl
   intro a17 b18 h
   unfold m_ at h
   refine aH<|cU rfl<|aA rfl<|aL ?_
   exact AC ((wI .i64 (a11.1+(1:Int))),a17) (b18) h SF rfl
  refine dY ?_
  exact b_ (a11.2) (b12) h SF rfl
 intro a5 b6 h
 unfold mZ at h
 refine aT<|aA rfl<|aB rfl<|aL<|aS ?_
 cases h
 exact xL (u2,b6) rfl rfl (RV.tmp rfl) (bK.refl _) aO.nil
end
section
def qX  (a4:d_):Option d_:=
 some (a4)
def vR (a11:d_×Int) (ag10:(d_×Int)->Option d_) (a17:bV):Option d_:=
 ck ((List.length a11.1:Int)+(List.length ([a17]):Int)<=1099511627) (ag10 ((a11.1++[a17]),(wI .i64 (a11.2+(1:Int)))))
def jY (a29:bV×Int) (ag28:(bV×Int)->Option d_) (a38:bV):Option d_:=
 ag28 (a38,(wI .i64 (a29.2+(1:Int))))
def mK (p0:d_) (p1:Int) (a11:d_×Int) (ag10:(d_×Int)->Option d_) (a29:bV×Int) (ag28:(bV×Int)->Option d_) (a33:Bool):Option d_:=
 if a33=true then(ck (0<=(wI .u64 a29.2)) (if(oY .u32 (rC .u32 p1 (wI .u64 a29.2)) (1:Int))=(1:Int)then(ck (0<=a11.2∧a11.2<(List.length p0:Int)) (ck (0<=a29.2∧a29.2<(List.length (at' p0 a11.2):Int)) (ck ((List.length a29.1:Int)+(List.length ([(at' (at' p0 a11.2) a29.2)]):Int)<=1099511627) (jY a29 ag28 (a29.1++([(at' (at' p0 a11.2) a29.2)]))))))else(jY a29 ag28 (a29.1))))else(vR a11 ag10 (a29.1))
def iL (p0:d_) (p1:Int) (a11:d_×Int) (ag10:(d_×Int)->Option d_) (a29:bV×Int) (ag28:(bV×Int)->Option d_):Option d_:=
 ck (0<=a11.2∧a11.2<(List.length p0:Int)) (if a29.2<(List.length (at' p0 a11.2):Int)then(mK p0 p1 a11 ag10 a29 ag28 (decide (a29.2<(32:Int))))else(mK p0 p1 a11 ag10 a29 ag28 (false)))
def eW (U:Nat) (p0:d_) (p1:Int) (a11:d_×Int) (ag10:(d_×Int)->Option d_):Option d_:=
 if a11.2<(List.length p0:Int)then(bH (iL p0 p1 a11 ag10) U (([]:bV),(0:Int)))else(qX  (a11.1))
def nL (U:Nat) (p0:d_) (p1:Int):Option d_:=
 bH (eW U p0 p1) U (([]:d_),(0:Int))
theorem SP:bE Tryz.prog 14:=Tryz.call14
theorem Ey (U:Nat) {p0:d_} {p1:Int} (v0:Value)  (z1:List (Value×bV)) (r:d_) (h:nL U p0 p1=some r):
  aZ Tryz.prog 14 #[v0,vU (p1)] [S2 lH v0 z1 p0] (fun x:Value×List Value=>x.1) (fun x l=>Ar iA x.1 x.2::CB fK x.2 r::l) (fun _ l=>l):=by
 refine aZ.of Tryz.func14 rfl Tryz.ntmps14 rfl fun c=>?_
 unfold nL at h
 refine aT<|aB rfl<|aL<|aT<|aB rfl<|aL<|aI<|CS (B:=Value×List Value) (fun a4=>qX  a4=some r) (fun a4 b5=>[(5,b5.1)]) (fun a4 b5=>[Ar iA b5.1 b5.2,CB fK b5.2 a4]) ?_ ?_
 ·refine aT<|aB rfl<|aL<|aP<|c_ (fC iA) (c_ (Ec fK) ?_)
  refine eH (B:=Value×List Value) (eW U p0 p1) (fun a11 b12=>[(0,v0),(1,vU (p1)),(5,b12.1),(6,vI (a11.2))]) (fun a11 b12=>[Ar iA b12.1 b12.2,CB fK b12.2 a11.1]) (([]:d_),(0:Int)) ((oI),([]:nT)) h SF (bK.ix [1,0] rfl rfl) ?_
  intro k13 a11 b12 h
  refine aI<|aT<|aA rfl<|aA rfl<|aD (Cb rfl (dB rfl) rfl) rfl<|cZ rfl<|aL ?_
  refine fG h rfl (fun h=>?_) fun h=>?_
  ·refine bJ<|aI<|aP<|aT<|aB rfl<|aL<|aI<|CS (B:=Value) (fun a17=>vR a11 (bH (eW U p0 p1) k13) a17=some r) (fun a17 b18=>[(0,v0),(1,vU (p1)),(5,b12.1),(6,vI (a11.2)),(7,b18)]) (fun a17 b18=>[Ar iA b12.1 b12.2,CB fK b12.2 a11.1,Ar fK b18 a17]) ?_ ?_
   ·refine aT<|aB rfl<|aL<|aP<|c_ (fC fK)<|eH (B:=Value) (iL p0 p1 a11 (bH (eW U p0 p1) k13)) (fun a29 b30=>[(0,v0),(1,vU (p1)),(5,b12.1),(6,vI (a11.2)),(7,b30),(8,vI (a29.2))]) (fun a29 b30=>[Ar iA b12.1 b12.2,CB fK b12.2 a11.1,Ar fK b30 a29.1]) (([]:bV),(0:Int)) (oI) h SF (bK.ix [1,2,0] rfl rfl) ?_
    intro k31 a29 b30 h
    refine aI<|aI<|cF (fun a33=>mK p0 p1 a11 (bH (eW U p0 p1) k13) a29 (bH (iL p0 p1 a11 (bH (eW U p0 p1) k13)) k31) a33=some r) (fun a33 b34=>[(0,v0),(1,vU (p1)),(5,b12.1),(6,vI (a11.2)),(7,b30),(8,vI (a29.2)),(25,vB (a33))]) (fun a33 b34=>[Ar iA b12.1 b12.2,CB fK b12.2 a11.1,Ar fK b30 a29.1]) ?_ ?_
    ·refine aH<|aA rfl<|aA rfl<|aA rfl<|eO h fun j47 h=>aD (zM rfl rfl (dB rfl) rfl rfl j47) rfl<|aD (zN rfl (dB rfl) rfl rfl j47) rfl<|aD (eX rfl (aM.el (dB rfl) j47.1 j47.2) rfl) rfl<|cZ rfl<|aA rfl ?_
     refine mW h rfl (fun _ h=>?_) fun _ h=>?_
     ·refine bM rfl<|aF rfl (IY rfl rfl) rfl<|bO rfl<|aL ?_
      exact b_ (decide (a29.2<(32:Int))) () h SF rfl
     refine aC rfl<|aC rfl<|bR rfl<|aL ?_
     exact b_ (false) () h SF rfl
    intro a33 b34 h
    refine eY h rfl (fun _ h=>?_) fun _ h=>?_
    ·refine bJ<|aI<|CS (B:=Value) (fun a38=>jY a29 (bH (iL p0 p1 a11 (bH (eW U p0 p1) k13)) k31) a38=some r) (fun a38 b39=>[(0,v0),(1,vU (p1)),(5,b12.1),(6,vI (a11.2)),(7,b39),(8,vI (a29.2))]) (fun a38 b39=>[Ar iA b12.1 b12.2,CB fK b12.2 a11.1,Ar fK b39 a38]) ?_ ?_
     ·refine aP<|aT<|aA rfl<|aA rfl<|aD (AU rfl rfl rfl) rfl<|eO h fun j40 h=>aD (AW rfl rfl j40) rfl<|Eo rfl<|cH rfl<|aL ?_
      refine fG h rfl (fun h=>?_) fun h=>?_
      ·refine aH<|aA rfl<|aA rfl<|aA rfl<|eO h fun j42 h=>aD (zM rfl rfl (dB rfl) rfl rfl j42) rfl<|aD (zN rfl (dB rfl) rfl rfl j42) rfl<|aA rfl<|eO h fun j43 h=>aD (aU rfl rfl (aM.el (dB rfl) j42.1 j42.2) rfl rfl j43) rfl<|aD (fN rfl (aM.el (dB rfl) j42.1 j42.2) rfl rfl rfl jP j43) rfl<|aN (iR (e:=fK) ([(at' (at' p0 a11.2) a29.2)]) [(0,vI (at' (at' p0 a11.2) a29.2))] rfl rfl rfl rfl (xC (vI (at' (at' p0 a11.2) a29.2)) rfl) rfl rfl rfl) rfl fun u44=>eO h fun j46 h=>aN (jO 3 jD rfl rfl rfl (bT (aM.res 0 rfl) jD) rfl rfl rfl rfl j46 rfl) rfl fun u45=>aB rfl<|fF<|kB ?_
       exact bS (a29.1++([(at' (at' p0 a11.2) a29.2)])) (u45) h SF (bK.ix [1,2,3] rfl rfl) (aO.refl _ _)
      refine cS<|kB ?_
      exact b_ (a29.1) (b30) h SF rfl
     intro a38 b39 h
     unfold jY at h
     refine aH<|aA rfl<|cU rfl<|aB rfl<|aL ?_
     exact AC (a38,(wI .i64 (a29.2+(1:Int)))) (b39) h SF rfl
    refine dY ?_
    exact b_ (a29.1) (b30) h SF rfl
   intro a17 b18 h
   refine aH<|aA rfl<|aA rfl<|c_ (Ec fK)<|dG (Know.one ((bT (aM.res 3 rfl) jD))) fun ho19=>c_ (Kq 0 3 rfl rfl rfl) ?_
   refine aN (iR (e:=iA) [b18] [(0,b18)] rfl rfl rfl rfl (xC (b18) ho19) rfl rfl (by simp[cellsOf,iA,ho19])) rfl fun u20=>?_
   refine dG (Cy 3 rfl) fun hl21=>dG (Cy 1 rfl) fun hl22=>eO h fun j23 h=>c_ (IT 3 1 rfl rfl rfl) ?_
   refine aN (aR.append 1 0 rfl rfl rfl rfl rfl rfl rfl (by have q:=j23;have q1:=hl21;have q2:=hl22;(try simp only[List.length_cons,List.length_nil]at q q1 q2 ⊢);omega) (by have q:=j23;have q1:=hl21;have q2:=hl22;(try simp only[List.length_cons,List.length_nil]at q q1 q2 ⊢);omega) rfl) rfl fun u24=>?_
   refine aB rfl<|fF<|kB<|aH<|aA rfl<|cU rfl<|aB rfl<|aL ?_
   exact eK ((a11.1++[a17]),(wI .i64 (a11.2+(1:Int)))) (u24,(b12.2++[b18])) h SF (bK.ix [1,2] rfl rfl) (aO.refl _ _)
  refine dY ?_
  exact b_ (a11.1) (b12.1,b12.2) h SF rfl
 intro a4 b5 h
 unfold qX at h
 refine aT<|aA rfl<|aB rfl<|aL<|aS ?_
 cases h
 exact xL (b5.1,b5.2) rfl rfl (RV.tmp rfl) (bK.refl _) aO.nil
end
section
def eR  (a22:Bool):Option (Bool):=
 some (a22)
def gO (U:Nat) (p0:dZ) (p1:Int) (p2:d_) (a3:Bool):Option (Bool):=
 if a3=true then(Option.bind (vX U) fun r6=>(some (r6)))else(Option.bind (nD U ((p0.1,p0.2.1,p0.2.2)) p1) fun r9=>(Option.bind (qS U ((p0.1,p0.2.1,p0.2.2)) p1) fun r15=>(Option.bind (vX U) fun r24=>(if r24=true then(Option.bind (nK U ((p0.1,p0.2.1,p0.2.2)) p1) fun r28=>(Option.bind (rR U ((p0.1,p0.2.1,p0.2.2)) p1) fun r31=>(if(r28==r31)=true then(if r9.2=r15.2 then(Option.bind (uA U ((r9.1.1,r9.1.2.1,r9.1.2.2)) ((r15.1.1,r15.1.2.1,r15.1.2.2))) fun r36=>(if r36=true then(Option.bind (oS U p2 p1) fun r40=>(Option.bind (nL U p2 p1) fun r43=>(Option.bind (xS U r40 r43) fun r46=>(eR  (r46)))))else(eR  (false))))else(eR  (false)))else(eR  (false)))))else(eR  (false))))))
def oL (U:Nat) (p0:dZ) (p1:Int) (p2:d_):Option (Bool):=
 Option.bind (rM U ((p0.1,p0.2.1,p0.2.2))) fun r49=>(if r49=true then(gO U p0 p1 p2 (true))else(gO U p0 p1 p2 (decide ((40:Int)<(List.length p2:Int)))))
theorem AL (U:Nat) {p0:dZ} {p1:Int} {p2:d_} (v0:Value)  (v1:Value)  (v2:Value)  (z3:List (Value×bV)) (r:Bool) (h:oL U p0 p1 p2=some r):
  aZ Tryz.prog 3 #[Value.agg #[vS (p0.1),v0,v1],vU (p1),v2] [Sl aQ v0 p0.2.1,Sl aK v1 p0.2.2,S2 lH v2 z3 p2] (fun x:Unit=>vB (r)) (fun x l=>l) (fun _ l=>l):=by
 refine aZ.of Tryz.func3 rfl Tryz.ntmps3 rfl fun c=>?_
 refine aT<|aN (aR.box (cs:=[vS (p0.1),v0,v1]) rfl rfl) rfl fun b1=>aB rfl<|aL<|aI<|aI<|cF (fun a3=>gO U p0 p1 p2 a3=some r) (fun a3 b4=>[(1,vU (p1)),(2,v2),(3,vP b1),(17,vB (a3))]) (fun a3 b4=>[dD b1 [vS (p0.1),v0,v1] 25]) ?_ ?_
 ·refine aH<|l_ 0 rfl<|eM h fun r49 w50 h=>aN (aR.callQ UP (Gn U v0 v1 r49 w50) rfl (hI [0,1] rfl)) rfl fun x51=>aA rfl ?_
  refine e_ (by exact rfl) (by exact rfl) (fun hp52=>?_) (fun hp52=>?_)
  ·have h:=Ak hp52 h
   refine aC rfl<|aC rfl<|aC rfl<|bO rfl<|aL ?_
   exact b_ (true) () h SF rfl
  have h:=rI hp52 h
  refine bM rfl<|aF rfl (Cb rfl (Ck rfl) rfl) rfl<|aF rfl (pF rfl rfl) rfl<|bR rfl<|aL ?_
  exact b_ (decide ((40:Int)<(List.length p2:Int))) () h SF rfl
 intro a3 b4 h
 refine eY h rfl (fun _ h=>?_) fun _ h=>?_
 ·refine aT<|eM h fun r6 w7 h=>aN (aR.callQ Ou (BO U  r6 w7) rfl .nil) rfl fun x8=>aB rfl<|aL<|aS<|aG ?_
  cases h
  exact vF rfl
 refine bJ<|aT<|l_ 0 rfl<|aA rfl<|eM h fun r9 w10 h=>aN (aR.call UQ (Cq U v0 v1 r9 w10) rfl (tM.cons (List.mem_of_getElem? (i:=0) rfl) (lN 1 rfl)) (fun _ _=>rfl) (fun _ _=>rfl)) rfl fun x11=>aA rfl<|gI rfl<|gI rfl<|aN (aR.alloc (cs:=xJ) rfl rfl) rfl fun b12=>dG (Know.one ((bT (aM.res 1 rfl) bU))) fun ho13=>dG (Know.one ((dB rfl))) fun ho14=>cC 0 (vs:=[vS (r9.1.1),x11.1,x11.2]) rfl rfl (fE rfl (fE ho13 (fE ho14 rfl))) rfl rfl rfl<|aB rfl<|aL<|aT<|l_ 2 rfl<|aA rfl<|eM h fun r15 w16 h=>aN (aR.call UR (DX U v0 v1 r15 w16) rfl (tM.cons (List.mem_of_getElem? (i:=1) rfl) (lN 2 rfl)) (fun _ _=>rfl) (fun _ _=>rfl)) rfl fun x17=>aA rfl<|gI rfl<|gI rfl<|aN (aR.alloc (cs:=xJ) rfl rfl) rfl fun b18=>dG (Know.one ((bT (aM.res 1 rfl) bU))) fun ho19=>dG (Know.one ((dB rfl))) fun ho20=>cC 0 (vs:=[vS (r15.1.1),x17.1,x17.2]) rfl rfl (fE rfl (fE ho19 (fE ho20 rfl))) rfl rfl rfl<|aB rfl<|aL<|aI<|pB (B:=Unit) (fun a22=>eR  a22=some r) (fun a22 b23=>[(6,vB (a22))]) (fun a22 b23=>[]) (fun a22 b23=>[Sl aK x17.2 r15.1.2.2,Sl aK x11.2 r9.1.2.2,Sl aQ v0 p0.2.1,Sl aK v1 p0.2.2,S2 lH v2 z3 p2]) ?_ ?_
 ·refine IJ [0,1,3,3,15,3,3,127,255,511,1023,2047,2047,8191,16383,32767,65535,65535,262143,524287,1048575,2097151,2097151,8388607,2097151,2097151,67108863,134217727,268435455,536870911] 26 mixedOrders (by decide +kernel) ?_
  refine JR.open (by exact rfl)<|eM h fun r24 w25 h=>JR.loud rfl rfl rfl (aR.callQ Ou (BO U  r24 w25) rfl .nil) rfl (fun x26=>zD.z) fun x26=>rH rfl (fY rfl) ?_
  refine JR.guard (by exact rfl) (by exact rfl) (by exact rfl) (fun hp27=>?_) (fun hp27=>?_)
  ·have h:=Ak hp27 h
   refine gH rfl (bK.cons 4 rfl .nil) .nil (lI 0 rfl rfl rfl rfl) (LD rfl)<|gH rfl .nil .nil (fY rfl) (LD rfl)<|eM h fun r28 w29 h=>zJ rfl rfl rfl rfl (aR.callQ Sb (AF U v0 v1 r28 w29) rfl (hI [2,3] rfl)) rfl (fun x30=>(CJ [] rfl)) fun x30=>gH rfl (bK.cons 4 rfl .nil) .nil (lI 0 rfl rfl rfl rfl) (bD.h (bK.ix [4] rfl rfl) .nil (LD rfl))<|gH rfl .nil .nil (fY rfl) UW<|eM h fun r31 w32 h=>zJ rfl rfl rfl rfl (aR.callQ Oh (BR U v0 v1 r31 w32) rfl (hI [2,3] rfl)) rfl (fun x33=>(CJ [] rfl)) fun x33=>gH rfl .nil .nil (SH rfl rfl rfl) (LD rfl)<|rH rfl (vT rfl rfl)<|rH rfl (fY rfl) ?_
   refine JR.guard (by exact rfl) (by exact rfl) (by exact rfl) (fun hp34=>?_) (fun hp34=>?_)
   ·have h:=Ak hp34 h
    refine gH rfl .nil .nil (fY rfl) (LD rfl)<|gH rfl .nil .nil (fY rfl) (LD rfl)<|gH rfl .nil .nil (kP rfl rfl) (LD rfl)<|rH rfl (vT rfl rfl)<|rH rfl (fY rfl) ?_
    refine Dr (by exact rfl) (by exact rfl) (by exact rfl) (fun hp35=>?_) (fun hp35=>?_)
    ·have h:=Ak hp35 h
     refine gH rfl (bK.cons 2 rfl .nil) .nil (lI 0 rfl rfl rfl rfl) (LD rfl)<|gH rfl (bK.cons 0 rfl .nil) .nil (lI 0 rfl rfl rfl rfl) (LD rfl)<|eM h fun r36 w37 h=>zJ rfl rfl rfl rfl (aR.callQ SL (Iw U x11.1 x11.2 x17.1 x17.2 r36 w37) rfl (aO.cons (bT (aM.res 3 rfl) bU) (aO.cons (eZ rfl) (aO.cons (bT (aM.res 1 rfl) bU) (hI [0] rfl))))) rfl (fun x38=>(CJ [] rfl)) fun x38=>rH rfl (vT rfl rfl)<|rH rfl (fY rfl) ?_
     refine JR.guard (by exact rfl) (by exact rfl) (by exact rfl) (fun hp39=>?_) (fun hp39=>?_)
     ·have h:=Ak hp39 h
      refine gH rfl .nil .nil (fY rfl) (LD rfl)<|gH rfl .nil .nil (fY rfl) (LD rfl)<|eM h fun r40 w41 h=>zJ rfl rfl rfl rfl (aR.callQ SO (De U v2 z3 r40 w41) rfl (hI [4] rfl)) rfl (fun x42=>(CJ [] rfl)) fun x42=>gH rfl .nil .nil (fY rfl) UW<|gH rfl .nil .nil (fY rfl) UW<|dM 26 rfl rfl<|eM h fun r43 w44 h=>fA rfl (aR.callQ SP (Ey U v2 z3 r43 w44) rfl (hI [4] rfl)) rfl fun x45=>eM h fun r46 w47 h=>fA rfl (aR.callQ SN (Iy U x42.1 (List.zip x42.2 r40) x45.1 (List.zip x45.2 r43) r46 w47) rfl (aO.cons (Ds (i:=2) (j:=3) rfl rfl jD) (aO.cons (Ds (i:=0) (j:=1) rfl rfl jD) .nil))) rfl fun x48=>bO rfl<|aB rfl<|aL ?_
      exact bS (r46) () h SF .nil (aO.refl _ _)
     have h:=rI hp39 h
     refine bG rfl rfl rfl rfl<|bG rfl rfl rfl rfl<|bG rfl rfl rfl rfl<|bG rfl rfl rfl rfl<|bG rfl rfl rfl rfl<|dM 26 rfl rfl<|aC rfl<|aC rfl<|bR rfl<|aB rfl<|aL ?_
     exact bS (false) () h SF .nil (aO.refl _ _)
    have h:=TI hp35 h
    refine bG rfl rfl rfl rfl<|bG rfl rfl rfl rfl<|bG rfl rfl rfl rfl<|rH rfl (qI rfl rfl)<|rH rfl (fY rfl)<|bG rfl rfl rfl rfl<|bG rfl rfl rfl rfl<|bG rfl rfl rfl rfl<|bG rfl rfl rfl rfl<|bG rfl rfl rfl rfl<|dM 26 rfl rfl<|aC rfl<|aC rfl<|bR rfl<|aB rfl<|aL ?_
    exact bS (false) () h SF .nil (aO.refl _ _)
   have h:=rI hp34 h
   refine bG rfl rfl rfl rfl<|bG rfl rfl rfl rfl<|bG rfl rfl rfl rfl<|rH rfl (qI rfl rfl)<|rH rfl (fY rfl)<|bG rfl rfl rfl rfl<|bG rfl rfl rfl rfl<|bG rfl rfl rfl rfl<|rH rfl (qI rfl rfl)<|rH rfl (fY rfl)<|bG rfl rfl rfl rfl<|bG rfl rfl rfl rfl<|bG rfl rfl rfl rfl<|bG rfl rfl rfl rfl<|bG rfl rfl rfl rfl<|dM 26 rfl rfl<|aC rfl<|aC rfl<|bR rfl<|aB rfl<|aL ?_
   exact bS (false) () h SF .nil (aO.refl _ _)
  have h:=rI hp27 h
  refine bG rfl rfl rfl rfl<|bG rfl rfl rfl rfl<|bG rfl rfl rfl rfl<|bG rfl rfl rfl rfl<|bG rfl rfl rfl rfl<|bG rfl rfl rfl rfl<|bG rfl rfl rfl rfl<|rH rfl (qI rfl rfl)<|rH rfl (fY rfl)<|bG rfl rfl rfl rfl<|bG rfl rfl rfl rfl<|bG rfl rfl rfl rfl<|rH rfl (qI rfl rfl)<|rH rfl (fY rfl)<|bG rfl rfl rfl rfl<|bG rfl rfl rfl rfl<|bG rfl rfl rfl rfl<|rH rfl (qI rfl rfl)<|rH rfl (fY rfl)<|bG rfl rfl rfl rfl<|bG rfl rfl rfl rfl<|bG rfl rfl rfl rfl<|bG rfl rfl rfl rfl<|bG rfl rfl rfl rfl<|dM 26 rfl rfl<|aC rfl<|aC rfl<|bR rfl<|aB rfl<|aL ?_
  exact bS (false) () h SF .nil (aO.refl _ _)
 intro a22 b23 h
 unfold eR at h
 refine aS ?_
 cases h
 exact gU rfl
end
end Go.Proofs.YthnplbmmlbnelaaGreat
end
section
namespace Go.Proofs.YthnplbmmlbnelaaGreat
open Go Go.Sx
theorem Uj (F:Nat) (l:bV) (hl:l.length<F) (h2:l.length<=1000):qO F l l=some true:=by
 unfold qO
 rw[if_neg (by omega)]
 exact eN (step:=lA l l) (K:=some true) l.length (fun k=>(k:Int)) (fun k ag hk=>by
  unfold lA
  rw[if_pos (by omega),eF (by omega),eF (by omega),if_neg (by simp),wr (by omega) (by omega)]
  rfl) (fun ag=>by unfold lA oU;rw[if_neg (by omega)]) F hl
theorem Vz (F:Nat) (l:d_) (hl:l.length<=40) (h2:∀r∈l,r.length<=32) (hF:1000<=F):xS F l l=some true:=by
 unfold xS
 rw[if_neg (by omega)]
 exact eN (step:=sF F l l) (K:=some true) l.length (fun k=>(k:Int)) (fun k ag hk=>by
  have:=h2 _ (lS hk)
  unfold sF
  rw[if_pos (by omega),eF (by omega),eF (by omega),bF (Uj F _ (by omega) (by omega)),if_neg (by decide),wr (by omega) (by omega)]
  rfl) (fun ag=>by unfold sF wS;rw[if_neg (by omega)]) F (by omega)
theorem Mg (F:Nat) (l:List TM) (hl:l.length<=400) (hF:1000<=F):t_ F l l=some true:=by
 unfold t_
 rw[if_neg (by omega)]
 exact eN (step:=rY l l) (K:=some true) l.length (fun k=>(k:Int)) (fun k ag hk=>by
  unfold rY
  rw[if_pos (by omega),eF (by omega),eF (by omega),if_neg (by simp),wr (by omega) (by omega)]
  rfl) (fun ag=>by unfold rY wL;rw[if_neg (by omega)]) F (by omega)
theorem I_ (a:ByteArray):dC a a=true:=by rw[HF];simp
theorem Uk (F:Nat) {p:PG} (hp:EF p) (hF:1000<=F):uA F p p=some true:=by
 have hv:=hp.v
 have hr:=hp.r
 unfold uA rZ
 rw[I_,if_neg (by decide),if_neg (by omega),if_neg (by simp)]
 have e2:r_ F p p ()=some true:=by
  unfold r_
  exact eN (step:=gM F p p) (K:=some true) p.2.2.length (fun k=>(k:Int)) (fun k ag hk=>by
   obtain⟨g1,g2,g3⟩:=hp.g _ (lS hk)
   unfold gM wO
   dsimp only
   rw[if_pos (by omega),eF (by omega),eF (by omega),I_,if_neg (by decide),bF (Mg F _ (by omega) hF),if_neg (by decide)]
   unfold sA
   rw[if_neg (by simp)]
   have e3:=eN (step:=oE F (k:Int) ag ((at' p.2.2 (k:Int)).2.1,(at' p.2.2 (k:Int)).2.2,(at' p.2.2 (k:Int)).2.1,(at' p.2.2 (k:Int)).2.2)) (K:=ag ((k+1:Nat):Int)) (at' p.2.2 (k:Int)).2.2.length (fun j=>(j:Int)) (fun j ag' hj=>by
    have:=g3 _ (lS hj)
    unfold oE wP
    dsimp only
    rw[if_pos (by omega),eF (by omega),eF (by omega),if_neg (by simp),eF (by omega),eF (by omega),bF (Mg F _ (by omega) hF),if_neg (by decide),wr (by omega) (by omega)]
    rfl) (fun ag'=>by
    unfold oE wN
    dsimp only
    rw[if_neg (by omega),wr (by omega) (by omega)]
    rfl) F (by omega)
   exact e3) (fun ag=>by unfold gM wM;rw[if_neg (by omega)]) F (by omega)
 exact eN (step:=sB F p p) (K:=some true) p.2.1.length (fun k=>(k:Int)) (fun k ag hk=>by
  unfold sB
  rw[if_pos (by omega),eF (by omega),eF (by omega),if_neg (by simp),wr (by omega) (by omega)]
  rfl) (fun ag=>by unfold sB;rw[if_neg (by omega)];exact e2) F (by omega)
theorem Jw (m:bV) (e:List TM):(Et m e).1.length<=e.length:=by
 unfold Et
 split
 ·split<;>simp
 ·simp
theorem HB:EF OK:=⟨by decide,by decide,fun q hq=>by simp[OK]at hq⟩
theorem EF.res {p:PG} (hp:EF p) (v:Int):EF (Il p v).1:=by
 unfold Il
 split
 ·exact HB
 split
 ·exact HB
 split
 ·exact HB
 have hv:=hp.v
 have hr:=hp.r
 refine⟨?_,?_,fun q hq=> ?_⟩
 ·have:=HS v p.2.1.length
  have:=FA p v p.2.1.length
  show(yR p v p.2.1.length).length<=20
  omega
 ·have:=Io p v p.2.2.length
  show(Ke p v p.2.2.length).length<=20
  omega
 ·have hq:q∈Ke p v p.2.2.length:=hq
  unfold Ke at hq
  obtain⟨j,hj,rfl⟩:=List.mem_map.1 hq
  have hj:=List.mem_range.1 (List.mem_filter.1 hj).1
  obtain⟨g1,g2,g3⟩:=hp.g _ (lS hj)
  refine⟨Nat.le_trans (Jw _ _) g1,?_,fun s hs=> ?_⟩
  ·show((at' p.2.2 (j:Int)).2.2.map _).length<=20
   rw[List.length_map];exact g2
  ·have hs:s∈(at' p.2.2 (j:Int)).2.2.map _:=hs
   obtain⟨s',hs',rfl⟩:=List.mem_map.1 hs
   exact Nat.le_trans (Jw _ _) (g3 s' hs')
def Po (v:Int) (row:bV) (j:Nat):bV:=((List.range j).filter (bq v)).map fun i:Nat=>at' row (i:Int)
theorem Ju (v:Int) (row:bV) (k:Nat):Po v row (k+1)=if bq v k=true then Po v row k++[at' row (k:Int)]else Po v row k:=by
 unfold Po
 rw[List.range_succ,List.filter_append,List.map_append]
 cases h:bq v k<;>simp[h]
theorem Ik (v:Int) (row:bV) (k:Nat):(Po v row k).length<=k:=by unfold Po;rw[List.length_map];exact Nat.le_trans (List.length_filter_le _ _) (by simp)
def Qh (v:Int) (l:d_) (k:Nat):bV:=Po v (at' l (k:Int)) (min (at' l (k:Int)).length 32)
def Si (v:Int) (l:d_):d_:=(List.range l.length).map (Qh v l)
def TU (v:Int) (l:d_) (k:Nat):d_:=(List.range k).map (Qh v l)++List.replicate (l.length - k) []
def Pn (v:Int) (l:d_) (k:Nat) (x:bV):d_:=(List.range k).map (Qh v l)++x::List.replicate (l.length - (k+1)) []
theorem Vi {v:Int} {l:d_} {k:Nat} (h:k<l.length):TU v l k=Pn v l k []:=by
 unfold TU Pn
 rw[show l.length - k=(l.length - (k+1))+1 by omega,List.replicate_succ]
theorem Vh {v:Int} {l:d_} {k:Nat}:Pn v l k (Qh v l k)=TU v l (k+1):=by
 unfold TU Pn
 rw[List.range_succ,List.map_append];simp
theorem TT (v:Int) (l:d_) (k:Nat) (x:bV):at' (Pn v l k x) (k:Int)=x:=fD _ _ _ _ (by simp)
theorem Ro (v:Int) (l:d_) (k:Nat) (x y:bV):(Pn v l k x).set k y=Pn v l k y:=DR _ _ _ _ k (by simp)
theorem LZ (v:Int) {l:d_} {k:Nat} (h:k<l.length) (x:bV):(Pn v l k x).length=l.length:=by unfold Pn;simp;omega
theorem Og {l:bV} {n i:Nat} (h:i<n) (hl:i<l.length):at' (l.take n) (i:Int)=at' l (i:Int):=by
 have e1:=vM (l:=l.take n) (k:=i) (by rw[List.length_take];omega)
 rw[List.getElem?_take,if_pos h,vM hl]at e1
 exact(Option.some.inj e1).symm
theorem PO (F:Nat) (l:d_) (v:Int) (hl:l.length<=40) (hF:1000<=F):oS F l v=some (Si v l):=by
 unfold oS
 rw[eF (by omega),Int.toNat_natCast]
 have e0:=eN (step:=fH F l v) (K:=some (Si v l)) l.length (fun k=>((k:Int),TU v l k)) (fun k ag hk=>by
  have hw:Int.toNat (min (List.length (at' l (k:Int)):Int) (32:Int))=min (at' l (k:Int)).length 32:=by omega
  have hlen:(List.drop (Int.toNat 0) (List.take (min (at' l (k:Int)).length 32) (at' l (k:Int)))).length=min (at' l (k:Int)).length 32:=by simp
  unfold fH
  dsimp only
  rw[if_pos (by omega),eF (by omega),eF (by omega),Vi hk]
  have e1:=eN (step:=iJ l v ((k:Int),Pn v l k []) ag) (K:=ag (((k+1:Nat):Int),TU v l (k+1))) (min (at' l (k:Int)).length 32) (fun j=>((j:Int),Pn v l k (Po v (at' l (k:Int)) j))) (fun j ag' hj=>by
   have hpl:=LZ v hk (Po v (at' l (k:Int)) j)
   have hrl:=Ik v (at' l (k:Int)) j
   unfold iJ
   dsimp only
   rw[hw,if_pos (by omega),eF (by omega),eF (by omega),Ju]
   by_cases hb:oY .u32 (rC .u32 v (j:Int)) 1=1
   ·have hq:bq v j=true:=decide_eq_true hb
    have hat:at' (List.drop (Int.toNat 0) (List.take (min (at' l (k:Int)).length 32) (at' l (k:Int)))) (j:Int)=at' (at' l (k:Int)) (j:Int):=Og hj (by omega)
    rw[if_pos hb,if_pos hq,eF (by omega),TT,hat,eF (by simp;omega),Int.toNat_natCast,Ro,eF (by rw[LZ v hk];omega)]
    unfold iI
    dsimp only
    rw[wr (by omega) (by omega)]
    rfl
   ·have hq:bq v j=false:=decide_eq_false hb
    rw[if_neg hb,hq,if_neg (by decide)]
    unfold iI
    dsimp only
    rw[wr (by omega) (by omega)]
    rfl) (fun ag'=>by
   unfold iJ m_
   dsimp only
   rw[hw,if_neg (by omega),wr (by omega) (by omega),<-Vh]
   rfl) F (by omega)
  exact e1) (fun ag=>by
  unfold fH mZ
  dsimp only
  rw[if_neg (by omega)]
  unfold TU Si
  simp) F (by omega)
 exact e0
theorem Pt (F:Nat) (l:d_) (v:Int) (hl:l.length<=40) (hF:1000<=F):nL F l v=some (Si v l):=by
 unfold nL
 have e0:=eN (step:=eW F l v) (K:=some (Si v l)) l.length (fun k=>((List.range k).map (Qh v l),(k:Int))) (fun k ag hk=>by
  unfold eW
  dsimp only
  rw[if_pos (by omega)]
  have e1:=eN (step:=iL l v ((List.range k).map (Qh v l),(k:Int)) ag) (K:=ag ((List.range (k+1)).map (Qh v l),((k+1:Nat):Int))) (min (at' l (k:Int)).length 32) (fun j=>(Po v (at' l (k:Int)) j,(j:Int))) (fun j ag' hj=>by
   have hrl:=Ik v (at' l (k:Int)) j
   unfold iL mK
   dsimp only
   rw[eF (by omega),if_pos (by omega),if_pos (by simp;omega),Gh (by omega) (by omega),eF (by omega),Ju]
   by_cases hb:oY .u32 (rC .u32 v (j:Int)) 1=1
   ·have hq:bq v j=true:=decide_eq_true hb
    rw[if_pos hb,if_pos hq,eF (by omega),eF (by omega),eF (by simp;omega)]
    unfold jY
    dsimp only
    rw[wr (by omega) (by omega)]
    rfl
   ·have hq:bq v j=false:=decide_eq_false hb
    rw[if_neg hb,hq,if_neg (by decide)]
    unfold jY
    dsimp only
    rw[wr (by omega) (by omega)]
    rfl) (fun ag'=>by
   unfold iL mK vR
   dsimp only
   have hfin:(List.range (k+1)).map (Qh v l)=(List.range k).map (Qh v l)++[Po v (at' l (k:Int)) (min (at' l (k:Int)).length 32)]:=by
    rw[List.range_succ,List.map_append];rfl
   rw[eF (by omega),hfin]
   by_cases hc:((min (at' l (k:Int)).length 32:Nat):Int)<((at' l (k:Int)).length:Int)
   ·rw[if_pos hc,if_neg (by simp;omega),eF (by simp;omega),wr (by omega) (by omega)]
    rfl
   ·rw[if_neg hc,if_neg (by decide),eF (by simp;omega),wr (by omega) (by omega)]
    rfl) F (by omega)
  exact e1) (fun ag=>by
  unfold eW qX
  dsimp only
  rw[if_neg (by omega)]
  rfl) F (by omega)
 exact e0
theorem Rp (v:Int) (l:d_):(Si v l).length=l.length:=by simp[Si]
theorem Rq (v:Int) (l:d_):∀r∈Si v l,r.length<=32:=fun r hr=>by
 obtain⟨k,_,rfl⟩:=List.mem_map.1 hr
 have:=Ik v (at' l (k:Int)) (min (at' l (k:Int)).length 32)
 unfold Qh
 omega
theorem VB (F:Nat) (p:PG) (hF:1000<=F):∃b,rM F p=some b∧(b=false->EF p):=by
 unfold rM pI
 by_cases h1:(20:Int)<(List.length p.2.1:Int)
 ·rw[if_pos h1];exact⟨true,rfl,by simp⟩
 rw[if_neg h1]
 by_cases h2:(20:Int)<(List.length p.2.2:Int)
 ·rw[if_pos h2];exact⟨true,rfl,by simp⟩
 rw[if_neg h2]
 by_cases h3:(100:Int)<((ByteArray.size p.1:Nat):Int)
 ·rw[if_pos (by simpa using h3)];exact⟨true,rfl,by simp⟩
 rw[if_neg (by simpa using h3)]
 have e0:=dQ (step:=gP F p) (K:=some false) (bad:=some true) p.2.2.length (fun k=>decide ((at' p.2.2 (k:Int)).2.1.length<=400)&&decide ((at' p.2.2 (k:Int)).2.2.length<=20)&&decide ((at' p.2.2 (k:Int)).1.size<=100)&&(List.range (at' p.2.2 (k:Int)).2.2.length).all fun j=>decide ((at' (at' p.2.2 (k:Int)).2.2 (j:Int)).2.length<=400)) (fun k=>(k:Int)) (fun k ag hk=>by
  unfold gP pJ
  rw[if_pos (by omega),eF (by omega)]
  by_cases g1:(400:Int)<(List.length ((at' p.2.2 (k:Int)).2.1):Int)
  ·rw[if_pos g1,if_pos rfl,if_neg (by simp;omega)]
  rw[if_neg g1,eF (by omega)]
  by_cases g2:(20:Int)<(List.length ((at' p.2.2 (k:Int)).2.2):Int)
  ·rw[if_pos g2,if_pos rfl,if_neg (by simp;omega)]
  rw[if_neg g2,eF (by omega)]
  by_cases g3:(100:Int)<((ByteArray.size ((at' p.2.2 (k:Int)).1):Nat):Int)
  ·rw[if_pos (by simpa using g3),if_neg (by simp;omega)]
  rw[if_neg (by simpa using g3)]
  have e1:=dQ (step:=lW p (k:Int) ag) (K:=ag ((k+1:Nat):Int)) (bad:=some true) (at' p.2.2 (k:Int)).2.2.length (fun j=>decide ((at' (at' p.2.2 (k:Int)).2.2 (j:Int)).2.length<=400)) (fun j=>(j:Int)) (fun j ag' hj=>by
   unfold lW
   rw[eF (by omega),if_pos (by omega),eF (by omega),eF (by omega),wr (by omega) (by omega)]
   by_cases g4:(400:Int)<(List.length ((at' ((at' p.2.2 (k:Int)).2.2) (j:Int)).2):Int)
   ·rw[if_pos g4,if_neg (by simp;omega)]
   ·rw[if_neg g4,if_pos (by simp;omega)]
    rfl) (fun ag'=>by
   unfold lW tX
   rw[eF (by omega),if_neg (by omega),wr (by omega) (by omega)]
   rfl) F (by omega)
  have e1:bH (lW p (k:Int) ag) F (0:Int)=_:=e1
  rw[e1,decide_eq_true (by omega),decide_eq_true (by omega),decide_eq_true (by omega)]
  rfl) (fun ag=>by unfold gP tW;rw[if_neg (by omega)]) F (by omega)
 have e0:bH (gP F p) F (0:Int)=_:=e0
 rw[e0]
 split
 ·rename_i h
  refine⟨false,rfl,fun _=>⟨by omega,by omega,fun q hq=> ?_⟩⟩
  obtain⟨k,hk⟩:=List.getElem?_of_mem hq
  have hlt:=aV hk
  have h:=List.all_eq_true.1 h k (List.mem_range.2 hlt)
  rw[vM hlt]at hk
  have hk:=Option.some.inj hk
  rw[hk]at h
  simp only[Bool.and_eq_true,decide_eq_true_eq]at h
  refine⟨h.1.1.1,h.1.1.2,fun s hs=> ?_⟩
  obtain⟨j,hj⟩:=List.getElem?_of_mem hs
  have hjl:=aV hj
  have h4:=List.all_eq_true.1 h.2 j (List.mem_range.2 hjl)
  rw[vM hjl]at hj
  rw[Option.some.inj hj]at h4
  exact of_decide_eq_true h4
 ·exact⟨true,rfl,by simp⟩
theorem Ce (p:PG) (v:Int) (l:d_) (h0:0<=v) (h1:v<4294967296):oL 1000 p v l=some true:=by
 obtain⟨m,rfl⟩:∃m:Nat,v=(m:Int):=⟨v.toNat,by omega⟩
 obtain⟨b,hb,hs⟩:=VB 1000 p (Nat.le_refl _)
 unfold oL
 rw[bF (show rM 1000 (p.1,p.2.1,p.2.2)=some b from hb)]
 have hK:gO 1000 p (m:Int) l true=some true:=rfl
 cases b
 ·have hp:=hs rfl
  rw[if_neg (by decide)]
  by_cases h40:(40:Int)<(List.length l:Int)
  ·rw[decide_eq_true h40];exact hK
  rw[decide_eq_false h40]
  unfold gO
  rw[if_neg (by decide),bF (Nt 1000 (p:=(p.1,p.2.1,p.2.2)) hp (Nat.le_refl _)),bF (Nq 1000 (p:=(p.1,p.2.1,p.2.2)) hp (Nat.le_refl _)),bF (show vX 1000=some true from rfl),if_pos rfl,
   bF (PM 1000 (p:=(p.1,p.2.1,p.2.2)) hp _ (Nat.le_refl _)),bF (Pq 1000 (p:=(p.1,p.2.1,p.2.2)) hp _ (Nat.le_refl _)),if_pos (by simp),if_pos rfl,
   bF (Uk 1000 (p:=((Il p (m:Int)).1.1,(Il p (m:Int)).1.2.1,(Il p (m:Int)).1.2.2)) (hp.res (m:Int)) (Nat.le_refl _)),if_pos rfl,
   bF (PO 1000 l _ (by omega) (Nat.le_refl _)),bF (Pt 1000 l _ (by omega) (Nat.le_refl _)),bF (Vz 1000 _ (by rw[Rp];omega) (Rq _ _) (Nat.le_refl _))]
  rfl
 ·rw[if_pos rfl];exact hK
end Go.Proofs.YthnplbmmlbnelaaGreat
end
section
namespace Go.Sx
open Go.RowKit Go.ChangeShapes Go.WideShapes Go.ChangeAt Go.Proofs Go.Joins Go.Deep
section
variable {H:Type} {enc:TypeId×Value->H} {P:Program} {w:World} {base:Nat} {spare:Nat->Bool} {held:Bool}
theorem Wb {t:TypeId} {fs:Array Field} {n:Nat} {cs:List Value} {x:DataW H×List MemPlace} (hs:P.underlying t=some (.struct fs)) (hone:oneCellFields P fs=true) (hC:P.cellsOf t=fs.size)
  (h:DataW.trod enc P w base spare held n t cs=some x):
  ∃(V:Nat->Value) (Y:Nat->DataW H×List MemPlace) (m:Nat),cs=(List.range fs.size).map V∧∀(i:Nat) (f:Field),fs[i]? = some f->DataW.trod enc P w base spare held m f.type [V i]=some (Y i):=by
 obtain⟨xs,m,_,_,hl,hlen,hg⟩:=DataW.trod_struct hs h
 refine⟨fun i=>cs.getD i undef,fun i=>xs.getD i (.nil,[]),m,?_,fun i f hi=> ?_⟩
 ·have h2:fs.size=cs.length:=by rw[<-hC,hl]
  rw[h2]
  exact BL cs undef
 ·have hlt:i<fs.size:=(Array.getElem?_eq_some_iff.1 hi).1
  obtain⟨o,k⟩:=hone_of hone i f hi
  have g:=hg i f hi
  have hl':i<cs.length:=by rw[hl,hC];exact hlt
  rw[o,k,take1_drop _ _ undef hl']at g
  rw[g]
  have hx:i<xs.length:=by omega
  simp[hx]
theorem YO {α β:Type} {r:iO α} {q:iO β} {S:Nat->Prop} {v:Value} {cs:List Value} {x:α} {y:β} (h1:r.R w S [v] x) (h2:q.R w S cs y):(iO.pair r q).R w S (v::cs) (x,y):=⟨[v],cs,rfl,h1,h2⟩
theorem Tz {e:TypeId} (he:P.underlying e=some .string) (n:Nat) (cs:List Value) (x:DataW H×List MemPlace) (h:DataW.trod enc P w base spare held n e cs=some x):∃y:ByteArray,cs=[.string y]:=by
 obtain⟨y,hy,_⟩:=DataW.trod_string he h
 exact⟨y,hy⟩
theorem Jl {e:TypeId} (he:P.underlying e=some .string) {n:Nat} {v:Value} {x:DataW H×List MemPlace} (h:DataW.trod enc P w base spare held n e [v]=some x):∃y:ByteArray,v = .string y:=by
 obtain⟨y,hy⟩:=Tz he n _ x h
 exact⟨y,by simpa using hy⟩
theorem YL {α:Type} (r:iO α) {t e:TypeId} (ht:P.underlying t=some (.slice e)) (hc:P.cellsOf e=r.sz)
  (hel:∀(n:Nat) (cs:List Value) (x:DataW H×List MemPlace),DataW.trod enc P w base spare held n e cs=some x->∃y:α,r.R w (fun _=>True) cs y)
  (n:Nat) (cs:List Value) (x:DataW H×List MemPlace) (h:DataW.trod enc P w base spare held n t cs=some x):∃y:List α,(HA r).R w (fun _=>True) cs y:=by
 obtain⟨⟨v,xs⟩,rfl,hxs⟩:=Sc r ht hc hel n cs x h
 exact⟨xs,v,rfl,hxs⟩
end
end Go.Sx
end
