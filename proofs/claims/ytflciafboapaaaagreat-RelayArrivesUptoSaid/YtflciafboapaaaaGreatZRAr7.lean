/- Models and proofs. Conditions: none. -/
import Derived.Test.YtflciafboapaaaaGreatZRAr6
set_option linter.unusedVariables false
set_option linter.unusedSimpArgs false
set_option maxHeartbeats 4000000
set_option maxRecDepth 20000
open Go.Proofs.Tryz
section
set_option maxRecDepth 100000
namespace Go.Gx
open Go Go.Sx Go.Proofs Go.Proofs.YtflciafboapaaaaGreat
abbrev ain:Nat:=0xa3b29297468676965772e71202b20642e71286e696d203d3d207468676965772e71202b20642e71287473726966203d3a2070202c296e202a203531203a20297468676965772e71202b20642e71286e696d203f206e202a203531203c20297468676965772e71202b20642e71286e696d28203d3a2064203e2d20200a2929297468676965772e71202b20642e71286e696d203d3d207468676965772e71202b20642e71287473726966203d212070207c7c20296e202a203531203a20297468676965772e71202b20642e71286e696d203f206e202a203531203c20297468676965772e71202b20642e71286e696d28203d2120642820262620746f6f7221203a776f6c20656c75720a3b656e6f6e203d3a2070202c30203d3a2064203e2d2029656e6f6e203d212070207c7c2030203d2120642820262620746f6f72203a706f7420656c75720a3b74726f70203a2070207261760a3b6e202a203531202e2e2030203a2064207261760a3b7368746170206d6172676f7270
def mu3:V6 GV:=[.str ain 377]
def mg3:GV:=(.agg [(.str 495673696624 5),(.sl 1509 0 2 6),(.sl 2665 0 2 3)])
def mo3:OL:=[(1509,1509,.cells [(.str 100 1),(.int .i64 (.ofNat 1)),(.int .i64 (.ofNat 0)),(.int .i64 (.ofNat 0)),(.int .i64 (.ofNat 15)),(.int .i64 (.ofNat 0)),(.str 112 1),(.int .i64 (.ofNat 3)),(.int .i64 (.ofNat 0)),(.int .i64 (.ofNat 0)),(.int .i64 (.ofNat 0)),(.int .i64 (.ofNat 0))]),
 (1633,1633,.cells (sX [41,0,10,0,42,0,36,0,5,0,1,0,36,0,5,1,4,0])),
 (1659,1659,.cells [(.int .i64 (.ofNat 1)),(.int .i64 (.ofNat 0))]),
 (1692,1692,.cells [(.int .i64 (.ofNat 4)),(.int .i64 (.ofNat 0))]),
 (1700,1700,.cells [(.int .i64 (.ofNat 0)),(.sl 1659 0 1 2),(.int .i64 (.ofNat 1)),(.sl 1692 0 1 2)]),
 (2215,2215,.cells (sX [41,0,19,0,10,0,42,0,36,0,5,0,43,0,37,0,24,0,33,0,12,0,16,0,30,0,1,15,6,0,24,0,33,0,12,0,16,0,30,0,1,15,6,0,36,0,5,1,23,0,35,0,33,0,12,0,16,0,24,0,33,0,12,0,16,0])),
 (2467,2467,.cells (sX [43,0,37,0,24,0,33,0,12,0,16,0,30,0,1,15,6,0,24,0,33,0,12,0,16,0,30,0,1,15,6,0])),
 (2649,2649,.cells (sX [23,0,35,0,33,0,12,0,16,0,24,0,33,0,12,0,16,0])),
 (2657,2657,.cells [(.int .i64 (.ofNat 0)),(.sl 2467 0 16 2),(.int .i64 (.ofNat 1)),(.sl 2649 0 9 2)]),
 (2665,2665,.cells [(.str 7368564 3),(.sl 1633 0 9 2),(.sl 1700 0 2 2),(.str 7827308 3),(.sl 2215 0 33 2),(.sl 2657 0 2 2)])]
set_option maxHeartbeats 4000000 in
theorem me3:LN Ct ajS 4000 9 mu3 [1509,1633,1659,1692,1700,2215,2467,2649,2657,2665]=some (mg3,4123,mo3):=by kernel_rfl
noncomputable def NH (f:Nat) (a:V6 GV) (H:GH):V1 (GV×GH):=bif Nat.beq f 9 then(bif VC a (ain,377)then JC mg3 4123 mo3 H else NG f a H)else NG f a H
noncomputable def ajT:GP:=⟨tW,gp.cat,NH,gp.exn⟩
theorem KD {T:Nat} {k:fO (gl T)} {w:V2} {e:fE} {H i:GH} {g:GV} {d:V6 GV} {j:gE} {f:Nat} (h:NH f d H=some (g,i)) (R:g_ k e H w) (a:pX e d j):kW prog k e f j w g i:=by
 unfold NH at h;cases b:Nat.beq f 9 with
 |false=>rw[b]at h;exact KC h R a
 | true =>
  rw[b]at h;cases c:VC d (ain,377)with
  |false=>rw[c]at h;exact KC h R a
  |true=>
   rw[c]at h;rw[zA5 b];rw[KJ c]at a;obtain⟨V,rfl,n⟩:=a.one;obtain⟨x,rfl,l,m⟩:=n.str_inv;exact HC (gs:=gl T) (gs2:=gl T) Z Z tD agq me3 call9 (pX.cons (El l m) .nil) h R
theorem agr {T:Nat} (a:fO (gl T)):Sp prog ajT Ct.fns a:=⟨(IN a).tab,(IN a).mixed,(IN a).fns,λh d w c R b=>KD h R b,(IN a).exn,(IN a).cat⟩
end Go.Gx
end
