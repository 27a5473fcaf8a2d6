/- Models and proofs. Conditions: none. -/
import Derived.Test.YtflciafboapaaaaGreatZRAr7
set_option linter.unusedVariables false
set_option linter.unusedSimpArgs false
set_option maxHeartbeats 4000000
set_option maxRecDepth 20000
open Go.Proofs.Tryz
section
set_option maxRecDepth 100000
namespace Go.Gx
open Go Go.Sx Go.Proofs Go.Proofs.YtflciafboapaaaaGreat
def mu4:V6 GV:=[.str Y_ 646]
def mg4:GV:=(.agg [(.str 128038971140471 6),(.sl 2633 0 2 6),(.sl 4835 0 2 3)])
def mo4:OL:=[(2633,2633,.cells [(.str 120 1),(.int .i64 (.ofNat 1)),(.int .i64 (.ofNat 0)),(.int .i64 (.ofNat 0)),(.int .i64 (.ofNat 16)),(.int .i64 (.ofNat 0)),(.str 112 1),(.int .i64 (.ofNat 3)),(.int .i64 (.ofNat 0)),(.int .i64 (.ofNat 0)),(.int .i64 (.ofNat 0)),(.int .i64 (.ofNat 0))]),
 (2757,2757,.cells (sX [41,0,10,0,42,0,36,0,5,0,1,0,36,0,5,1,4,0])),
 (2783,2783,.cells [(.int .i64 (.ofNat 1)),(.int .i64 (.ofNat 0))]),
 (2816,2816,.cells [(.int .i64 (.ofNat 4)),(.int .i64 (.ofNat 0))]),
 (2824,2824,.cells [(.int .i64 (.ofNat 0)),(.sl 2783 0 1 2),(.int .i64 (.ofNat 1)),(.sl 2816 0 1 2)]),
 (3862,3862,.cells (sX [41,0,19,0,10,0,42,0,36,0,5,0,43,0,37,0,24,0,43,0,39,0,33,0,12,0,1,1,30,0,16,0,6,0,33,0,12,0,1,1,30,0,16,0,6,0,30,0,1,16,6,0,24,0,43,0,39,0,33,0,12,0,1,1,30,0,16,0,6,0,33,0,12,0,1,1,30,0,16,0,6,0,30,0,1,16,6,0,36,0,5,1,23,0,35,0,43,0,39,0,33,0,12,0,1,1,30,0,16,0,6,0,33,0,12,0,1,1,30,0,16,0,6,0,24,0,43,0,39,0,33,0,12,0,1,1,30,0,16,0,6,0,33,0,12,0,1,1,30,0,16,0,6,0])),
 (4368,4368,.cells (sX [43,0,37,0,24,0,43,0,39,0,33,0,12,0,1,1,30,0,16,0,6,0,33,0,12,0,1,1,30,0,16,0,6,0,30,0,1,16,6,0,24,0,43,0,39,0,33,0,12,0,1,1,30,0,16,0,6,0,33,0,12,0,1,1,30,0,16,0,6,0,30,0,1,16,6,0])),
 (4819,4819,.cells (sX [23,0,35,0,43,0,39,0,33,0,12,0,1,1,30,0,16,0,6,0,33,0,12,0,1,1,30,0,16,0,6,0,24,0,43,0,39,0,33,0,12,0,1,1,30,0,16,0,6,0,33,0,12,0,1,1,30,0,16,0,6,0])),
 (4827,4827,.cells [(.int .i64 (.ofNat 0)),(.sl 4368 0 38 2),(.int .i64 (.ofNat 1)),(.sl 4819 0 31 2)]),
 (4835,4835,.cells [(.str 7368564 3),(.sl 2757 0 9 2),(.sl 2824 0 2 2),(.str 7827308 3),(.sl 3862 0 77 2),(.sl 4827 0 2 2)])]
set_option maxHeartbeats 4000000 in
theorem me4:LN Ct ajT 4000 9 mu4 [2633,2757,2783,2816,2824,3862,4368,4819,4827,4835]=some (mg4,8053,mo4):=by kernel_rfl
noncomputable def NI (f:Nat) (a:V6 GV) (H:GH):V1 (GV×GH):=bif Nat.beq f 9 then(bif VC a (Y_,646)then JC mg4 8053 mo4 H else NH f a H)else NH f a H
noncomputable def ajU:GP:=⟨tW,gp.cat,NI,gp.exn⟩
theorem KE {T:Nat} {k:fO (gl T)} {w:V2} {e:fE} {H i:GH} {g:GV} {d:V6 GV} {j:gE} {f:Nat} (h:NI f d H=some (g,i)) (R:g_ k e H w) (a:pX e d j):kW prog k e f j w g i:=by
 unfold NI at h;cases b:Nat.beq f 9 with
 |false=>rw[b]at h;exact KD h R a
 | true =>
  rw[b]at h;cases c:VC d (Y_,646)with
  |false=>rw[c]at h;exact KD h R a
  |true=>
   rw[c]at h;rw[zA5 b];rw[KJ c]at a;obtain⟨V,rfl,n⟩:=a.one;obtain⟨x,rfl,l,m⟩:=n.str_inv;exact HC (gs:=gl T) (gs2:=gl T) Z Z tD agr me4 call9 (pX.cons (El l m) .nil) h R
theorem ags {T:Nat} (a:fO (gl T)):Sp prog ajU Ct.fns a:=⟨(IN a).tab,(IN a).mixed,(IN a).fns,λh d w c R b=>KE h R b,(IN a).exn,(IN a).cat⟩
end Go.Gx
end
