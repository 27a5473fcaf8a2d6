/- Models and proofs. Conditions: none. -/
import Derived.Test.YtcnnfkapmjhnaaaGreatDoorZTTr5
set_option linter.unusedVariables false
set_option linter.unusedSimpArgs false
set_option maxHeartbeats 4000000
set_option maxRecDepth 20000
section
set_option maxRecDepth 100000
namespace Go.Gx
open Go Go.Sx Go.Proofs Go.Proofs.YtcnnfkapmjhnaaaGreatDoor
abbrev afF:Nat:=3222175211652974106048073731038071863543907586192246358457587902648796479605096221856893043268603494806257050836547785518937630277882697504538271436108348460148934900085894655220976184448539217500813917468108204697280143962891325045441063345058170505747897181070834602880390694345613586660425046274996618461764283045216205786000572063324762922376957402988722627786839349095165529215534209845914684961789581653592488056588793383685189901301128531839266419674936833419044761411913452517205622837356392461552419139068448072598953628791666980712953679469411702628580736734266436509078359656694354888201840272335149216909410543541478450421819783651438906242679847770925134543377442908626351228468555653178215315066083453068731212132312070346951898373644650510674941336248410522914356908278677336036833719827938857954920099830164850980222156261235651383915879622401302299940660169641954619056055210868324143428208
def mu2:List GV:=[.str afF 377]
def mg2:GV:=(.agg [(.str 495673696624 5),(.sl 1509 0 2 6),(.sl 2665 0 2 3)])
def ZB:OL:=[(1509,1509,.cells [(.str 100 1),(.int .i64 (.ofNat 1)),(.int .i64 (.ofNat 0)),(.int .i64 (.ofNat 0)),(.int .i64 (.ofNat 15)),(.int .i64 (.ofNat 0)),(.str 112 1),(.int .i64 (.ofNat 3)),(.int .i64 (.ofNat 0)),(.int .i64 (.ofNat 0)),(.int .i64 (.ofNat 0)),(.int .i64 (.ofNat 0))]),
 (1633,1633,.cells (Ax [41,0,10,0,42,0,36,0,5,0,1,0,36,0,5,1,4,0])),
 (1659,1659,.cells [(.int .i64 (.ofNat 1)),(.int .i64 (.ofNat 0))]),
 (1692,1692,.cells [(.int .i64 (.ofNat 4)),(.int .i64 (.ofNat 0))]),
 (1700,1700,.cells [(.int .i64 (.ofNat 0)),(.sl 1659 0 1 2),(.int .i64 (.ofNat 1)),(.sl 1692 0 1 2)]),
 (2215,2215,.cells (Ax [41,0,19,0,10,0,42,0,36,0,5,0,43,0,37,0,24,0,33,0,12,0,16,0,30,0,1,15,6,0,24,0,33,0,12,0,16,0,30,0,1,15,6,0,36,0,5,1,23,0,35,0,33,0,12,0,16,0,24,0,33,0,12,0,16,0])),
 (2467,2467,.cells (Ax [43,0,37,0,24,0,33,0,12,0,16,0,30,0,1,15,6,0,24,0,33,0,12,0,16,0,30,0,1,15,6,0])),
 (2649,2649,.cells (Ax [23,0,35,0,33,0,12,0,16,0,24,0,33,0,12,0,16,0])),
 (2657,2657,.cells [(.int .i64 (.ofNat 0)),(.sl 2467 0 16 2),(.int .i64 (.ofNat 1)),(.sl 2649 0 9 2)]),
 (2665,2665,.cells [(.str 7368564 3),(.sl 1633 0 9 2),(.sl 1700 0 2 2),(.str 7827308 3),(.sl 2215 0 33 2),(.sl 2657 0 2 2)])]
set_option maxHeartbeats 4000000 in
theorem me2:Oe Eo ahg 4000 7 mu2 [1509,1633,1659,1692,1700,2215,2467,2649,2657,2665]=some (mg2,4123,ZB):=by kernel_rfl
noncomputable def Mk (f:Nat) (a:List GV) (H:GH):Option (GV×GH):=bif Nat.beq f 7 then(bif Zj a (afF,377)then Mt mg2 4123 ZB H else Mj f a H)else Mj f a H
noncomputable def ahh:GP:=⟨wC,gp.cat,Mk,gp.exn⟩
theorem Jq {T:Nat} {k:fC (gl T)} {w:World} {e:eP} {H i:GH} {g:GV} {d:List GV} {j:jB} {f:Nat} (h:Mk f d H=some (g,i)) (R:gF k e H w) (a:qL e d j):kN Tryz.prog k e f j w g i:=by
 unfold Mk at h;cases b:Nat.beq f 7 with
 |false=>rw[b]at h;exact Jp h R a
 | true =>
  rw[b]at h;cases c:Zj d (afF,377)with
  |false=>rw[c]at h;exact Jp h R a
  |true=>
   rw[c]at h;rw[zA2 b];rw[Px c]at a;obtain⟨V,rfl,n⟩:=a.one;obtain⟨x,rfl,l,m⟩:=n.str_inv;exact Ld (gs:=gl T) (gs2:=gl T) Z Z Ad adY me2 Tryz.call7 (qL.cons (HC l m) .nil) h R
theorem adZ {T:Nat} (a:fC (gl T)):Tb Tryz.prog ahh Eo.fns a:=⟨(Nl a).tab,(Nl a).mixed,(Nl a).fns,λh d w c R b=>Jq h R b,(Nl a).exn,(Nl a).cat⟩
end Go.Gx
end
