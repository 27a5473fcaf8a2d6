/- Models of functions with their proofs, by program (gen/xt.py), and plain laws, in one text. Conditions: none. -/
import Derived.Test.YtdbcpliafeoghaaGreatZCVa3
import Derived.Test.YtdbcpliafeoghaaGreatZCVa1
import Derived.OpenShut
set_option linter.unusedVariables false
set_option linter.unusedSimpArgs false
set_option maxHeartbeats 4000000
set_option maxRecDepth 20000
section
set_option maxRecDepth 100000
namespace Go.Gx
open Go Go.Sx Go.Proofs Go.Proofs.YtdbcpliafeoghaaGreat
def mu0:List GV:=[.str 647805783445292858354124216707972104362217227416401506789551968550453547782289666464486871061303458493704209666026882594163169793806493880997404652969386840707963198018939744880 74]
def mg0:GV:=(.tup [(.agg [(.str 97 1),(.sl 335 0 1 6),(.sl 519 0 1 3)]),(.int .i64 (.ofNat 0)),(.int .i64 (.ofNat 0))])
def mo0:OL:=[(335,335,.cells [(.str 120 1),(.int .i64 (.ofNat 1)),(.int .i64 (.ofNat 0)),(.int .i64 (.ofNat 3)),(.int .i64 (.ofNat 0)),(.int .i64 (.ofNat 0))]),
 (458,458,.cells [(.int .i64 (.ofNat 41)),(.int .i64 (.ofNat 0)),(.int .i64 (.ofNat 37)),(.int .i64 (.ofNat 0)),(.int .i64 (.ofNat 5)),(.int .i64 (.ofNat 0)),(.int .i64 (.ofNat 1)),(.int .i64 (.ofNat 3)),(.int .i64 (.ofNat 20)),(.int .i64 (.ofNat 0)),(.int .i64 (.ofNat 40)),(.int .i64 (.ofNat 0)),(.int .i64 (.ofNat 12)),(.int .i64 (.ofNat 0)),(.int .i64 (.ofNat 5)),(.int .i64 (.ofNat 0))]),
 (504,504,.cells [(.int .i64 (.ofNat 33)),(.int .i64 (.ofNat 0)),(.int .i64 (.ofNat 5)),(.int .i64 (.ofNat 0)),(.int .i64 (.ofNat 1)),(.int .i64 (.ofNat 1))]),
 (511,511,.cells [(.int .i64 (.ofNat 0)),(.sl 504 0 3 2)]),
 (519,519,.cells [(.str 28789 2),(.sl 458 0 8 2),(.sl 511 0 1 2)])]
set_option maxHeartbeats 4000000 in
theorem me0:memoR rtab gp 4000 12 mu0 [335,458,504,511,519]=some (mg0,776,mo0):=by kernel_rfl
noncomputable def gextm1 (f:Nat) (us:List GV) (H:GH):Option (GV×GH):=bif Nat.beq f 12 then(bif isS us (647805783445292858354124216707972104362217227416401506789551968550453547782289666464486871061303458493704209666026882594163169793806493880997404652969386840707963198018939744880,74)then memoK mg0 776 mo0 H else gext f us H)else gext f us H
noncomputable def gpm1:GP:=⟨tyTab,gp.cat,gextm1,gp.exn⟩
theorem gextm1_ok {T:Gls} {w0:Base (gl T)} {w:World} {ρ:Rho} {H H':GH} {g:GV} {us:List GV} {vs:List Value} {f:Nat} (h:gextm1 f us H=some (g,H')) (R:Rel w0 ρ H w) (hr:RlL ρ us vs):CallSem Tryz.prog w0 ρ f vs w g H':=by
 unfold gextm1 at h
 cases e1:Nat.beq f 12 with
 |false=>rw[e1]at h;exact gext_ok h R hr
 | true =>
  rw[e1]at h
  cases e2:isS us (647805783445292858354124216707972104362217227416401506789551968550453547782289666464486871061303458493704209666026882594163169793806493880997404652969386840707963198018939744880,74)with
  |false=>rw[e2]at h;exact gext_ok h R hr
  |true=>
   rw[e2]at h;rw[Nat.eq_of_beq_eq_true e1]
   rw[isS_eq e2]at hr
   obtain⟨V,rfl,hv⟩:=hr.one
   obtain⟨x,rfl,e3,e4⟩:=hv.str_inv
   exact memo_ok (gs:=gl T) (gs2:=⟨T.obs,[]⟩) rfl rfl rtab_ok gok me0 Tryz.call12 (RlL.cons (rl_str e3 e4) .nil) h R
theorem gokm1 {T:Gls} (w0:Base (gl T)):GOk Tryz.prog gpm1 rtab.fns w0:=⟨(gok w0).tab,(gok w0).mixed,(gok w0).fns,fun h ρ w vs R hr=>gextm1_ok h R hr,(gok w0).exn,(gok w0).cat⟩
def mu1:List GV:=[.str 712272115893357900056717403868120724801684719701724299276182496252039131930115384465000697525308180077002657679626628487685401639418085514115521743463493484126159263630349479954543729930864 79]
def mg1:GV:=(.tup [(.agg [(.str 98 1),(.sl 380 0 2 6),(.sl 507 0 1 3)]),(.int .i64 (.ofNat 0)),(.int .i64 (.ofNat 0))])
def mo1:OL:=[(380,380,.cells [(.str 120 1),(.int .i64 (.ofNat 1)),(.int .i64 (.ofNat 0)),(.int .i64 (.ofNat 3)),(.int .i64 (.ofNat 0)),(.int .i64 (.ofNat 0)),(.str 121 1),(.int .i64 (.ofNat 1)),(.int .i64 (.ofNat 0)),(.int .i64 (.ofNat 2)),(.int .i64 (.ofNat 0)),(.int .i64 (.ofNat 0))]),
 (447,447,.cells [(.int .i64 (.ofNat 36)),(.int .i64 (.ofNat 0)),(.int .i64 (.ofNat 5)),(.int .i64 (.ofNat 1)),(.int .i64 (.ofNat 32)),(.int .i64 (.ofNat 0)),(.int .i64 (.ofNat 5)),(.int .i64 (.ofNat 0)),(.int .i64 (.ofNat 1)),(.int .i64 (.ofNat 3))]),
 (491,491,.cells [(.int .i64 (.ofNat 32)),(.int .i64 (.ofNat 0)),(.int .i64 (.ofNat 5)),(.int .i64 (.ofNat 0)),(.int .i64 (.ofNat 1)),(.int .i64 (.ofNat 3))]),
 (499,499,.cells [(.int .i64 (.ofNat 1)),(.sl 491 0 3 2)]),
 (507,507,.cells [(.str 6645107 3),(.sl 447 0 5 2),(.sl 499 0 1 2)])]
set_option maxHeartbeats 4000000 in
theorem me1:memoR rtab gpm1 4000 12 mu1 [380,447,491,499,507]=some (mg1,713,mo1):=by kernel_rfl
noncomputable def gextm2 (f:Nat) (us:List GV) (H:GH):Option (GV×GH):=bif Nat.beq f 12 then(bif isS us (712272115893357900056717403868120724801684719701724299276182496252039131930115384465000697525308180077002657679626628487685401639418085514115521743463493484126159263630349479954543729930864,79)then memoK mg1 713 mo1 H else gextm1 f us H)else gextm1 f us H
noncomputable def gpm2:GP:=⟨tyTab,gp.cat,gextm2,gp.exn⟩
theorem gextm2_ok {T:Gls} {w0:Base (gl T)} {w:World} {ρ:Rho} {H H':GH} {g:GV} {us:List GV} {vs:List Value} {f:Nat} (h:gextm2 f us H=some (g,H')) (R:Rel w0 ρ H w) (hr:RlL ρ us vs):CallSem Tryz.prog w0 ρ f vs w g H':=by
 unfold gextm2 at h
 cases e1:Nat.beq f 12 with
 |false=>rw[e1]at h;exact gextm1_ok h R hr
 | true =>
  rw[e1]at h
  cases e2:isS us (712272115893357900056717403868120724801684719701724299276182496252039131930115384465000697525308180077002657679626628487685401639418085514115521743463493484126159263630349479954543729930864,79)with
  |false=>rw[e2]at h;exact gextm1_ok h R hr
  |true=>
   rw[e2]at h;rw[Nat.eq_of_beq_eq_true e1]
   rw[isS_eq e2]at hr
   obtain⟨V,rfl,hv⟩:=hr.one
   obtain⟨x,rfl,e3,e4⟩:=hv.str_inv
   exact memo_ok (gs:=gl T) (gs2:=⟨T.obs,[]⟩) rfl rfl rtab_ok gokm1 me1 Tryz.call12 (RlL.cons (rl_str e3 e4) .nil) h R
theorem gokm2 {T:Gls} (w0:Base (gl T)):GOk Tryz.prog gpm2 rtab.fns w0:=⟨(gok w0).tab,(gok w0).mixed,(gok w0).fns,fun h ρ w vs R hr=>gextm2_ok h R hr,(gok w0).exn,(gok w0).cat⟩
def mu2:List GV:=[.str 25527409811890773712901309956580134777752467770370391054623098631591392843260948247781125873274301557467071387084239634849157823793842690769212604789760395870595881835571473047569099022029565063169543169668621643125716206830487188517071500897794410801955286158417300124333313633222834131006064 122]
def mg2:GV:=(.tup [(.agg [(.str 99 1),(.sl 467 0 2 6),(.sl 723 0 2 3)]),(.int .i64 (.ofNat 0)),(.int .i64 (.ofNat 0))])
def mo2:OL:=[(467,467,.cells [(.str 112 1),(.int .i64 (.ofNat 3)),(.int .i64 (.ofNat 0)),(.int .i64 (.ofNat 0)),(.int .i64 (.ofNat 0)),(.int .i64 (.ofNat 0)),(.str 122 1),(.int .i64 (.ofNat 2)),(.int .i64 (.ofNat 0)),(.int .i64 (.ofNat 0)),(.int .i64 (.ofNat 0)),(.int .i64 (.ofNat 0))]),
 (552,552,.cells [(.int .i64 (.ofNat 36)),(.int .i64 (.ofNat 0)),(.int .i64 (.ofNat 5)),(.int .i64 (.ofNat 0)),(.int .i64 (.ofNat 23)),(.int .i64 (.ofNat 0)),(.int .i64 (.ofNat 12)),(.int .i64 (.ofNat 1))]),
 (614,614,.cells [(.int .i64 (.ofNat 23)),(.int .i64 (.ofNat 0)),(.int .i64 (.ofNat 12)),(.int .i64 (.ofNat 1))]),
 (622,622,.cells [(.int .i64 (.ofNat 0)),(.sl 614 0 2 2)]),
 (680,680,.cells [(.int .i64 (.ofNat 36)),(.int .i64 (.ofNat 0)),(.int .i64 (.ofNat 5)),(.int .i64 (.ofNat 1)),(.int .i64 (.ofNat 10)),(.int .i64 (.ofNat 0))]),
 (707,707,.cells [(.int .i64 (.ofNat 10)),(.int .i64 (.ofNat 0))]),
 (715,715,.cells [(.int .i64 (.ofNat 1)),(.sl 707 0 1 2)]),
 (723,723,.cells [(.str 7170401 3),(.sl 552 0 4 2),(.sl 622 0 1 2),(.str 110386807469428 6),(.sl 680 0 3 2),(.sl 715 0 1 2)])]
set_option maxHeartbeats 4000000 in
theorem me2:memoR rtab gpm2 4000 12 mu2 [467,552,614,622,680,707,715,723]=some (mg2,986,mo2):=by kernel_rfl
noncomputable def gextm3 (f:Nat) (us:List GV) (H:GH):Option (GV×GH):=bif Nat.beq f 12 then(bif isS us (25527409811890773712901309956580134777752467770370391054623098631591392843260948247781125873274301557467071387084239634849157823793842690769212604789760395870595881835571473047569099022029565063169543169668621643125716206830487188517071500897794410801955286158417300124333313633222834131006064,122)then memoK mg2 986 mo2 H else gextm2 f us H)else gextm2 f us H
noncomputable def gpm3:GP:=⟨tyTab,gp.cat,gextm3,gp.exn⟩
theorem gextm3_ok {T:Gls} {w0:Base (gl T)} {w:World} {ρ:Rho} {H H':GH} {g:GV} {us:List GV} {vs:List Value} {f:Nat} (h:gextm3 f us H=some (g,H')) (R:Rel w0 ρ H w) (hr:RlL ρ us vs):CallSem Tryz.prog w0 ρ f vs w g H':=by
 unfold gextm3 at h
 cases e1:Nat.beq f 12 with
 |false=>rw[e1]at h;exact gextm2_ok h R hr
 | true =>
  rw[e1]at h
  cases e2:isS us (25527409811890773712901309956580134777752467770370391054623098631591392843260948247781125873274301557467071387084239634849157823793842690769212604789760395870595881835571473047569099022029565063169543169668621643125716206830487188517071500897794410801955286158417300124333313633222834131006064,122)with
  |false=>rw[e2]at h;exact gextm2_ok h R hr
  |true=>
   rw[e2]at h;rw[Nat.eq_of_beq_eq_true e1]
   rw[isS_eq e2]at hr
   obtain⟨V,rfl,hv⟩:=hr.one
   obtain⟨x,rfl,e3,e4⟩:=hv.str_inv
   exact memo_ok (gs:=gl T) (gs2:=⟨T.obs,[]⟩) rfl rfl rtab_ok gokm2 me2 Tryz.call12 (RlL.cons (rl_str e3 e4) .nil) h R
theorem gokm3 {T:Gls} (w0:Base (gl T)):GOk Tryz.prog gpm3 rtab.fns w0:=⟨(gok w0).tab,(gok w0).mixed,(gok w0).fns,fun h ρ w vs R hr=>gextm3_ok h R hr,(gok w0).exn,(gok w0).cat⟩
def mu3:List GV:=[.str 2093391912065131929342057284122509454556102196112985493859293902563874786137302649663025377300155875155924594752922687171275701081762132275685021938288 63]
def mg3:GV:=(.tup [(.agg [(.str 100 1),(.sl 264 0 1 6),(.sl 401 0 1 3)]),(.int .i64 (.ofNat 0)),(.int .i64 (.ofNat 0))])
def mo3:OL:=[(264,264,.cells [(.str 119 1),(.int .i64 (.ofNat 2)),(.int .i64 (.ofNat 0)),(.int .i64 (.ofNat 0)),(.int .i64 (.ofNat 0)),(.int .i64 (.ofNat 0))]),
 (346,346,.cells [(.int .i64 (.ofNat 21)),(.int .i64 (.ofNat 0)),(.int .i64 (.ofNat 35)),(.int .i64 (.ofNat 0)),(.int .i64 (.ofNat 12)),(.int .i64 (.ofNat 0)),(.int .i64 (.ofNat 5)),(.int .i64 (.ofNat 0))]),
 (385,385,.cells [(.int .i64 (.ofNat 19)),(.int .i64 (.ofNat 0)),(.int .i64 (.ofNat 5)),(.int .i64 (.ofNat 0))]),
 (393,393,.cells [(.int .i64 (.ofNat 0)),(.sl 385 0 2 2)]),
 (401,401,.cells [(.str 1885957222 4),(.sl 346 0 4 2),(.sl 393 0 1 2)])]
set_option maxHeartbeats 4000000 in
theorem me3:memoR rtab gpm3 4000 12 mu3 [264,346,385,393,401]=some (mg3,558,mo3):=by kernel_rfl
noncomputable def gextm4 (f:Nat) (us:List GV) (H:GH):Option (GV×GH):=bif Nat.beq f 12 then(bif isS us (2093391912065131929342057284122509454556102196112985493859293902563874786137302649663025377300155875155924594752922687171275701081762132275685021938288,63)then memoK mg3 558 mo3 H else gextm3 f us H)else gextm3 f us H
noncomputable def gpm4:GP:=⟨tyTab,gp.cat,gextm4,gp.exn⟩
theorem gextm4_ok {T:Gls} {w0:Base (gl T)} {w:World} {ρ:Rho} {H H':GH} {g:GV} {us:List GV} {vs:List Value} {f:Nat} (h:gextm4 f us H=some (g,H')) (R:Rel w0 ρ H w) (hr:RlL ρ us vs):CallSem Tryz.prog w0 ρ f vs w g H':=by
 unfold gextm4 at h
 cases e1:Nat.beq f 12 with
 |false=>rw[e1]at h;exact gextm3_ok h R hr
 | true =>
  rw[e1]at h
  cases e2:isS us (2093391912065131929342057284122509454556102196112985493859293902563874786137302649663025377300155875155924594752922687171275701081762132275685021938288,63)with
  |false=>rw[e2]at h;exact gextm3_ok h R hr
  |true=>
   rw[e2]at h;rw[Nat.eq_of_beq_eq_true e1]
   rw[isS_eq e2]at hr
   obtain⟨V,rfl,hv⟩:=hr.one
   obtain⟨x,rfl,e3,e4⟩:=hv.str_inv
   exact memo_ok (gs:=gl T) (gs2:=⟨T.obs,[]⟩) rfl rfl rtab_ok gokm3 me3 Tryz.call12 (RlL.cons (rl_str e3 e4) .nil) h R
theorem gokm4 {T:Gls} (w0:Base (gl T)):GOk Tryz.prog gpm4 rtab.fns w0:=⟨(gok w0).tab,(gok w0).mixed,(gok w0).fns,fun h ρ w vs R hr=>gextm4_ok h R hr,(gok w0).exn,(gok w0).cat⟩
def mu4:List GV:=[.str 647805783445292858354124216707972104362217227416401506789551968550453547782289666464486871061303458493704209666026882594163169793806493880997404652969386840707963198018939744880 74]
def mg4:GV:=(.agg [(.str 97 1),(.sl 336 0 1 6),(.sl 520 0 1 3)])
def mo4:OL:=[(336,336,.cells [(.str 120 1),(.int .i64 (.ofNat 1)),(.int .i64 (.ofNat 0)),(.int .i64 (.ofNat 3)),(.int .i64 (.ofNat 0)),(.int .i64 (.ofNat 0))]),
 (459,459,.cells [(.int .i64 (.ofNat 41)),(.int .i64 (.ofNat 0)),(.int .i64 (.ofNat 37)),(.int .i64 (.ofNat 0)),(.int .i64 (.ofNat 5)),(.int .i64 (.ofNat 0)),(.int .i64 (.ofNat 1)),(.int .i64 (.ofNat 3)),(.int .i64 (.ofNat 20)),(.int .i64 (.ofNat 0)),(.int .i64 (.ofNat 40)),(.int .i64 (.ofNat 0)),(.int .i64 (.ofNat 12)),(.int .i64 (.ofNat 0)),(.int .i64 (.ofNat 5)),(.int .i64 (.ofNat 0))]),
 (505,505,.cells [(.int .i64 (.ofNat 33)),(.int .i64 (.ofNat 0)),(.int .i64 (.ofNat 5)),(.int .i64 (.ofNat 0)),(.int .i64 (.ofNat 1)),(.int .i64 (.ofNat 1))]),
 (512,512,.cells [(.int .i64 (.ofNat 0)),(.sl 505 0 3 2)]),
 (520,520,.cells [(.str 28789 2),(.sl 459 0 8 2),(.sl 512 0 1 2)])]
set_option maxHeartbeats 4000000 in
theorem me4:memoR rtab gpm4 4000 4 mu4 [336,459,505,512,520]=some (mg4,780,mo4):=by kernel_rfl
noncomputable def gextm5 (f:Nat) (us:List GV) (H:GH):Option (GV×GH):=bif Nat.beq f 4 then(bif isS us (647805783445292858354124216707972104362217227416401506789551968550453547782289666464486871061303458493704209666026882594163169793806493880997404652969386840707963198018939744880,74)then memoK mg4 780 mo4 H else gextm4 f us H)else gextm4 f us H
noncomputable def gpm5:GP:=⟨tyTab,gp.cat,gextm5,gp.exn⟩
theorem gextm5_ok {T:Gls} {w0:Base (gl T)} {w:World} {ρ:Rho} {H H':GH} {g:GV} {us:List GV} {vs:List Value} {f:Nat} (h:gextm5 f us H=some (g,H')) (R:Rel w0 ρ H w) (hr:RlL ρ us vs):CallSem Tryz.prog w0 ρ f vs w g H':=by
 unfold gextm5 at h
 cases e1:Nat.beq f 4 with
 |false=>rw[e1]at h;exact gextm4_ok h R hr
 | true =>
  rw[e1]at h
  cases e2:isS us (647805783445292858354124216707972104362217227416401506789551968550453547782289666464486871061303458493704209666026882594163169793806493880997404652969386840707963198018939744880,74)with
  |false=>rw[e2]at h;exact gextm4_ok h R hr
  |true=>
   rw[e2]at h;rw[Nat.eq_of_beq_eq_true e1]
   rw[isS_eq e2]at hr
   obtain⟨V,rfl,hv⟩:=hr.one
   obtain⟨x,rfl,e3,e4⟩:=hv.str_inv
   exact memo_ok (gs:=gl T) (gs2:=⟨T.obs,[]⟩) rfl rfl rtab_ok gokm4 me4 Tryz.call4 (RlL.cons (rl_str e3 e4) .nil) h R
theorem gokm5 {T:Gls} (w0:Base (gl T)):GOk Tryz.prog gpm5 rtab.fns w0:=⟨(gok w0).tab,(gok w0).mixed,(gok w0).fns,fun h ρ w vs R hr=>gextm5_ok h R hr,(gok w0).exn,(gok w0).cat⟩
def mu5:List GV:=[.str 712272115893357900056717403868120724801684719701724299276182496252039131930115384465000697525308180077002657679626628487685401639418085514115521743463493484126159263630349479954543729930864 79]
def mg5:GV:=(.agg [(.str 98 1),(.sl 381 0 2 6),(.sl 508 0 1 3)])
def mo5:OL:=[(381,381,.cells [(.str 120 1),(.int .i64 (.ofNat 1)),(.int .i64 (.ofNat 0)),(.int .i64 (.ofNat 3)),(.int .i64 (.ofNat 0)),(.int .i64 (.ofNat 0)),(.str 121 1),(.int .i64 (.ofNat 1)),(.int .i64 (.ofNat 0)),(.int .i64 (.ofNat 2)),(.int .i64 (.ofNat 0)),(.int .i64 (.ofNat 0))]),
 (448,448,.cells [(.int .i64 (.ofNat 36)),(.int .i64 (.ofNat 0)),(.int .i64 (.ofNat 5)),(.int .i64 (.ofNat 1)),(.int .i64 (.ofNat 32)),(.int .i64 (.ofNat 0)),(.int .i64 (.ofNat 5)),(.int .i64 (.ofNat 0)),(.int .i64 (.ofNat 1)),(.int .i64 (.ofNat 3))]),
 (492,492,.cells [(.int .i64 (.ofNat 32)),(.int .i64 (.ofNat 0)),(.int .i64 (.ofNat 5)),(.int .i64 (.ofNat 0)),(.int .i64 (.ofNat 1)),(.int .i64 (.ofNat 3))]),
 (500,500,.cells [(.int .i64 (.ofNat 1)),(.sl 492 0 3 2)]),
 (508,508,.cells [(.str 6645107 3),(.sl 448 0 5 2),(.sl 500 0 1 2)])]
set_option maxHeartbeats 4000000 in
theorem me5:memoR rtab gpm5 4000 4 mu5 [381,448,492,500,508]=some (mg5,717,mo5):=by kernel_rfl
noncomputable def gextm6 (f:Nat) (us:List GV) (H:GH):Option (GV×GH):=bif Nat.beq f 4 then(bif isS us (712272115893357900056717403868120724801684719701724299276182496252039131930115384465000697525308180077002657679626628487685401639418085514115521743463493484126159263630349479954543729930864,79)then memoK mg5 717 mo5 H else gextm5 f us H)else gextm5 f us H
noncomputable def gpm6:GP:=⟨tyTab,gp.cat,gextm6,gp.exn⟩
theorem gextm6_ok {T:Gls} {w0:Base (gl T)} {w:World} {ρ:Rho} {H H':GH} {g:GV} {us:List GV} {vs:List Value} {f:Nat} (h:gextm6 f us H=some (g,H')) (R:Rel w0 ρ H w) (hr:RlL ρ us vs):CallSem Tryz.prog w0 ρ f vs w g H':=by
 unfold gextm6 at h
 cases e1:Nat.beq f 4 with
 |false=>rw[e1]at h;exact gextm5_ok h R hr
 | true =>
  rw[e1]at h
  cases e2:isS us (712272115893357900056717403868120724801684719701724299276182496252039131930115384465000697525308180077002657679626628487685401639418085514115521743463493484126159263630349479954543729930864,79)with
  |false=>rw[e2]at h;exact gextm5_ok h R hr
  |true=>
   rw[e2]at h;rw[Nat.eq_of_beq_eq_true e1]
   rw[isS_eq e2]at hr
   obtain⟨V,rfl,hv⟩:=hr.one
   obtain⟨x,rfl,e3,e4⟩:=hv.str_inv
   exact memo_ok (gs:=gl T) (gs2:=⟨T.obs,[]⟩) rfl rfl rtab_ok gokm5 me5 Tryz.call4 (RlL.cons (rl_str e3 e4) .nil) h R
theorem gokm6 {T:Gls} (w0:Base (gl T)):GOk Tryz.prog gpm6 rtab.fns w0:=⟨(gok w0).tab,(gok w0).mixed,(gok w0).fns,fun h ρ w vs R hr=>gextm6_ok h R hr,(gok w0).exn,(gok w0).cat⟩
def mu6:List GV:=[.str 25527409811890773712901309956580134777752467770370391054623098631591392843260948247781125873274301557467071387084239634849157823793842690769212604789760395870595881835571473047569099022029565063169543169668621643125716206830487188517071500897794410801955286158417300124333313633222834131006064 122]
def mg6:GV:=(.agg [(.str 99 1),(.sl 468 0 2 6),(.sl 724 0 2 3)])
def mo6:OL:=[(468,468,.cells [(.str 112 1),(.int .i64 (.ofNat 3)),(.int .i64 (.ofNat 0)),(.int .i64 (.ofNat 0)),(.int .i64 (.ofNat 0)),(.int .i64 (.ofNat 0)),(.str 122 1),(.int .i64 (.ofNat 2)),(.int .i64 (.ofNat 0)),(.int .i64 (.ofNat 0)),(.int .i64 (.ofNat 0)),(.int .i64 (.ofNat 0))]),
 (553,553,.cells [(.int .i64 (.ofNat 36)),(.int .i64 (.ofNat 0)),(.int .i64 (.ofNat 5)),(.int .i64 (.ofNat 0)),(.int .i64 (.ofNat 23)),(.int .i64 (.ofNat 0)),(.int .i64 (.ofNat 12)),(.int .i64 (.ofNat 1))]),
 (615,615,.cells [(.int .i64 (.ofNat 23)),(.int .i64 (.ofNat 0)),(.int .i64 (.ofNat 12)),(.int .i64 (.ofNat 1))]),
 (623,623,.cells [(.int .i64 (.ofNat 0)),(.sl 615 0 2 2)]),
 (681,681,.cells [(.int .i64 (.ofNat 36)),(.int .i64 (.ofNat 0)),(.int .i64 (.ofNat 5)),(.int .i64 (.ofNat 1)),(.int .i64 (.ofNat 10)),(.int .i64 (.ofNat 0))]),
 (708,708,.cells [(.int .i64 (.ofNat 10)),(.int .i64 (.ofNat 0))]),
 (716,716,.cells [(.int .i64 (.ofNat 1)),(.sl 708 0 1 2)]),
 (724,724,.cells [(.str 7170401 3),(.sl 553 0 4 2),(.sl 623 0 1 2),(.str 110386807469428 6),(.sl 681 0 3 2),(.sl 716 0 1 2)])]
set_option maxHeartbeats 4000000 in
theorem me6:memoR rtab gpm6 4000 4 mu6 [468,553,615,623,681,708,716,724]=some (mg6,990,mo6):=by kernel_rfl
noncomputable def gextm7 (f:Nat) (us:List GV) (H:GH):Option (GV×GH):=bif Nat.beq f 4 then(bif isS us (25527409811890773712901309956580134777752467770370391054623098631591392843260948247781125873274301557467071387084239634849157823793842690769212604789760395870595881835571473047569099022029565063169543169668621643125716206830487188517071500897794410801955286158417300124333313633222834131006064,122)then memoK mg6 990 mo6 H else gextm6 f us H)else gextm6 f us H
noncomputable def gpm7:GP:=⟨tyTab,gp.cat,gextm7,gp.exn⟩
theorem gextm7_ok {T:Gls} {w0:Base (gl T)} {w:World} {ρ:Rho} {H H':GH} {g:GV} {us:List GV} {vs:List Value} {f:Nat} (h:gextm7 f us H=some (g,H')) (R:Rel w0 ρ H w) (hr:RlL ρ us vs):CallSem Tryz.prog w0 ρ f vs w g H':=by
 unfold gextm7 at h
 cases e1:Nat.beq f 4 with
 |false=>rw[e1]at h;exact gextm6_ok h R hr
 | true =>
  rw[e1]at h
  cases e2:isS us (25527409811890773712901309956580134777752467770370391054623098631591392843260948247781125873274301557467071387084239634849157823793842690769212604789760395870595881835571473047569099022029565063169543169668621643125716206830487188517071500897794410801955286158417300124333313633222834131006064,122)with
  |false=>rw[e2]at h;exact gextm6_ok h R hr
  |true=>
   rw[e2]at h;rw[Nat.eq_of_beq_eq_true e1]
   rw[isS_eq e2]at hr
   obtain⟨V,rfl,hv⟩:=hr.one
   obtain⟨x,rfl,e3,e4⟩:=hv.str_inv
   exact memo_ok (gs:=gl T) (gs2:=⟨T.obs,[]⟩) rfl rfl rtab_ok gokm6 me6 Tryz.call4 (RlL.cons (rl_str e3 e4) .nil) h R
theorem gokm7 {T:Gls} (w0:Base (gl T)):GOk Tryz.prog gpm7 rtab.fns w0:=⟨(gok w0).tab,(gok w0).mixed,(gok w0).fns,fun h ρ w vs R hr=>gextm7_ok h R hr,(gok w0).exn,(gok w0).cat⟩
def mu7:List GV:=[.str 2093391912065131929342057284122509454556102196112985493859293902563874786137302649663025377300155875155924594752922687171275701081762132275685021938288 63]
def mg7:GV:=(.agg [(.str 100 1),(.sl 265 0 1 6),(.sl 402 0 1 3)])
def mo7:OL:=[(265,265,.cells [(.str 119 1),(.int .i64 (.ofNat 2)),(.int .i64 (.ofNat 0)),(.int .i64 (.ofNat 0)),(.int .i64 (.ofNat 0)),(.int .i64 (.ofNat 0))]),
 (347,347,.cells [(.int .i64 (.ofNat 21)),(.int .i64 (.ofNat 0)),(.int .i64 (.ofNat 35)),(.int .i64 (.ofNat 0)),(.int .i64 (.ofNat 12)),(.int .i64 (.ofNat 0)),(.int .i64 (.ofNat 5)),(.int .i64 (.ofNat 0))]),
 (386,386,.cells [(.int .i64 (.ofNat 19)),(.int .i64 (.ofNat 0)),(.int .i64 (.ofNat 5)),(.int .i64 (.ofNat 0))]),
 (394,394,.cells [(.int .i64 (.ofNat 0)),(.sl 386 0 2 2)]),
 (402,402,.cells [(.str 1885957222 4),(.sl 347 0 4 2),(.sl 394 0 1 2)])]
set_option maxHeartbeats 4000000 in
theorem me7:memoR rtab gpm7 4000 4 mu7 [265,347,386,394,402]=some (mg7,562,mo7):=by kernel_rfl
noncomputable def gextm8 (f:Nat) (us:List GV) (H:GH):Option (GV×GH):=bif Nat.beq f 4 then(bif isS us (2093391912065131929342057284122509454556102196112985493859293902563874786137302649663025377300155875155924594752922687171275701081762132275685021938288,63)then memoK mg7 562 mo7 H else gextm7 f us H)else gextm7 f us H
noncomputable def gpm8:GP:=⟨tyTab,gp.cat,gextm8,gp.exn⟩
theorem gextm8_ok {T:Gls} {w0:Base (gl T)} {w:World} {ρ:Rho} {H H':GH} {g:GV} {us:List GV} {vs:List Value} {f:Nat} (h:gextm8 f us H=some (g,H')) (R:Rel w0 ρ H w) (hr:RlL ρ us vs):CallSem Tryz.prog w0 ρ f vs w g H':=by
 unfold gextm8 at h
 cases e1:Nat.beq f 4 with
 |false=>rw[e1]at h;exact gextm7_ok h R hr
 | true =>
  rw[e1]at h
  cases e2:isS us (2093391912065131929342057284122509454556102196112985493859293902563874786137302649663025377300155875155924594752922687171275701081762132275685021938288,63)with
  |false=>rw[e2]at h;exact gextm7_ok h R hr
  |true=>
   rw[e2]at h;rw[Nat.eq_of_beq_eq_true e1]
   rw[isS_eq e2]at hr
   obtain⟨V,rfl,hv⟩:=hr.one
   obtain⟨x,rfl,e3,e4⟩:=hv.str_inv
   exact memo_ok (gs:=gl T) (gs2:=⟨T.obs,[]⟩) rfl rfl rtab_ok gokm7 me7 Tryz.call4 (RlL.cons (rl_str e3 e4) .nil) h R
theorem gokm8 {T:Gls} (w0:Base (gl T)):GOk Tryz.prog gpm8 rtab.fns w0:=⟨(gok w0).tab,(gok w0).mixed,(gok w0).fns,fun h ρ w vs R hr=>gextm8_ok h R hr,(gok w0).exn,(gok w0).cat⟩
noncomputable abbrev gp2:GP:=gpm8
theorem gok2 {T:Gls} (w0:Base (gl T)):GOk Tryz.prog gp2 rtab.fns w0:=gokm8 w0
end Go.Gx
end
section
namespace Go.Proofs.YtdbcpliafeoghaaGreat
open Go.Sx
def world_Within_k1  (a4:Int):Option (Int):=
 some (a4)
def m_world_Within (fuel:Nat) (p0:Int) (p1:Int):Option (Int):=
 if p1<(1:Int)then(some (0:Int))else(ck (p1≠0) (if(Int.tmod p0 p1)<(0:Int)then(world_Within_k1  (wI .i64 ((Int.tmod p0 p1)+p1)))else(world_Within_k1  (Int.tmod p0 p1))))
theorem body14:HasBody Tryz.prog 14:=Tryz.call14
theorem t_world_Within (fuel:Nat) {p0:Int} {p1:Int} (r:Int) (h:m_world_Within fuel p0 p1=some r):
  Meets Tryz.prog 14 #[Value.int .i64 (p0),Value.int .i64 (p1)] [] (fun x:Unit=>Value.int .i64 (r)) (fun x l=>l) (fun _ l=>l):=by
 refine Meets.of (vs:=[Value.int .i64 (p0),Value.int .i64 (p1)]) Tryz.func14 rfl Tryz.ntmps14 rfl fun c=> ?_
 unfold m_world_Within at h
 refine J.seq<|J.region<|J.quiet (Y.assign rfl) rfl<|J.done<|J.thenN<|J.seq<|J.seq<|J.region<|J.quiet (Y.move rfl) rfl<|J.quiet (Y.lss rfl rfl) rfl<|J.done<|J.thenN ?_
 refine J.condD (by exact rfl) (fun hp1=> ?_) (fun hp1=> ?_)
 ·have h:=ifP hp1 h
  refine J.seq<|J.region<|J.quiet (Y.assign rfl) rfl<|J.done<|J.thenN<|J.ret<|J.thenR ?_
  obtain rfl:=Option.some.inj h
  exact J.retG1 (()) rfl rfl (RV.tmp rfl) (SubM.refl _) LentAll.nil
 ·have h:=ifN hp1 h
  refine J.skip<|J.thenN<|J.seq<|J.region<|J.quiet (Y.move rfl) rfl<|J.quiet (Y.move rfl) rfl ?_
  have h:=ck_some h;obtain⟨hc2,h⟩:=h
  refine J.quiet (Y.rem rfl rfl hc2) rfl<|J.quiet (Y.assign rfl) rfl<|J.done<|J.thenN<|J.seq<|J.midI (A:=Int) (B:=Unit) (fun a4=>world_Within_k1  a4=some r) (fun a4 b5=>[(0,Value.int .i64 (a4))]) (fun a4 b5=>[]) (fun a4 b5=>[]) ?_ ?_
  ·refine J.seq<|J.region<|J.quiet (Y.move rfl) rfl<|J.quiet (Y.lss rfl rfl) rfl<|J.done<|J.thenN ?_
   refine J.condD (by exact rfl) (fun hp6=> ?_) (fun hp6=> ?_)
   ·have h:=ifP hp6 h
    refine J.region<|J.quiet (Y.move rfl) rfl<|J.quiet (Y.move rfl) rfl<|J.quiet (Y.addW rfl rfl) rfl<|J.quiet (Y.assign rfl) rfl<|J.done<|J.thenN ?_
    exact J.meetI (wI .i64 ((Int.tmod p0 p1)+p1)) (()) h SF (SubM.refl _) (LentAll.refl _ _)
   ·have h:=ifN hp6 h
    refine J.skip<|J.thenN ?_
    exact J.meetI (Int.tmod p0 p1) (()) h SF (SubM.refl _) (LentAll.refl _ _)
  ·clear h
   intro a4 b5 h
   unfold world_Within_k1 at h
   refine J.seq<|J.region<|J.quiet (Y.move rfl) rfl<|J.quiet (Y.assign rfl) rfl<|J.done<|J.thenN<|J.ret ?_
   obtain rfl:=Option.some.inj h
   exact J.retG1 (()) rfl rfl (RV.tmp rfl) (SubM.refl _) LentAll.nil
end Go.Proofs.YtdbcpliafeoghaaGreat
end
section
namespace Go.Proofs.YtdbcpliafeoghaaGreat
open Go.Sx
def m_law33_texts (fuel:Nat) (p0:Int):Option (ByteArray):=
 Option.bind (m_world_Within fuel p0 (4:Int)) fun r1=>(if r1=(0:Int)then(some (ByteArray.mk #[112,114,111,103,114,97,109,32,97,59,10,118,97,114,32,120,32,58,32,48,32,46,46,32,51,59,10,114,117,108,101,32,117,112,58,32,120,32,60,32,51,32,38,38,32,97,108,108,40,113,46,120,32,62,61,32,120,41,32,45,62,32,120,32,58,61,32,120,32,43,32,49,59,10]))else(if r1=(1:Int)then(some (ByteArray.mk #[112,114,111,103,114,97,109,32,98,59,10,118,97,114,32,120,32,58,32,48,32,46,46,32,51,59,10,118,97,114,32,121,32,58,32,48,32,46,46,32,50,59,10,114,117,108,101,32,115,101,101,58,32,121,32,33,61,32,120,32,37,32,51,32,45,62,32,121,32,58,61,32,120,32,37,32,51,59,10]))else(if r1=(2:Int)then(some (ByteArray.mk #[112,114,111,103,114,97,109,32,99,59,10,118,97,114,32,112,32,58,32,112,111,114,116,59,10,118,97,114,32,122,32,58,32,98,111,111,108,59,10,114,117,108,101,32,97,105,109,58,32,112,32,33,61,32,102,105,114,115,116,40,113,46,122,41,32,45,62,32,112,32,58,61,32,102,105,114,115,116,40,113,46,122,41,59,10,114,117,108,101,32,116,117,114,110,101,100,58,32,122,32,33,61,32,114,111,111,116,32,45,62,32,122,32,58,61,32,114,111,111,116,59,10]))else(some (ByteArray.mk #[112,114,111,103,114,97,109,32,100,59,10,118,97,114,32,119,32,58,32,98,111,111,108,59,10,114,117,108,101,32,102,108,105,112,58,32,115,111,109,101,40,113,46,119,32,61,61,32,119,41,32,45,62,32,119,32,58,61,32,33,119,59,10])))))
theorem body5:HasBody Tryz.prog 5:=Tryz.call5
theorem t_law33_texts (fuel:Nat) {p0:Int} (r:ByteArray) (h:m_law33_texts fuel p0=some r):
  Meets Tryz.prog 5 #[Value.int .i64 (p0)] [] (fun x:Unit=>Value.string (r)) (fun x l=>l) (fun _ l=>l):=by
 refine Meets.of (vs:=[Value.int .i64 (p0)]) Tryz.func5 rfl Tryz.ntmps5 rfl fun c=> ?_
 unfold m_law33_texts at h
 refine J.seq<|J.region<|J.quiet (Y.assign rfl) rfl<|J.done<|J.thenN<|J.seq<|J.seq<|J.region<|J.quiet (Y.move rfl) rfl ?_
 have h:=bnd h;obtain⟨r1,hr2,h⟩:=h
 refine J.loud (Loud.callL body14 (t_world_Within fuel  r1 hr2) rfl .nil (fun _ _=>rfl)) rfl fun x3=>J.done<|J.thenN<|J.block<|J.seq<|J.region<|J.quiet (Y.eql rfl rfl) rfl<|J.quiet (Y.assign rfl) rfl<|J.done<|J.thenN ?_
 refine J.condD (by exact rfl) (fun hp4=> ?_) (fun hp4=> ?_)
 ·have h:=ifP hp4 h
  refine J.seq<|J.region<|J.quiet (Y.assign rfl) rfl<|J.done<|J.thenN<|J.ret<|J.inR<|J.thenR ?_
  obtain rfl:=Option.some.inj h
  exact J.retG1 (()) rfl rfl (RV.tmp rfl) (SubM.refl _) LentAll.nil
 ·have h:=ifN hp4 h
  refine J.seq<|J.region<|J.quiet (Y.eql rfl rfl) rfl<|J.quiet (Y.assign rfl) rfl<|J.done<|J.thenN ?_
  refine J.condD (by exact rfl) (fun hp5=> ?_) (fun hp5=> ?_)
  ·have h:=ifP hp5 h
   refine J.seq<|J.region<|J.quiet (Y.assign rfl) rfl<|J.done<|J.thenN<|J.ret<|J.inR<|J.thenR ?_
   obtain rfl:=Option.some.inj h
   exact J.retG1 (()) rfl rfl (RV.tmp rfl) (SubM.refl _) LentAll.nil
  ·have h:=ifN hp5 h
   refine J.seq<|J.region<|J.quiet (Y.eql rfl rfl) rfl<|J.quiet (Y.assign rfl) rfl<|J.done<|J.thenN ?_
   refine J.condD (by exact rfl) (fun hp6=> ?_) (fun hp6=> ?_)
   ·have h:=ifP hp6 h
    refine J.seq<|J.region<|J.quiet (Y.assign rfl) rfl<|J.done<|J.thenN<|J.ret<|J.inR<|J.thenR ?_
    obtain rfl:=Option.some.inj h
    exact J.retG1 (()) rfl rfl (RV.tmp rfl) (SubM.refl _) LentAll.nil
   ·have h:=ifN hp6 h
    refine J.skip<|J.inN<|J.thenN<|J.seq<|J.region<|J.quiet (Y.assign rfl) rfl<|J.done<|J.thenN<|J.ret ?_
    obtain rfl:=Option.some.inj h
    exact J.retG1 (()) rfl rfl (RV.tmp rfl) (SubM.refl _) LentAll.nil
end Go.Proofs.YtdbcpliafeoghaaGreat
end
section
namespace Go.Proofs.YtdbcpliafeoghaaGreat
open Go Go.Sx Go.Gx
set_option maxRecDepth 100000
def m_law33_known (fuel:Nat):Option (Bool):=some (true)
theorem body13:HasBody Tryz.prog 13:=Tryz.call13
theorem closed13:okT (callR rtab gp2 4000 13 [] H0)=true:=by kernel_rfl
theorem t_law33_known (fuel:Nat) (r:Bool) (h:m_law33_known fuel=some r):
  Meets Tryz.prog 13 #[] [] (fun x:Unit=>Value.bool (r)) (fun x l=>l) (fun _ l=>l):=by
 obtain rfl:=Option.some.inj h
 obtain⟨H',h1⟩:=okT_spec closed13
 rw[callR_eq rtab_ok]at h1
 exact meets_closed glsNil body13 (fun ρ V' h=>h.bool_inv) fun T b=>callF_ok (gs:=noG) gok2 h1 (Rel.start b rfl) .nil
end Go.Proofs.YtdbcpliafeoghaaGreat
end
section
set_option maxRecDepth 100000
namespace Go.Proofs.YtdbcpliafeoghaaGreat
open Go Go.Sx Go.Gx
def otx0:GV:= .str 647805783445292858354124216707972104362217227416401506789551968550453547782289666464486871061303458493704209666026882594163169793806493880997404652969386840707963198018939744880 74
def obs0:ByteArray:=ByteArray.mk #[112,114,111,103,114,97,109,32,97,59,10,118,97,114,32,120,32,58,32,48,32,46,46,32,51,59,10,114,117,108,101,32,117,112,58,32,120,32,60,32,51,32,38,38,32,97,108,108,40,113,46,120,32,62,61,32,120,41,32,45,62,32,120,32,58,61,32,120,32,43,32,49,59,10]
theorem otx0_ok (ρ:Rho):Rl ρ otx0 (.string obs0):=rl_str (by kernel_rfl) (by kernel_rfl)
theorem otm0 {i:Int} (h:m_world_Within 1000 i 4=some 0):m_law33_texts 1000 i=some obs0:=by
 unfold m_law33_texts
 rw[h]
 rfl
def otx1:GV:= .str 712272115893357900056717403868120724801684719701724299276182496252039131930115384465000697525308180077002657679626628487685401639418085514115521743463493484126159263630349479954543729930864 79
def obs1:ByteArray:=ByteArray.mk #[112,114,111,103,114,97,109,32,98,59,10,118,97,114,32,120,32,58,32,48,32,46,46,32,51,59,10,118,97,114,32,121,32,58,32,48,32,46,46,32,50,59,10,114,117,108,101,32,115,101,101,58,32,121,32,33,61,32,120,32,37,32,51,32,45,62,32,121,32,58,61,32,120,32,37,32,51,59,10]
theorem otx1_ok (ρ:Rho):Rl ρ otx1 (.string obs1):=rl_str (by kernel_rfl) (by kernel_rfl)
theorem otm1 {i:Int} (h:m_world_Within 1000 i 4=some 1):m_law33_texts 1000 i=some obs1:=by
 unfold m_law33_texts
 rw[h]
 rfl
def otx2:GV:= .str 25527409811890773712901309956580134777752467770370391054623098631591392843260948247781125873274301557467071387084239634849157823793842690769212604789760395870595881835571473047569099022029565063169543169668621643125716206830487188517071500897794410801955286158417300124333313633222834131006064 122
def obs2:ByteArray:=ByteArray.mk #[112,114,111,103,114,97,109,32,99,59,10,118,97,114,32,112,32,58,32,112,111,114,116,59,10,118,97,114,32,122,32,58,32,98,111,111,108,59,10,114,117,108,101,32,97,105,109,58,32,112,32,33,61,32,102,105,114,115,116,40,113,46,122,41,32,45,62,32,112,32,58,61,32,102,105,114,115,116,40,113,46,122,41,59,10,114,117,108,101,32,116,117,114,110,101,100,58,32,122,32,33,61,32,114,111,111,116,32,45,62,32,122,32,58,61,32,114,111,111,116,59,10]
theorem otx2_ok (ρ:Rho):Rl ρ otx2 (.string obs2):=rl_str (by kernel_rfl) (by kernel_rfl)
theorem otm2 {i:Int} (h:m_world_Within 1000 i 4=some 2):m_law33_texts 1000 i=some obs2:=by
 unfold m_law33_texts
 rw[h]
 rfl
def otx3:GV:= .str 2093391912065131929342057284122509454556102196112985493859293902563874786137302649663025377300155875155924594752922687171275701081762132275685021938288 63
def obs3:ByteArray:=ByteArray.mk #[112,114,111,103,114,97,109,32,100,59,10,118,97,114,32,119,32,58,32,98,111,111,108,59,10,114,117,108,101,32,102,108,105,112,58,32,115,111,109,101,40,113,46,119,32,61,61,32,119,41,32,45,62,32,119,32,58,61,32,33,119,59,10]
theorem otx3_ok (ρ:Rho):Rl ρ otx3 (.string obs3):=rl_str (by kernel_rfl) (by kernel_rfl)
theorem otm3 {i:Int} (h:m_world_Within 1000 i 4=some 3):m_law33_texts 1000 i=some obs3:=by
 unfold m_law33_texts
 rw[h]
 rfl
def opn1:List GV->Option Nat
 | [.opn h]=>some h
 |_=>none
theorem opn1_eq {us:List GV} {h:Nat} (e:opn1 us=some h):us=[.opn h]:=by
 unfold opn1 at e
 split at e
 ·cases e;rfl
 ·cases e
def emp:List GV->Bool
 | []=>true
 |_=>false
theorem emp_eq {us:List GV} (e:emp us=true):us=[]:=by cases us<;>first|rfl|cases e
noncomputable def gextO (x y:GV) (f:Nat) (us:List GV) (H:GH):Option (GV×GH):=bif Nat.beq f 5 then Option.casesOn (motive:=fun _=>Option (GV×GH)) (opn1 us) (gextm8 f us H) (fun h=>bif Nat.beq h 0 then some (x,H)else bif Nat.beq h 1 then some (y,H)else none)else bif Nat.beq f 13 then(bif emp us then some (.bool true,H)else none)else gextm8 f us H
noncomputable def gpO (x y:GV):GP:=⟨tyTab,gp.cat,gextO x y,gp.exn⟩
abbrev glO (i j:Int):Gls:=⟨[],[.int .i64 i,.int .i64 j]⟩
theorem gextO_ok {i j:Int} {x y:GV} {sx sy:ByteArray} (hx:m_law33_texts 1000 i=some sx) (hy:m_law33_texts 1000 j=some sy) (rx:∀ρ,Rl ρ x (.string sx)) (ry:∀ρ,Rl ρ y (.string sy)) {w0:Base (gl (glO i j))} {w:World} {ρ:Rho} {H H':GH} {g:GV} {us:List GV} {vs:List Value} {f:Nat}
  (h:gextO x y f us H=some (g,H')) (R:Rel w0 ρ H w) (hr:RlL ρ us vs):CallSem Tryz.prog w0 ρ f vs w g H':=by
 unfold gextO at h
 cases e1:Nat.beq f 5 with
 | true =>
  rw[e1]at h
  cases e2:opn1 us with
  |none=>rw[e2]at h;exact gextm8_ok h R hr
  | some k =>
   rw[e2]at h
   have h:(bif Nat.beq k 0 then some (x,H)else bif Nat.beq k 1 then some (y,H)else none)=some (g,H'):=h
   rw[opn1_eq e2]at hr
   rw[Nat.eq_of_beq_eq_true e1]
   obtain⟨V,rfl,hv⟩:=hr.one
   obtain⟨l,hl,hlx⟩:=hv.opn_inv
   cases e3:Nat.beq k 0 with
   |true=>
    rw[e3]at h;cases h
    obtain⟨l',a,b⟩:=R.env 0 (.int .i64 i) rfl
    rw[Nat.eq_of_beq_eq_true e3,a]at hl;cases hl
    rw[b]at hlx;cases hlx
    exact hook_plain body5 (t_law33_texts 1000 (p0:=i) sx hx) R (fun f hf=>absurd hf List.not_mem_nil) rx
   |false=>
    rw[e3]at h
    obtain⟨e4,h⟩:=bif_some.1 (show(bif Nat.beq k 1 then some (y,H)else none)=some (g,H')from h)
    cases h
    obtain⟨l',a,b⟩:=R.env 1 (.int .i64 j) rfl
    rw[Nat.eq_of_beq_eq_true e4,a]at hl;cases hl
    rw[b]at hlx;cases hlx
    exact hook_plain body5 (t_law33_texts 1000 (p0:=j) sy hy) R (fun f hf=>absurd hf List.not_mem_nil) ry
 | false =>
  rw[e1]at h
  cases e2:Nat.beq f 13 with
  |false=>rw[e2]at h;exact gextm8_ok h R hr
  |true=>
   rw[e2]at h
   obtain⟨e3,h⟩:=bif_some.1 (show(bif emp us then some (GV.bool true,H)else none)=some (g,H')from h)
   cases h
   rw[Nat.eq_of_beq_eq_true e2]
   rw[emp_eq e3]at hr
   obtain rfl:=hr.of_nil
   exact hook_plain body13 (t_law33_known 1000 true rfl) R (fun f hf=>absurd hf List.not_mem_nil) fun ρ=> .bool _
theorem gokO {i j:Int} {x y:GV} {sx sy:ByteArray} (hx:m_law33_texts 1000 i=some sx) (hy:m_law33_texts 1000 j=some sy) (rx:∀ρ,Rl ρ x (.string sx)) (ry:∀ρ,Rl ρ y (.string sy)) (w0:Base (gl (glO i j))):GOk Tryz.prog (gpO x y) rtab.fns w0:=
 ⟨(gok w0).tab,(gok w0).mixed,(gok w0).fns,fun h ρ w vs R hr=>gextO_ok hx hy rx ry h R hr,(gok w0).exn,(gok w0).cat⟩
theorem meets_open {P:Program} {g:GV} {H':GH} {vs:List Value} {f:Nat} {V:Value} (hb:HasBody P f) (hv:∀ρ V',Rl ρ g V'->V'=V) (h:∀(b:Base ⟨[],vs⟩),CallSem P b (rhoV vs) f vs b.w g H'):Meets P f vs.toArray [] (fun _:Unit=>V) (fun _ l=>l) (fun _ l=>l):=by
 intro w0 S0 hw
 have hG:GlsOk ⟨[],vs⟩ w0 fun _=>False:=fun _ h=>absurd h List.not_mem_nil
 rcases h (.of w0 hG)with⟨v,w',ρ',hr,_⟩|⟨_,hc⟩
 ·have hq:=hb vs.toArray w0
  rw[show(Base.of w0 hG).w=w0 from rfl,hq]at hr;cases hr
 ·refine hc.mono ?_
  rintro e w' ⟨v,ρ',rfl,_,R,hr⟩
  exact⟨(),by rw[hv _ _ hr],R.ext,fun _ _=>False,⟨fun i m hm=>by simp at hm,fun i k h=>h.elim,fun i j k h=>h.elim⟩,fun f hf=>by simp at hf⟩
theorem body3:HasBody Tryz.prog 3:=Tryz.call3
end Go.Proofs.YtdbcpliafeoghaaGreat
end
section
set_option maxRecDepth 100000
namespace Go.Proofs.YtdbcpliafeoghaaGreat
open Go Go.Sx Go.Gx
set_option maxHeartbeats 4000000 in
theorem case0_0:okT (callR rtab (gpO otx0 otx0) 4000 3 [.opn 0,.opn 1] (heapV 2))=true:=by kernel_rfl
set_option maxHeartbeats 4000000 in
theorem case0_1:okT (callR rtab (gpO otx0 otx1) 4000 3 [.opn 0,.opn 1] (heapV 2))=true:=by kernel_rfl
set_option maxHeartbeats 4000000 in
theorem case0_2:okT (callR rtab (gpO otx0 otx2) 4000 3 [.opn 0,.opn 1] (heapV 2))=true:=by kernel_rfl
set_option maxHeartbeats 4000000 in
theorem case0_3:okT (callR rtab (gpO otx0 otx3) 4000 3 [.opn 0,.opn 1] (heapV 2))=true:=by kernel_rfl
end Go.Proofs.YtdbcpliafeoghaaGreat
end
section
set_option maxRecDepth 100000
namespace Go.Proofs.YtdbcpliafeoghaaGreat
open Go Go.Sx Go.Gx
set_option maxHeartbeats 4000000 in
theorem case1_0:okT (callR rtab (gpO otx1 otx0) 4000 3 [.opn 0,.opn 1] (heapV 2))=true:=by kernel_rfl
set_option maxHeartbeats 4000000 in
theorem case1_1:okT (callR rtab (gpO otx1 otx1) 4000 3 [.opn 0,.opn 1] (heapV 2))=true:=by kernel_rfl
set_option maxHeartbeats 4000000 in
theorem case1_2:okT (callR rtab (gpO otx1 otx2) 4000 3 [.opn 0,.opn 1] (heapV 2))=true:=by kernel_rfl
set_option maxHeartbeats 4000000 in
theorem case1_3:okT (callR rtab (gpO otx1 otx3) 4000 3 [.opn 0,.opn 1] (heapV 2))=true:=by kernel_rfl
end Go.Proofs.YtdbcpliafeoghaaGreat
end
section
set_option maxRecDepth 100000
namespace Go.Proofs.YtdbcpliafeoghaaGreat
open Go Go.Sx Go.Gx
set_option maxHeartbeats 4000000 in
theorem case2_0:okT (callR rtab (gpO otx2 otx0) 4000 3 [.opn 0,.opn 1] (heapV 2))=true:=by kernel_rfl
set_option maxHeartbeats 4000000 in
theorem case2_1:okT (callR rtab (gpO otx2 otx1) 4000 3 [.opn 0,.opn 1] (heapV 2))=true:=by kernel_rfl
set_option maxHeartbeats 4000000 in
theorem case2_2:okT (callR rtab (gpO otx2 otx2) 4000 3 [.opn 0,.opn 1] (heapV 2))=true:=by kernel_rfl
set_option maxHeartbeats 4000000 in
theorem case2_3:okT (callR rtab (gpO otx2 otx3) 4000 3 [.opn 0,.opn 1] (heapV 2))=true:=by kernel_rfl
end Go.Proofs.YtdbcpliafeoghaaGreat
end
section
set_option maxRecDepth 100000
namespace Go.Proofs.YtdbcpliafeoghaaGreat
open Go Go.Sx Go.Gx
set_option maxHeartbeats 4000000 in
theorem case3_0:okT (callR rtab (gpO otx3 otx0) 4000 3 [.opn 0,.opn 1] (heapV 2))=true:=by kernel_rfl
set_option maxHeartbeats 4000000 in
theorem case3_1:okT (callR rtab (gpO otx3 otx1) 4000 3 [.opn 0,.opn 1] (heapV 2))=true:=by kernel_rfl
set_option maxHeartbeats 4000000 in
theorem case3_2:okT (callR rtab (gpO otx3 otx2) 4000 3 [.opn 0,.opn 1] (heapV 2))=true:=by kernel_rfl
set_option maxHeartbeats 4000000 in
theorem case3_3:okT (callR rtab (gpO otx3 otx3) 4000 3 [.opn 0,.opn 1] (heapV 2))=true:=by kernel_rfl
end Go.Proofs.YtdbcpliafeoghaaGreat
end
section
set_option maxRecDepth 100000
namespace Go.Proofs.YtdbcpliafeoghaaGreat
open Go Go.Sx Go.Gx
def m_law33_ComposeValid (fuel:Nat) (p0 p1:Int):Option (Bool):=some (true)
theorem within4 (v:Int):m_world_Within 1000 v 4=some 0∨m_world_Within 1000 v 4=some 1∨m_world_Within 1000 v 4=some 2∨m_world_Within 1000 v 4=some 3:=by
 unfold m_world_Within world_Within_k1
 rw[if_neg (by omega),ckT (by omega)]
 have hm:=Int.tmod_eq_emod (a:=v) (b:=4)
 by_cases h:Int.tmod v 4<0
 ·have e:wI .i64 (Int.tmod v 4+4)=Int.tmod v 4+4:=wr (by split at hm<;>omega) (by omega)
  rw[if_pos h,e]
  have k1:0<=Int.tmod v 4+4:=by split at hm<;>omega
  have k2:Int.tmod v 4+4<4:=by omega
  generalize Int.tmod v 4+4=q at k1 k2
  have k:q=0∨q=1∨q=2∨q=3:=by omega
  rcases k with rfl|rfl|rfl|rfl<;>simp
 ·rw[if_neg h]
  have k1:0<=Int.tmod v 4:=by omega
  have k2:Int.tmod v 4<4:=by split at hm<;>omega
  generalize Int.tmod v 4=q at k1 k2
  have k:q=0∨q=1∨q=2∨q=3:=by omega
  rcases k with rfl|rfl|rfl|rfl<;>simp
theorem open_case {i j:Int} {x y:GV} {sx sy:ByteArray} (hx:m_law33_texts 1000 i=some sx) (hy:m_law33_texts 1000 j=some sy) (rx:∀ρ,Rl ρ x (.string sx)) (ry:∀ρ,Rl ρ y (.string sy)) (hc:okT (callR rtab (gpO x y) 4000 3 [.opn 0,.opn 1] (heapV 2))=true):
  Meets Tryz.prog 3 #[.int .i64 i,.int .i64 j] [] (fun _:Unit=>Value.bool true) (fun _ l=>l) (fun _ l=>l):=by
 obtain⟨H',h1⟩:=okT_spec hc
 rw[callR_eq rtab_ok]at h1
 exact meets_open (vs:=[.int .i64 i,.int .i64 j]) body3 (fun ρ V' h=>h.bool_inv) fun b=>callF_ok (gs:=glO i j) (gokO hx hy rx ry) h1 (Rel.startV b) (RlL.cons (rl_opn (gs:=glO i j) rfl) (RlL.cons (rl_opn (gs:=glO i j) rfl) .nil))
theorem t_law33_ComposeValid (fuel:Nat) {p0 p1:Int} (r:Bool) (h:m_law33_ComposeValid fuel p0 p1=some r):
  Meets Tryz.prog 3 #[Value.int .i64 (p0),Value.int .i64 (p1)] [] (fun x:Unit=>Value.bool (r)) (fun x l=>l) (fun _ l=>l):=by
 obtain rfl:=Option.some.inj h
 rcases within4 p0 with hi|hi|hi|hi<;>rcases within4 p1 with hj|hj|hj|hj
 ·exact open_case (otm0 hi) (otm0 hj) otx0_ok otx0_ok case0_0
 ·exact open_case (otm0 hi) (otm1 hj) otx0_ok otx1_ok case0_1
 ·exact open_case (otm0 hi) (otm2 hj) otx0_ok otx2_ok case0_2
 ·exact open_case (otm0 hi) (otm3 hj) otx0_ok otx3_ok case0_3
 ·exact open_case (otm1 hi) (otm0 hj) otx1_ok otx0_ok case1_0
 ·exact open_case (otm1 hi) (otm1 hj) otx1_ok otx1_ok case1_1
 ·exact open_case (otm1 hi) (otm2 hj) otx1_ok otx2_ok case1_2
 ·exact open_case (otm1 hi) (otm3 hj) otx1_ok otx3_ok case1_3
 ·exact open_case (otm2 hi) (otm0 hj) otx2_ok otx0_ok case2_0
 ·exact open_case (otm2 hi) (otm1 hj) otx2_ok otx1_ok case2_1
 ·exact open_case (otm2 hi) (otm2 hj) otx2_ok otx2_ok case2_2
 ·exact open_case (otm2 hi) (otm3 hj) otx2_ok otx3_ok case2_3
 ·exact open_case (otm3 hi) (otm0 hj) otx3_ok otx0_ok case3_0
 ·exact open_case (otm3 hi) (otm1 hj) otx3_ok otx1_ok case3_1
 ·exact open_case (otm3 hi) (otm2 hj) otx3_ok otx2_ok case3_2
 ·exact open_case (otm3 hi) (otm3 hj) otx3_ok otx3_ok case3_3
end Go.Proofs.YtdbcpliafeoghaaGreat
end
section
namespace Go.Proofs.YtdbcpliafeoghaaGreat
open Go Go.Sx
theorem composeValid_pure (p0 p1:Int):m_law33_ComposeValid 1000 p0 p1=some true:=rfl
end Go.Proofs.YtdbcpliafeoghaaGreat
end
