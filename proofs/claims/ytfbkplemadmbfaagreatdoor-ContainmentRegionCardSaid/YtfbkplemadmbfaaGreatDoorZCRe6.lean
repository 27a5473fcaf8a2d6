/- Models of functions with their proofs, by program (gen/xt.py), and plain laws, in one text. Conditions: none. -/
import Derived.Test.YtfbkplemadmbfaaGreatDoorZCRe4
import Derived.RecoverIn
import Derived.DefersIn
import Derived.Lib.Bytealg
import Derived.Test.YtfbkplemadmbfaaGreatDoorZCRe2
import Derived.Test.YtfbkplemadmbfaaGreatDoorZCRe5
import Derived.Test.YtfbkplemadmbfaaGreatDoorZCRe3
import Derived.Test.YtfbkplemadmbfaaGreatDoorZCRe1
import Derived.OpenShut
import Derived.LaidLaws
import Derived.LaidHandle
import Derived.Lay
import Derived.MakeChecks
set_option linter.unusedVariables false
set_option linter.unusedSimpArgs false
set_option maxHeartbeats 4000000
set_option maxRecDepth 20000
section
namespace Go.Gx
open Go Go.Sx
section
variable {P:Program} {gs:Gls} {w0:Base gs} {tb:TB}
theorem callOk_none:CallOk P w0 (fun _ _ _=>none):=fun f us H g H' h=>by cases h
theorem loopOk_none:LoopOk P w0 tb (fun _ _ _ _=>none):=fun b cx vs H out h=>by cases h
theorem evF_ok' {ch:CH} {lp:LH} (hT:TabOk P tb) (hm:P.follows .mixedOrders=true) (hcall:∀w0:Base gs,CallOk P w0 ch) (hloop:LoopOk P w0 tb lp) {f:Nat} {fn:Func} {us:List GV} {H:GH} {out:Out} (h1:P.funcs[f]? = some fn) (hok:okF tb fn=true) (h:evF tb ch lp fn us H=some out) (he:out.e = .ret) {ρ:Rho} {w:World} {vs:List Value} (R:Rel w0 ρ H w) (hr:RlL ρ us vs):
  Calls P f vs.toArray w fun e w'=>∃v ρ',e = .returned v∧ρ.le ρ'∧Rel w0 ρ' out.H w'∧Rl ρ' (pack out.vs) v:=by
 obtain⟨h3,h4⟩:=okF_spec hok
 obtain⟨body,hb,h⟩:=ob_some.1 (show ob fn.body _=some out from h)
 obtain⟨σ,hσ,h⟩:=unpackL_some h
 rw[List.range_eq_range']at hσ
 have hlen:=args_len hσ
 have hvl:vs.length<=fn.ntmps:=by rw[<-hr.len,hlen];exact h4
 refine calls_of_wpr h1 hb ?_
 have F:FrOk ρ fn.ntmps σ {tmps:=vs.toArray++Array.replicate (fn.ntmps - vs.toArray.size) undef,defers:=[]}:=by
  refine args_ok rfl (by simp;omega) hr (fun j v hv=> ?_) hσ
  have hlt:=getElem?_lt hv
  rw[Nat.zero_add,Array.getElem?_append_left (by simpa using hlt)]
  simpa using hv
 refine evC_ok hT hm hcall hloop body _ _ _ ⟨σ,H⟩ out ρ _ w _ (h3 body hb) h F R ⟨fun s' ρ' a' w' hk hle' F' R'=> ?_,fun id s' ρ' a' w' hk hle' F' R'=> ?_,fun s' ρ' a' w' hk hle' F' R'=> ?_⟩
 ·obtain⟨e1,v,hv,hres⟩:=retR_ok (fn:=fn) hT rfl F' R' hk
  exact Sx.body_end (.inr rfl) F'.defers hres ⟨v,ρ',rfl,hle',by rw[e1];exact R',hv⟩
 ·have:=exitOut_e hk
  rw[he]at this;cases this
 ·obtain⟨e1,v,hv,hres⟩:=retR_ok (fn:=fn) hT rfl F' R' hk
  exact Sx.body_end (.inl rfl) F'.defers hres ⟨v,ρ',rfl,hle',by rw[e1];exact R',hv⟩
noncomputable def chOne (tb:TB) (f:Nat) (fn:Func):CH:=fun g us H=>bif Nat.beq g f then resOR (evF tb (fun _ _ _=>none) (fun _ _ _ _=>none) fn us H)else none
theorem chOne_ok (hT:TabOk P tb) (hm:P.follows .mixedOrders=true) {f:Nat} {fn:Func} (h1:P.funcs[f]? = some fn) (hb:HasBody P f) (hok:okF tb fn=true):CallOk P w0 (chOne tb f fn):=fun g us H x H' h ρ w vs R hr=>by
 unfold chOne at h
 cases h2:Nat.beq g f with
 |false=>rw[h2]at h;cases h
 |true=>
 rw[h2]at h
 have h2:=Nat.eq_of_beq_eq_true h2
 subst h2
 replace h:resOR (evF tb (fun _ _ _=>none) (fun _ _ _ _=>none) fn us H)=some (x,H'):=h
 unfold resOR at h
 obtain⟨o,h3,h4⟩:=ob_some.1 h
 cases he:o.e with
 |normal=>rw[he]at h4;cases h4
 |exit id=>rw[he]at h4;cases h4
 |ret=>
  rw[he]at h4;cases h4
  exact .inr ⟨hb _ w,evF_ok' hT hm (fun _=>callOk_none) loopOk_none h1 hok h3 he R hr⟩
theorem wpSIn_rec {id:Nat} {o:Oper} {l:List Oper} {Q:Exit->Act->List Frame->World->Prop} {a:Act} {cs:List Frame} {w:World} (hnd:l.all noDefer=true) (hg:o.guard=none) (hrun:(execOp a.eval o).run P w = .ok .recover w)
  (hrec:recoverD cs=none) (h:Sx.wpList P (o::l).toArray (fun e a' w'=>Q e a' cs w') l (a.put o.dst .nilIface) w):(Code.region id (o::l).toArray false).wpSIn (FR none) 0 P Q a cs w:=by
 intro b k hb hro hF hroom
 have ho:(o::l).toArray[0]? = some o:=by simp
 obtain⟨e,a',w',hq,harr⟩:=wp_opsIn (F:=FR none) (n:=0) (Q:=fun e a' w'=>Q e a' cs w') (ops:=(o::l).toArray) (List.range' 1 l.length) (a.put o.dst .nilIface) w
  (by rw[wpOpsIn_eq_wpListIn l 1 (by intro j;simp[Nat.add_comm 1 j])];exact Sx.wpList_in l _ w hnd h) b k cs hro hF hroom
 have hw:Region.wanted o (yielded (o::l).toArray a.tmps)=true:=by simp[Region.wanted,hg]
 have h0:(lone (b.atR a (.inRegion (o::l).toArray (0::List.range' 1 l.length)::k)) cs w).fenced P (FR none):=fenced_oper hF hroom ho (fun _ _=>trivial)
 have hg':=stepGR_op (P:=P) (b:=b) (k:=k) (cs:=cs) (w:=w) (rest:=List.range' 1 l.length) ho hw
 rw[hro,Oper.semAt_none]at hg'
 have hfin:∀v,(b.atR a (.inRegion (o::l).toArray (0::List.range' 1 l.length)::k)).finish v=b.atR (a.put o.dst v) (.inRegion (o::l).toArray (List.range' 1 l.length)::k):=by
  intro v;rw[Frame.finish_atR,ho];rfl
 have hk:(b.atR a (.inRegion (o::l).toArray (0::List.range' 1 l.length)::k)).kind = .deferred:=hb
 have htr:=tryRecover_deferred hk cs
 have hr:List.range (o::l).toArray.size=0::List.range' 1 l.length:=by simp[List.range_eq_range',List.range'_succ]
 have hs:=stepR_region (P:=P) (b:=b) (a:=a) (k:=k) (cs:=cs) (w:=w) (id:=id) (ops:=(o::l).toArray)
 rw[hr]at hs
 refine⟨e,a',cs,w',rfl,hq,.of_steps (.head (fenced_calm hF hroom rfl) hs (.one h0 (step_lone_go ?_))) harr⟩
 rw[hg',<-hfin]
 simp only[Frame.atR,hro]at htr ⊢
 simp[stepG.apply,hrun,htr,hrec]
theorem caught_ok {ch:CH} {lp:LH} (hT:TabOk P tb) (hm:P.follows .mixedOrders=true) {f:Nat} {fn:Func} {id m d:Nat} {o:Oper} {l:List Oper} {rest:Code} {cx:Cx} {out:Out} {args:Array Value} {w:World}
  (hcall:∀w0:Base [],CallOk P w0 ch) (hloop:LoopOk P (Base.one w) tb lp) (hf:P.funcs[f]? = some fn) (hb:fn.body=some (.seq (.region id (o::l).toArray false) rest)) (hg:o.guard=none) (hd:o.dst=some d) (hdn:d<fn.ntmps)
  (hrun:∀ρ w,(execOp ρ o).run P w = .ok .recover w) (hl:l.all (okOp fn.ntmps)=true) (hr:okC tb fn.ntmps rest=true) (hres:fn.results = #[]) (hsz:args.size<=fn.ntmps)
  (h:evOps tb ch (o::l) (evC tb ch lp rest m cx (retN [])) l ⟨[(d,.inil)],H0⟩=some out) (he:out.e = .normal):
  CallsDIn (FR none) 0 P f args .returning w fun e u' w'=>∃v,e = .returned v∧u' = .returning∧Ext w w':=by
 have hnd:l.all noDefer=true:=List.all_eq_true.2 fun o hmo=>(okOp_spec (List.all_eq_true.1 hl o hmo)).1
 refine callsDIn_of_wpSIn hf hb trivial fun c₀ cs hu=> ?_
 have hrec:recoverD (c₀::cs)=none:=by simp[recoverD,hu]
 refine wpSIn_seq (wpSIn_rec hnd hg (hrun _ _) hrec ?_)
 have F:FrOk (fun _=>none) fn.ntmps [(d,.inil)] (({tmps:=args++Array.replicate (fn.ntmps - args.size) undef,defers:=[]}:Act).put o.dst .nilIface):=by
  rw[hd]
  refine FrOk.put ⟨rfl,by simp;omega,fun t g hg=>(by cases hg)⟩ hdn ?_
  exact .inil
 refine evOps_ok hT (hcall (Base.one w)) l ⟨[(d,.inil)],H0⟩ _ _ w hl F (Rel.start (Base.one w)) h fun s' ρ' a' w' hk hle' F' R'=> ?_
 refine wpSIn_of_wpIn rfl ?_
 refine evC_ok hT hm hcall hloop rest _ _ _ s' out ρ' a' w' _ hr hk F' R' ⟨fun s2 ρ2 a2 w2 hk2 hle2 F2 R2=> ?_,fun id s2 ρ2 a2 w2 hk2 hle2 F2 R2=> ?_,fun s2 ρ2 a2 w2 hk2 hle2 F2 R2=> ?_⟩
 ·refine⟨F2.defers,c₀.mode,rfl,.tuple #[],?_,_,rfl,hu,R2.ext.ext⟩
  simp[results,hres]
 ·have:=exitOut_e hk2
  rw[he]at this;cases this
 ·have:=retR_e hk2
  rw[he]at this;cases this
theorem wpl_val {o:Oper} {l:List Oper} {ops:Array Oper} {Q:Exit->Act->World->Prop} {a:Act} {w w':World} {v:Value} (hg:o.guard=none) (hr:(execOp a.eval o).run P w = .ok (.value v) w') (h:Sx.wpList P ops Q l (a.put o.dst v) w'):Sx.wpList P ops Q (o::l) a w:=by
 unfold Sx.wpList
 rw[if_pos (by simp[Region.wanted,hg])]
 exact .inl (by simp only[Oper.wp,hr,Oper.upon];exact h)
theorem wpl_skip {o:Oper} {l:List Oper} {ops:Array Oper} {Q:Exit->Act->World->Prop} {a:Act} {w w':World} (hg:o.guard=none) (hr:(execOp a.eval o).run P w = .ok .skip w') (h:Sx.wpList P ops Q l (a.put o.dst undef) w'):Sx.wpList P ops Q (o::l) a w:=by
 unfold Sx.wpList
 rw[if_pos (by simp[Region.wanted,hg])]
 exact .inl (by simp only[Oper.wp,hr,Oper.upon];exact h)
theorem wpl_enter {o:Oper} {l:List Oper} {ops:Array Oper} {Q:Exit->Act->World->Prop} {a:Act} {w:World} {f:Nat} {args:Array Value} {S:Value->World->Prop} (hg:o.guard=none) (hr:(execOp a.eval o).run P w = .ok (.enter f args) w)
  (hc:Calls P f args w fun e w'=>∃v,e = .returned v∧S v w') (h:∀v w',S v w'->Sx.wpList P ops Q l (a.put o.dst v) w'):Sx.wpList P ops Q (o::l) a w:=by
 unfold Sx.wpList
 rw[if_pos (by simp[Region.wanted,hg])]
 refine .inl ?_
 simp only[Oper.wp,hr,Oper.upon]
 refine hc.mono ?_
 rintro e w' ⟨v,rfl,hs⟩
 exact h v w' hs
theorem cat_ok (hT:TabOk P tb) {c cc T1 T2 i0 i1 i2 i3 y0 y1 y2 y3 y4 y5 y6 y7:Nat} {p0 p1 p2 p3 p4 p5 p6 p7:String} {e0 e1 e2 e3 e4 e5 e6 e7:Array Edge} {fn:Func} (hf:P.funcs[c]? = some fn) (hbd:HasBody P c) (hcc:HasBody P cc)
  (hb:fn.body=some (.seq (.region i0 #[⟨some 2,.alloc T1,y0,p0,e0,none⟩,⟨some 3,.alloc T2,y1,p1,e1,none⟩] false)
   (.seq (.region i1 #[⟨some 4,.makeFunc (.func cc) #[] #[.tmp 2,.tmp 3],y2,p2,e2,none⟩,⟨none,.defer ⟨.value (.tmp 4),#[],#[]⟩,y3,p3,e3,none⟩] false)
   (.seq (.region i2 #[⟨some 5,.move (.tmp 0),y4,p4,e4,none⟩,⟨some 6,.call ⟨.value (.tmp 5),#[],#[]⟩,y5,p5,e5,none⟩] false)
   (.seq (.region i3 #[⟨none,.store T1 (.tmp 2) (.const (.int .i64 0)),y6,p6,e6,none⟩,⟨none,.store T2 (.tmp 3) (.const (.int .i64 0)),y7,p7,e7,none⟩] false) .ret)))))
  (hn:fn.ntmps=7) (hres:fn.results = #[.cell 2 T1,.cell 3 T2])
  (hA1:∀H,vAlloc tb T1 H=some (.ptr H.n 0,H.new (.cells [z64]))) (hA2:∀H,vAlloc tb T2 H=some (.ptr H.n 0,H.new (.cells [z64])))
  (hS1:∀H h c,GH.cells H h=some [c]->vStore tb T1 (.ptr h 0) z64 H=some (.un,H.set h (.cells [z64]))) (hS2:∀H h c,GH.cells H h=some [c]->vStore tb T2 (.ptr h 0) z64 H=some (.un,H.set h (.cells [z64])))
  (hL1:∀H h,GH.cells H h=some [z64]->vLoad tb T1 (.ptr h 0) H=some z64) (hL2:∀H h,GH.cells H h=some [z64]->vLoad tb T2 (.ptr h 0) H=some z64)
  (hdef:∀args w,args.size=2->CallsDIn (FR none) 0 P cc args .returning w fun e u' w'=>∃v,e = .returned v∧u' = .returning∧Ext w w')
  {ρ:Rho} {g:Nat} {us cs:List Value} {w:World} {H H':GH} {c1 c2:GV} (R:Rel w0 ρ H w) (hc:∀ρ' w',ρ.le ρ'->Rel w0 ρ' ((H.new (.cells [z64])).new (.cells [z64])) w'->∃x,CallSem P w0 ρ' g (us++cs) w' x H') (h1:H'.cells H.n=some [c1]) (h2:H'.cells (H.n+1)=some [c2]):
  CallSem P w0 ρ c [.func (.func g) us.toArray cs.toArray] w (.tup [z64,z64]) ((((H'.set H.n (.cells [z64])).set (H.n+1) (.cells [z64])).del H.n).del (H.n+1)):=by
 refine .inr ⟨hbd _ w,?_⟩
 refine callsFR' (r:=none) (n:=0) (callsIn_of_wp_defers hf hb trivial ?_)
 rw[hn]
 obtain⟨v1,w1,ρ1,hr1,hle1,R1,hv1⟩:=vAlloc_ok (P:=P) hT R (hA1 H)
 obtain⟨v2,w2,ρ2,hr2,hle2,R2,hv2⟩:=vAlloc_ok (P:=P) hT R1 (hA2 _)
 obtain⟨x,hx⟩:=hc ρ2 w2 (Rho.le_trans hle1 hle2) R2
 refine wpIn_seq (wpr_region_lit rfl ?_)
 refine wpl_val rfl (v:=v1) (w':=w1) (by simp[execOp,hr1]) ?_
 refine wpl_val rfl (v:=v2) (w':=w2) (by simp[execOp,hr2]) ?_
 show Code.wpIn (FR none) 0 P _ _ (⟨#[.func (.func g) us.toArray cs.toArray,undef,v1,v2,undef,undef,undef],[]⟩:Act) w2
 refine wpIn_seq (wpIn_region_lit ?_)
 refine wpListIn_plain rfl fun K hK=>⟨fun _ _=>trivial,?_⟩
 have hm:(Oper.semAt (FR none).round (⟨#[.func (.func g) us.toArray cs.toArray,undef,v1,v2,undef,undef,undef],[]⟩:Act).eval ⟨some 4,.makeFunc (.func cc) #[] #[.tmp 2,.tmp 3],y2,p2,e2,none⟩).run P w2 = .ok (.value (.func (.func cc) #[] #[v1,v2])) w2:=by
  rw[show(FR none).round=none from rfl,Oper.semAt_none]
  simp[execOp,Instr.makeFunc,Act.eval]
 rw[hm]
 refine hK _ _ ?_
 show wpListIn _ _ _ _ _ _ (⟨#[.func (.func g) us.toArray cs.toArray,undef,v1,v2,.func (.func cc) #[] #[v1,v2],undef,undef],[]⟩:Act) w2
 refine wpListIn_plain rfl fun K hK=>⟨fun _ _=>trivial,?_⟩
 have hm:(Oper.semAt (FR none).round (⟨#[.func (.func g) us.toArray cs.toArray,undef,v1,v2,.func (.func cc) #[] #[v1,v2],undef,undef],[]⟩:Act).eval ⟨none,.defer ⟨.value (.tmp 4),#[],#[]⟩,y3,p3,e3,none⟩).run P w2 = .ok (.defer ⟨.fn (.func cc) #[v1,v2],#[]⟩) w2:=by
  rw[show(FR none).round=none from rfl,Oper.semAt_none]
  simp[execOp,resolve,Act.eval,Deferred.ofValue]
 rw[hm]
 refine hK _ _ ?_
 show Code.wpIn (FR none) 0 P _ _ (⟨#[.func (.func g) us.toArray cs.toArray,undef,v1,v2,.func (.func cc) #[] #[v1,v2],undef,undef],[⟨.fn (.func cc) #[v1,v2],#[]⟩]⟩:Act) w2
 refine wpIn_seq (wpr_region_lit rfl ?_)
 refine wpl_val rfl (v:= .func (.func g) us.toArray cs.toArray) (w':=w2) (by simp[execOp,Act.eval]) ?_
 show Sx.wpList _ _ _ _ (⟨#[.func (.func g) us.toArray cs.toArray,undef,v1,v2,.func (.func cc) #[] #[v1,v2],.func (.func g) us.toArray cs.toArray,undef],[⟨.fn (.func cc) #[v1,v2],#[]⟩]⟩:Act) w2
 have go:∀v w3 ρ3,ρ2.le ρ3->Rel w0 ρ3 H' w3->Code.wpIn (FR none) 0 P (.seq (.region i3 #[⟨none,.store T1 (.tmp 2) (.const (.int .i64 0)),y6,p6,e6,none⟩,⟨none,.store T2 (.tmp 3) (.const (.int .i64 0)),y7,p7,e7,none⟩] false) .ret) (bodyPostDIn (FR none) 0 P fn fun e w'=>∃v ρ',e = .returned v∧ρ.le ρ'∧Rel w0 ρ' ((((H'.set H.n (.cells [z64])).set (H.n+1) (.cells [z64])).del H.n).del (H.n+1)) w'∧Rl ρ' (.tup [z64,z64]) v) (⟨#[.func (.func g) us.toArray cs.toArray,undef,v1,v2,.func (.func cc) #[] #[v1,v2],.func (.func g) us.toArray cs.toArray,v],[⟨.fn (.func cc) #[v1,v2],#[]⟩]⟩:Act) w3:=by
  intro v w3 ρ3 hle3 R3
  have hz:∀ρ,Rl ρ z64 (.int .i64 0):=fun ρ=> .int _ _
  obtain⟨_,w4,ρ4,hr4,hle4,R4⟩:=vStore_ok (P:=P) (T:=T1) hT R3 ((hv1.le hle2).le hle3) (hz _) (hS1 _ _ _ h1)
  have h2':(H'.set H.n (.cells [z64])).cells (H.n+1)=some [c2]:=by
   rw[GH.cells_eq]at h2 ⊢
   rw[GH.get_set,if_neg (by omega)];exact h2
  obtain⟨_,w5,ρ5,hr5,hle5,R5⟩:=vStore_ok (P:=P) (T:=T2) hT R4 ((hv2.le hle3).le hle4) (hz _) (hS2 _ _ _ h2')
  refine wpIn_seq (wpr_region_lit rfl ?_)
  refine wpl_skip rfl (w':=w4) (by simp[execOp,Act.eval,hr4]) ?_
  refine wpl_skip rfl (w':=w5) (by simp[execOp,Act.eval,Act.put,hr5]) ?_
  refine wpIn_ret ?_
  show LeavesIn (FR none) 0 P fn #[.func (.func g) us.toArray cs.toArray,undef,v1,v2,.func (.func cc) #[] #[v1,v2],.func (.func g) us.toArray cs.toArray,v] _ [⟨.fn (.func cc) #[v1,v2],#[]⟩] .returning w5
  refine leavesIn_cons (f:=cc) (args:= #[v1,v2]) (by simp) (by simp[FR,Fence.wide]) (by simp[invoke,hcc _ w5]) (fun _ _=>trivial) ?_
  refine(hdef #[v1,v2] w5 rfl).mono ?_
  rintro e u' w6 ⟨x6,rfl,rfl,hext⟩
  have R6:=R5.ext' hext
  have F:FrOk ρ5 7 [(2,.ptr H.n 0),(3,.ptr (H.n+1) 0)] (⟨#[.func (.func g) us.toArray cs.toArray,undef,v1,v2,.func (.func cc) #[] #[v1,v2],.func (.func g) us.toArray cs.toArray,v],[]⟩:Act):=by
   refine⟨rfl,rfl,fun t g hg=> ?_⟩
   rw[glk_cons]at hg
   by_cases h2:t=2
   ·rw[if_pos h2]at hg;cases hg;rw[h2]
    exact(((hv1.le hle2).le hle3).le hle4).le hle5
   ·rw[if_neg h2,glk_cons]at hg
    by_cases h3:t=3
    ·rw[if_pos h3]at hg;cases hg;rw[h3]
     exact((hv2.le hle3).le hle4).le hle5
    ·rw[if_neg h3]at hg;cases hg
  have hres':retR tb ⟨fn.results.toList,0,[]⟩ ⟨[(2,.ptr H.n 0),(3,.ptr (H.n+1) 0)],(H'.set H.n (.cells [z64])).set (H.n+1) (.cells [z64])⟩=some ⟨.ret,[z64,z64],(H'.set H.n (.cells [z64])).set (H.n+1) (.cells [z64])⟩:=by
   rw[hres]
   have q1:vLoad tb T1 (.ptr H.n 0) ((H'.set H.n (.cells [z64])).set (H.n+1) (.cells [z64]))=some z64:=hL1 _ _ (by rw[GH.cells_eq,GH.get_set,if_neg (by omega),GH.get_set,if_pos rfl])
   have q2:vLoad tb T2 (.ptr (H.n+1) 0) ((H'.set H.n (.cells [z64])).set (H.n+1) (.cells [z64]))=some z64:=hL2 _ _ (by rw[GH.cells_eq,GH.get_set,if_pos rfl])
   show ob (ob (vLoad tb T1 (.ptr H.n 0) _) fun v=>ob (ob (vLoad tb T2 (.ptr (H.n+1) 0) _) fun v=>ob (some []) fun vs=>some (v::vs)) fun vs=>some (v::vs)) _=_
   rw[q1,q2];rfl
  obtain⟨_,v6,hv6,hr6⟩:=retR_ok (fn:=fn) (P:=P) hT rfl F R6 hres'
  exact⟨v6,hr6,v6,ρ5,rfl,Rho.le_trans hle1 (Rho.le_trans hle2 (Rho.le_trans hle3 (Rho.le_trans hle4 hle5))),(R6.del _).del _,hv6⟩
 rcases hx with⟨v,w3,ρ3,hr,hle3,R3,_⟩|⟨hr,hcalls⟩
 ·refine wpl_val rfl (v:=v) (w':=w3) (by simpa [execOp,resolve,Act.eval,Deferred.ofValue,invoke]using hr) ?_
  exact go v w3 ρ3 hle3 R3
 ·refine wpl_enter rfl (f:=g) (args:=(us++cs).toArray) (S:=fun v w'=>∃ρ',ρ2.le ρ'∧Rel w0 ρ' H' w') (by simpa [execOp,resolve,Act.eval,Deferred.ofValue,invoke]using hr) (hcalls.mono ?_) fun v w3 ⟨ρ3,hle3,R3⟩=>go v w3 ρ3 hle3 R3
  rintro e w' ⟨v,ρ',rfl,hle,R',_⟩
  exact⟨v,rfl,ρ',hle,R'⟩
end
end Go.Gx
end
section
namespace Go.Gx
open Go Go.Sx
noncomputable section
def idxB (n c:Nat) (len:Nat):Nat->Option Nat:=Nat.rec (motive:=fun _=>Nat->Option Nat) (fun _=>none) (fun _ ih i=>Bool.casesOn (motive:=fun _=>Option Nat) (Nat.beq (Nat.mod (Nat.shiftRight n (Nat.mul 8 i)) 256) c) (ih (Nat.succ i)) (some i)) len
def isU8 (k:IntKind):Bool:=match k with
 | .u8=>true
 |_=>false
def gexn (fx:Nat) (f:Nat) (us:List GV):Option GV:=bif Nat.beq f fx then List.casesOn (motive:=fun _=>Option GV) us none (fun a r=>List.casesOn (motive:=fun _=>Option GV) r none fun c r=>List.casesOn (motive:=fun _=>Option GV) r (ob a.asStr fun s=>ob c.asI fun p=>ob (asN p.2) fun k=>
 bif isU8 p.1 then(bif Nat.blt k 256 then Option.casesOn (motive:=fun _=>Option GV) (idxB s.1 k s.2 0) (some (.int .i64 (.negSucc 0))) (fun i=>some (.int .i64 (.ofNat i)))else none)else none) fun _ _=>none)else none
theorem idxB_eq (x:List UInt8) (c:Nat) (hc:c<256):∀k i,i+k=x.length->(match idxB (encB x) c k i with|none=>(-1:Int)|some j=>(j:Int))=(if Lib.indexByte (x.drop i) c.toUInt8 = -1 then -1 else Lib.indexByte (x.drop i) c.toUInt8+i)
 |0,i,h=>by
  rw[List.drop_of_length_le (by omega)]
  simp[idxB,Lib.indexByte]
 | k + 1, i, h => by
  have ih:=idxB_eq x c hc k (i+1) (by omega)
  have hi:i<x.length:=by omega
  have e:idxB (encB x) c (k+1) i=Bool.casesOn (motive:=fun _=>Option Nat) (Nat.beq (Nat.mod (Nat.shiftRight (encB x) (Nat.mul 8 i)) 256) c) (idxB (encB x) c k (i+1)) (some i):=rfl
  rw[e,encB_at x i hi,List.drop_eq_getElem_cons hi]
  have hcc:(x[i]).toNat=c↔x[i]=c.toUInt8:=by
   rw[<-UInt8.toNat_inj]
   have:c.toUInt8.toNat=c:=by simp[Nat.toUInt8];omega
   rw[this]
  unfold Lib.indexByte
  cases hb:Nat.beq (x[i]).toNat c with
  |true=>
   have:=hcc.1 (Nat.eq_of_beq_eq_true hb)
   simp[this]
  | false =>
   have hne:¬x[i]=c.toUInt8:=fun h'=>by
    have:=hcc.2 h'
    rw[this]at hb
    simp at hb
   have hge:=Lib.indexByte_ge (x.drop (i+1)) c.toUInt8
   simp only[beq_iff_eq,hne,if_false]
   rw[ih]
   by_cases h1:Lib.indexByte (x.drop (i+1)) c.toUInt8 = -1
   ·simp[h1]
   ·rw[if_neg h1,if_neg h1,if_neg (by omega)]
    push_cast;omega
section
variable {P:Program} {gs:Gls} {w0:Base gs}
theorem gexn_ok {fx:Nat} {fn:Func} (hf:P.funcs[fx]? = some fn) (hname:(fn.name == "runtime.NumGoroutine")=false) (hb:fn.body.isNone=true) (hn:Extern.findNext fn=none) (he:Extern.find fn=some Extern.BytealgIndexByte.indexByte)
  {f:Nat} {us:List GV} {g:GV} (h:gexn fx f us=some g) (ρ:Rho) (w:World) (vs:List Value) (H:GH) (R:Rel w0 ρ H w) (hr:RlL ρ us vs):CallSem P w0 ρ f vs w g H:=by
 unfold gexn at h
 replace h:=bif_some.1 h
 have h1:=Nat.eq_of_beq_eq_true h.1
 replace h:=h.2
 subst h1
 cases us with
 |nil=>cases h
 |cons a us=>
 cases us with
 |nil=>cases h
 |cons c us=>
 cases us with
 |cons _ _=>cases h
 |nil=>
 obtain⟨s,hs,h⟩:=ob_some.1 (show ob a.asStr _=some g from h)
 obtain⟨p,hp,h⟩:=ob_some.1 h
 obtain⟨k,hk,h⟩:=ob_some.1 h
 obtain⟨hu,h⟩:=bif_some.1 h
 obtain⟨hlt,h⟩:=bif_some.1 h
 obtain⟨v,vs,rfl,hv,hr⟩:=hr.of_cons
 obtain⟨v',vs,rfl,hv',hr⟩:=hr.of_cons
 rw[hr.of_nil]
 rw[asStr_eq hs]at hv
 rw[asI_eq hp]at hv'
 obtain⟨S,rfl,e1,e2⟩:=hv.str_inv
 have hv':=hv'.int_inv
 subst hv'
 have hpu:p.1 = .u8:=by cases hq:p.1<;>rw[hq]at hu<;>first|rfl|cases hu
 have hk':p.2=(k:Int):=asN_eq hk
 have hlt:k<256:=by simpa using hlt
 refine .inl ⟨.int .i64 (Lib.indexByte S.data.toList p.2.toNat.toUInt8),w,ρ,?_,Rho.le_refl _,R,?_⟩
 ·rw[run_callFunc_extern hf hname hb hn he,hpu,Lib.run_indexByteString]
  rfl
 ·have key:=idxB_eq (bytesOfV S) k hlt s.2 0 (by omega)
  rw[e1]at h
  rw[List.drop_zero]at key
  have e3:Lib.indexByte S.data.toList p.2.toNat.toUInt8=(match idxB (encB (bytesOfV S)) k s.2 0 with|none=>(-1:Int)|some j=>(j:Int)):=by
   rw[key,hk']
   have:bytesOfV S=S.data.toList:=rfl
   rw[this]
   simp only[Int.toNat_natCast]
   split
   ·assumption
   ·omega
  rw[e3]
  cases hx:idxB (encB (bytesOfV S)) k s.2 0 with
  |none=>rw[hx]at h;cases h;exact .int _ _
  |some j=>rw[hx]at h;cases h;exact .int _ _
end
end
end Go.Gx
end
section
namespace Go.Gx
open Go Go.Sx
noncomputable section
def decL {β:Type} (sz:Nat) (d:List GV->Option β) (n:Nat):List GV->Option (List β):=Nat.rec (motive:=fun _=>List GV->Option (List β)) (fun _=>some []) (fun _ ih cs=>ob (d (cs.take sz)) fun y=>ob (ih (cs.drop sz)) fun ys=>some (y::ys)) n
def decS {β:Type} (H:GH) (sz:Nat) (d:List GV->Option β) (v:GV):Option (List β):=ob (content H sz v) fun p=>bif Nat.ble p.1 1099511627776 then decL sz d p.1 p.2 else none
def dI (k:IntKind) (cs:List GV):Option Int:=List.casesOn (motive:=fun _=>Option Int) cs none fun c r=>List.casesOn (motive:=fun _=>Option Int) r (ob c.asI fun p=>bif decide (p.1=k)then some p.2 else none) fun _ _=>none
def dP {α β:Type} (n:Nat) (d:List GV->Option α) (e:List GV->Option β) (cs:List GV):Option (α×β):=ob (d (cs.take n)) fun x=>ob (e (cs.drop n)) fun y=>some (x,y)
def dS {β:Type} (H:GH) (sz:Nat) (d:List GV->Option β) (cs:List GV):Option (List β):=List.casesOn (motive:=fun _=>Option (List β)) cs none fun c r=>List.casesOn (motive:=fun _=>Option (List β)) r (decS H sz d c) fun _ _=>none
end
section
variable {P:Program} {gs:Gls} {w0:Base gs} {w:World} {ρ:Rho} {H:GH}
def All (_:Nat):Prop:=True
def Reads {α β:Type} (ρ:Rho) (w:World) (d:List GV->Option β) (r:Rep α) (er:α->β):Prop:=∀gs vs y,RlL ρ gs vs->d gs=some y->gs.length=r.sz->∃z,er z=y∧r.R w All vs z
theorem Reads.int (k:IntKind):Reads ρ w (dI k) (Rep.int k) id:=fun gs vs y hr h _=>by
 cases gs with
 |nil=>cases h
 |cons c gs=>
 cases gs with
 |cons _ _=>cases h
 |nil=>
 obtain⟨p,hp,h⟩:=ob_some.1 (show ob c.asI _=some y from h)
 obtain⟨hk,h⟩:=bif_some.1 h
 cases h
 obtain⟨v,vs,rfl,hv,hr⟩:=hr.of_cons
 rw[hr.of_nil]
 rw[asI_eq hp]at hv
 rw[hv.int_inv]
 have hk:=of_decide_eq_true hk
 exact⟨p.2,rfl,by rw[hk];rfl⟩
theorem Reads.pair {α β α' β':Type} {d:List GV->Option α'} {e:List GV->Option β'} {r:Rep α} {s:Rep β} {er:α->α'} {es:β->β'} (h1:Reads ρ w d r er) (h2:Reads ρ w e s es):Reads ρ w (dP r.sz d e) (Rep.pair r s) (fun z=>(er z.1,es z.2)):=fun gs vs y hr h hl=>by
 obtain⟨x,hx,h⟩:=ob_some.1 (show ob (d (gs.take r.sz)) _=some y from h)
 obtain⟨x',hx',h⟩:=ob_some.1 h
 cases h
 have hl:gs.length=r.sz+s.sz:=hl
 have hv:=hr.len
 obtain⟨z,rfl,hz⟩:=h1 _ (vs.take r.sz) _ (by simpa using hr.sub 0 r.sz) hx (by simp;omega)
 obtain⟨z',rfl,hz'⟩:=h2 _ (vs.drop r.sz) _ ⟨by simp;omega,fun i g v hg hv'=>by rw[List.getElem?_drop]at hg hv';exact hr.at' _ _ _ hg hv'⟩ hx' (by simp;omega)
 exact⟨(z,z'),rfl,_,_,(List.take_append_drop r.sz vs).symm,hz,hz'⟩
theorem decL_ok {α β:Type} {d:List GV->Option β} {r:Rep α} {er:α->β} (hd:Reads ρ w d r er) (b:Nat):∀(n:Nat) (cs:List GV) (ns:List Value) (off:Nat) (ys:List β),decL r.sz d n cs=some ys->RlL ρ cs ns->cs.length=n*r.sz->(∀(j:Nat) x,ns[j]? = some x->w.cell? ⟨b,off+j,none⟩=some x)->
  ∃zs:List α,zs.map er=ys∧zs.length=n∧∀(i:Nat) z,zs[i]? = some z->∃es,(∀(j:Nat) e,es[j]? = some e->w.cell? ⟨b,off+(i*r.sz+j),none⟩=some e)∧r.R w All es z
 |0,cs,ns,off,ys,h,hr,hl,hc=>by
  cases h
  exact⟨[],rfl,rfl,fun i z hz=>by simp at hz⟩
 | n + 1, cs, ns, off, ys, h, hr, hl, hc => by
  obtain⟨y,hy,h⟩:=ob_some.1 (show ob (d (cs.take r.sz)) (fun y=>ob (decL r.sz d n (cs.drop r.sz)) fun ys=>some (y::ys))=some ys from h)
  obtain⟨ys',hys,h⟩:=ob_some.1 h
  cases h
  rw[Nat.succ_mul]at hl
  have hv:=hr.len
  obtain⟨z,rfl,hz⟩:=hd _ (ns.take r.sz) _ (by simpa using hr.sub 0 r.sz) hy (by simp;omega)
  obtain⟨zs,rfl,hzl,hzs⟩:=decL_ok hd b n (cs.drop r.sz) (ns.drop r.sz) (off+r.sz) ys' hys ⟨by simp;omega,fun i g v hg hv'=>by rw[List.getElem?_drop]at hg hv';exact hr.at' _ _ _ hg hv'⟩ (by simp;omega) (fun j x hx=>by
   rw[List.getElem?_drop]at hx
   rw[Nat.add_assoc];exact hc _ _ hx)
  refine⟨z::zs,rfl,by simp[hzl],fun i z' hz'=> ?_⟩
  cases i with
  | zero =>
   simp at hz';subst hz'
   refine⟨_,fun j e he=> ?_,hz⟩
   rw[List.getElem?_take]at he
   by_cases hj:j<r.sz
   ·rw[if_pos hj]at he
    have:=hc j e he
    simpa using this
   ·rw[if_neg hj]at he;cases he
  |succ i=>
   simp at hz'
   obtain⟨es,h1,h2⟩:=hzs i z' hz'
   refine⟨es,fun j e he=> ?_,h2⟩
   have:=h1 j e he
   rw[Nat.succ_mul]
   rw[show off+(i*r.sz+r.sz+j)=off+r.sz+(i*r.sz+j) by omega]
   exact this
theorem content_slR (R:Rel w0 ρ H w) {v:GV} {V:Value} {sz:Nat} {p:Nat×List GV} (hv:Rl ρ v V) (h:content H sz v=some p):
  p.2.length=p.1*sz∧∃a cap,V = .slice a p.1 cap∧p.1<=cap∧(p.1=0∨∃b off ns,a=some ⟨b,off,none⟩∧RlL ρ p.2 ns∧∀(j:Nat) x,ns[j]? = some x->w.cell? ⟨b,off+j,none⟩=some x):=by
 obtain⟨ns,C⟩:=content_ok R hv h
 refine⟨by rw[C.rel.len,C.len],?_⟩
 obtain⟨base,cap,hV,hc,hh⟩:=C.val
 refine⟨base,cap,hV,hc,?_⟩
 rcases hh with⟨_,h0,_⟩|⟨A,rfl,hcell⟩
 ·exact .inl h0
 ·by_cases h0:p.1=0
  ·exact .inl h0
  ·refine .inr ?_
   unfold content at h
   cases hz:v.isSnil with
   |true=>rw[hz]at h;cases h;exact absurd rfl h0
   | false =>
    rw[hz]at h
    obtain⟨s,hs,h⟩:=ob_some.1 (show ob v.asS _=some p from h)
    rw[asS_eq hs,hV]at hv
    obtain⟨l,cap',A',hl,e,hc',ha⟩:=hv.sl_inv
    injection e with e1 e2 e3
    injection e1 with e1
    rcases ha with ha|⟨ha,_⟩
    ·omega
    ·rw[ha]at e1
     subst e1
     exact⟨l.b,l.off+s.2.1,ns,rfl,C.rel,fun j x hx=>by have:=hcell j x hx;rwa[add_none]at this⟩
theorem decS_ok {α β:Type} {d:List GV->Option β} {r:Rep α} {er:α->β} (R:Rel w0 ρ H w) (hd:Reads ρ w d r er) {v:GV} {V:Value} {ys:List β} (hv:Rl ρ v V) (h:decS H r.sz d v=some ys):∃zs:List α,zs.map er=ys∧SlR r w All V zs:=by
 obtain⟨p,hp,h⟩:=ob_some.1 (show ob (content H r.sz v) _=some ys from h)
 obtain⟨hle,h⟩:=bif_some.1 h
 have hle:p.1<=1099511627776:=by simpa using hle
 obtain⟨hlen,a,cap,rfl,hc,hh⟩:=content_slR R hv hp
 rcases hh with h0|⟨b,off,ns,rfl,hr,hcell⟩
 ·rw[h0]at h;cases h
  exact⟨[],rfl,a,cap,by rw[h0];rfl,by simp,.inl rfl⟩
 ·obtain⟨zs,rfl,hl,hz⟩:=decL_ok hd b p.1 p.2 ns off ys h hr hlen hcell
  exact⟨zs,rfl,some ⟨b,off,none⟩,cap,by rw[hl],by rw[hl];omega,.inr ⟨b,off,rfl,trivial,hz⟩⟩
theorem Reads.sl {α β:Type} {d:List GV->Option β} {r:Rep α} {er:α->β} (R:Rel w0 ρ H w) (hd:Reads ρ w d r er):Reads ρ w (dS H r.sz d) (Rep.sl r) (fun z=>z.2.map er):=fun gs vs y hr h hl=>by
 cases gs with
 |nil=>cases h
 |cons c gs=>
 cases gs with
 |cons _ _=>cases h
 |nil=>
 have h:decS H r.sz d c=some y:=h
 obtain⟨v,vs,rfl,hv,hr⟩:=hr.of_cons
 rw[hr.of_nil]
 obtain⟨zs,rfl,hz⟩:=decS_ok R hd hv h
 exact⟨(v,zs),rfl,rfl,hz⟩
end
end Go.Gx
end
section
namespace Go.Gx
open Go Go.Sx
noncomputable section
def impRows {α:Type} (sz:Nat) (g:α->List GV) (xss:List (List α)):GH->List GV×GH:=List.rec (motive:=fun _=>GH->List GV×GH) (fun H=>([],H)) (fun xs _ ih H=>let r:=ih (H.new (.cells (xs.flatMap g)));(.sl H.n 0 xs.length sz::r.1,r.2)) xss
end
section
variable {P:Program} {gs:Gls} {w0:Base gs} {w:World} {ρ:Rho} {H:GH}
def Apart (ρ:Rho) (H:GH) (B:Nat->Prop):Prop:=∀h o l,H.get h=some o->ρ h=some l->¬B l.b
theorem Apart.mono {B B':Nat->Prop} (h:Apart ρ H B) (hB:∀k,B' k->B k):Apart ρ H B':=fun a o l h1 h2 h3=>h a o l h1 h2 (hB _ h3)
theorem Apart.start (R:Rel w0 ρ H w):Apart ρ H (fun k=>w.heap.size<=k):=fun h o l hg hl hb=>by
 obtain⟨l',hl',_,ho⟩:=R.live h o hg
 rw[hl]at hl';cases hl'
 have:=ho.lt
 omega
theorem import_ok {α:Type} {e:Enc α} {xs:List α} {cs:List GV} {v:Value} {B F:Nat->Prop} (R:Rel w0 ρ H w) (A:Apart ρ H B) (hB:∀k,B k->w0.mine k) (hFB:∀k,F k->B k) (ha:ArR e w F v xs) (hne:xs≠[]) (hcs:RlL ρ cs (cellsOf e xs)):
  ∃ρ',ρ.le ρ'∧Rel w0 ρ' (H.new (.cells cs)) w∧Rl ρ' (.sl H.n 0 xs.length e.sz) v∧Apart ρ' (H.new (.cells cs)) (fun k=>B k∧¬F k):=by
 obtain⟨_,hone,hh⟩:=ha
 rcases hh with⟨_,h0⟩|⟨b,off,cap,T,cur,rfl,hF,hb,hc,hsz,hcells⟩
 ·exact absurd h0 hne
 have hlen:(cellsOf e xs).length=xs.length*e.sz:=by
  rw[<-hcells]
  simp
  have:xs.length*e.sz<=cap*e.sz:=Nat.mul_le_mul_right _ hc
  omega
 have hle:ρ.le (ρ.upd H.n ⟨b,off,cur.size,.cells cur T (0,0),.cells cs⟩):=Rho.le_upd (R.fresh _ (Nat.le_refl _))
 have hcap:xs.length*e.sz<=cap*e.sz:=Nat.mul_le_mul_right _ hc
 obtain⟨_,R'⟩:=R.new (o:= .cells cs) (l:=⟨b,off,cur.size,.cells cur T (0,0),.cells cs⟩) R.ext (fun h o' l' hg hl=>⟨rfl,fun e'=>A h o' l' hg hl (by rw[e'];exact hFB _ hF)⟩) (hB _ (hFB _ hF)) ⟨cur,T,hb,rfl,by
   show off+cs.length<=cur.size
   have:=hcs.len;omega,fun i g hg=>by
   obtain⟨x,hx,hr⟩:=hcs.get hg
   refine⟨x,?_,hr.le hle,List.all_eq_true.1 hone x (List.mem_of_getElem? hx)⟩
   rw[<-hcells,List.getElem?_take]at hx
   by_cases hi:i<xs.length*e.sz
   ·rw[if_pos hi,List.getElem?_drop,Array.getElem?_toList]at hx;exact hx
   ·rw[if_neg hi]at hx;cases hx⟩ hb
 refine⟨_,hle,R',.sl (by simp[Rho.upd];rfl) hc (.inr ⟨rfl,hsz⟩),fun h o l hg hl hk=> ?_⟩
 rw[GH.get_new]at hg
 by_cases e1:h=H.n
 ·rw[e1]at hl
  simp[Rho.upd]at hl
  subst hl
  exact hk.2 hF
 ·rw[if_neg e1]at hg
  simp only[Rho.upd,if_neg e1]at hl
  exact A h o l hg hl hk.1
theorem flat_ok {α:Type} {e:Enc α} {g:α->List GV} (hg:∀x,RlL ρ (g x) (e.enc x)):∀xs:List α,RlL ρ (xs.flatMap g) (cellsOf e xs)
 | []=> .nil
 |x::xs=>(hg x).append (flat_ok hg xs)
theorem impRows_ok {α:Type} {e:Enc α} {g:α->List GV} (hg:∀ρ x,RlL ρ (g x) (e.enc x)):∀(xss:List (List α)) (vs:List Value) (G:Nat->Nat->Prop) (B:Nat->Prop) (ρ:Rho) (H:GH),Rel w0 ρ H w->Apart ρ H B->(∀k,B k->w0.mine k)->vs.length=xss.length->
  (∀xs∈xss,xs≠[])->(∀i v xs,vs[i]? = some v->xss[i]? = some xs->ArR e w (G i) v xs)->(∀i k,G i k->B k)->(∀i j k,G i k->G j k->i=j)->
  ∃ρ',ρ.le ρ'∧Rel w0 ρ' (impRows e.sz g xss H).2 w∧RlL ρ' (impRows e.sz g xss H).1 vs∧Apart ρ' (impRows e.sz g xss H).2 (fun k=>B k∧∀i,¬G i k)
 | [],vs,G,B,ρ,H,R,A,hB,hl,_,h1,h2,h3=>by
  have:vs=[]:=List.eq_nil_of_length_eq_zero hl
  subst this
  exact⟨ρ,Rho.le_refl _,R,.nil,A.mono fun k hk=>hk.1⟩
 |xs::xss,[],G,B,ρ,H,R,A,hB,hl,_,h1,h2,h3=>by simp at hl
 |xs::xss,v::vs,G,B,ρ,H,R,A,hB,hl,hne,h1,h2,h3=>by
  obtain⟨ρ1,hle1,R1,hv,A1⟩:=import_ok R A hB (h2 0) (h1 0 v xs rfl rfl) (hne xs (by simp)) (flat_ok (hg ρ) xs)
  obtain⟨ρ2,hle2,R2,hvs,A2⟩:=impRows_ok hg xss vs (fun i=>G (i+1)) _ ρ1 _ R1 A1 (fun k hk=>hB k hk.1) (by simpa using hl) (fun y hy=>hne y (by simp[hy])) (fun i v' xs' hv' hx'=>h1 (i+1) v' xs' (by simpa using hv') (by simpa using hx')) (fun i k hk=>⟨h2 _ k hk,fun h0=>by have:=h3 _ _ k hk h0;omega⟩) (fun i j k hi hj=>by have:=h3 _ _ k hi hj;omega)
  refine⟨ρ2,Rho.le_trans hle1 hle2,R2,.cons (hv.le hle2) hvs,A2.mono fun k hk=>⟨⟨hk.1,hk.2 0⟩,fun i=>hk.2 (i+1)⟩⟩
theorem raw_cells:∀vs:List Value,cellsOf Enc.raw vs=vs
 | []=>rfl
 |v::vs=>by show v::cellsOf Enc.raw vs=_;rw[raw_cells vs]
end
end Go.Gx
end
section
namespace Go.Gx
open Go Go.Sx
section
variable {P:Program} {gs:Gls} {w0:Base gs} {w:World} {ρ:Rho} {H:GH}
theorem hook_plain {f:Nat} {vs:List Value} {L:List Fact} {V:Value} {g:GV} (hb:HasBody P f) (hm:Meets P f vs.toArray L (fun _:Unit=>V) (fun _ l=>l) (fun _ l=>l)) (R:Rel w0 ρ H w) (hL:∀h∈L,h.p w All) (hv:∀ρ,Rl ρ g V):CallSem P w0 ρ f vs w g H:=by
 refine .inr ⟨hb _ w,(hm w All hL).mono ?_⟩
 rintro e w' ⟨_,rfl,t⟩
 exact⟨V,ρ,rfl,Rho.le_refl _,R.ext' t.old.ext,hv _⟩
theorem hook_graph {α β:Type} {e:Enc α} {g:α->List GV} {e':Enc β} {g':β->List GV} (hg:∀ρ x,RlL ρ (g x) (e.enc x)) (hg':∀ρ x,RlL ρ (g' x) (e'.enc x)) {f:Nat} {vs:List Value} {L:List Fact} {r:List α×List (List β)} (h1:r.1≠[]) (h2:r.2≠[]) (h3:∀xs∈r.2,xs≠[]) (hb:HasBody P f)
  (hm:Meets P f vs.toArray L (fun x:Value×Value×List Value=>Value.agg #[x.1,x.2.1]) (fun x l=>Ar e x.1 r.1::Ar Enc.raw x.2.1 x.2.2::Rws e' x.2.2 r.2::l) (fun _ l=>l)) (R:Rel w0 ρ H w) (hL:∀h∈L,h.p w All):
  CallSem P w0 ρ f vs w (.agg [.sl H.n 0 r.1.length e.sz,.sl (impRows e'.sz g' r.2 (H.new (.cells (r.1.flatMap g)))).2.n 0 r.2.length 1]) ((impRows e'.sz g' r.2 (H.new (.cells (r.1.flatMap g)))).2.new (.cells (impRows e'.sz g' r.2 (H.new (.cells (r.1.flatMap g)))).1)):=by
 refine .inr ⟨hb _ w,(hm w All hL).mono ?_⟩
 rintro en w' ⟨x,rfl,t⟩
 obtain⟨F,O,_⟩:=t.own
 have q0:ArR _ w' (F 0) x.1 r.1:=O.res 0 _ rfl
 have q1:ArR Enc.raw w' (F 1) x.2.1 x.2.2:=O.res 1 _ rfl
 obtain⟨ql,G,q2,q3,q4⟩:(Rws e' x.2.2 r.2).p w' (F 2):=O.res 2 _ rfl
 have R':=R.ext' t.old.ext
 have hF:∀i k,F i k->w.heap.size<=k:=fun i k hk=>by
  rcases(O.rng i k hk).1 with h|h
  ·exact h
  ·exact h.elim
 obtain⟨ρ1,hle1,R1,hv1,A1⟩:=import_ok (B:=fun k=>w.heap.size<=k) R' (fun a o l h1 h2=>Apart.start R a o l h1 h2) (fun k hk=> .inl (Nat.le_trans R.ext.size hk)) (hF 0) q0 h1 (flat_ok (hg ρ) r.1)
 obtain⟨ρ2,hle2,R2,hv2,A2⟩:=impRows_ok hg' r.2 x.2.2 G _ ρ1 _ R1 A1 (fun k hk=> .inl (Nat.le_trans R.ext.size hk.1)) ql h3 q2 (fun i k hk=>⟨hF _ _ (q3 i k hk),fun h0=>by have:=O.dis _ _ k (q3 i k hk) h0;omega⟩) q4
 have hne:x.2.2≠[]:=fun h0=>by rw[h0]at ql;exact h2 (List.eq_nil_of_length_eq_zero ql.symm)
 obtain⟨ρ3,hle3,R3,hv3,_⟩:=import_ok (cs:=(impRows e'.sz g' r.2 (H.new (.cells (r.1.flatMap g)))).1) (F:=F 1) R2 A2 (fun k hk=> .inl (Nat.le_trans R.ext.size hk.1.1)) (fun k hk=>⟨⟨hF _ _ hk,fun h0=>by have:=O.dis _ _ k hk h0;omega⟩,fun i hi=>by have:=O.dis _ _ k hk (q3 i k hi);omega⟩) q1 hne (by rw[raw_cells];exact hv2)
 refine⟨_,ρ3,rfl,Rho.le_trans hle1 (Rho.le_trans hle2 hle3),R3,?_⟩
 refine Rl.agg' (vs:=[x.1,x.2.1]) (.cons ((hv1.le hle2).le hle3) (.cons (by rw[<-ql];exact hv3) .nil)) fun v hv=> ?_
 have one_of:∀{γ:Type} {e:Enc γ} {F:Nat->Prop} {v:Value} {xs:List γ},ArR e w' F v xs->one v=true:=fun h=>by
  obtain⟨_,_,h⟩:=h
  rcases h with⟨rfl,_⟩|⟨b,off,cap,T,cur,rfl,_⟩<;>rfl
 simp at hv
 rcases hv with rfl|rfl
 ·exact one_of q0
 ·exact one_of q1
end
noncomputable section
def dInts (H:GH) (v:GV):Option (List Int):=decS H 1 (dI .i64) v
def dPorts (H:GH) (v:GV):Option (List (List (Int×Int))):=decS H 1 (dS H 2 (dP 1 (dI .i64) (dI .i64))) v
def dGraph (H:GH) (v:GV):Option (List Int×List (List (Int×Int))):=ob v.asA fun cs=>List.casesOn (motive:=fun _=>Option (List Int×List (List (Int×Int)))) cs none fun a r=>List.casesOn (motive:=fun _=>Option (List Int×List (List (Int×Int)))) r none fun b r=>List.casesOn (motive:=fun _=>Option (List Int×List (List (Int×Int)))) r (ob (dInts H a) fun x=>ob (dPorts H b) fun y=>some (x,y)) fun _ _=>none
end
section
variable {P:Program} {gs:Gls} {w0:Base gs} {w:World} {ρ:Rho} {H:GH}
theorem dInts_ok (R:Rel w0 ρ H w) {v:GV} {V:Value} {xs:List Int} (hv:Rl ρ v V) (h:dInts H v=some xs):(Sl (Rep.int .i64) V xs).p w All:=by
 obtain⟨zs,rfl,hz⟩:=decS_ok R (Reads.int .i64) hv h
 rw[List.map_id]
 exact hz
theorem dPorts_ok (R:Rel w0 ρ H w) {v:GV} {V:Value} {xs:List (List (Int×Int))} (hv:Rl ρ v V) (h:dPorts H v=some xs):∃zs,(S2 (Rep.pair (Rep.int .i64) (Rep.int .i64)) V zs xs).p w All:=by
 obtain⟨zs,rfl,hz⟩:=decS_ok R (Reads.sl R (Reads.pair (Reads.int .i64) (Reads.int .i64))) hv h
 exact⟨zs,hz,by simp⟩
theorem dGraph_ok (R:Rel w0 ρ H w) {v:GV} {V:Value} {p:List Int×List (List (Int×Int))} (hv:Rl ρ v V) (h:dGraph H v=some p):∃v0 v1 z2,V = .agg #[v0,v1]∧(Sl (Rep.int .i64) v0 p.1).p w All∧(S2 (Rep.pair (Rep.int .i64) (Rep.int .i64)) v1 z2 p.2).p w All:=by
 obtain⟨cs,hcs,h⟩:=ob_some.1 (show ob v.asA _=some p from h)
 rw[asA_eq hcs]at hv
 obtain⟨vs,rfl,hr,_⟩:=hv.agg_inv
 cases cs with
 |nil=>cases h
 |cons a cs=>
 cases cs with
 |nil=>cases h
 |cons b cs=>
 cases cs with
 |cons _ _=>cases h
 |nil=>
 obtain⟨x,hx,h⟩:=ob_some.1 (show ob (dInts H a) _=some p from h)
 obtain⟨y,hy,h⟩:=ob_some.1 h
 cases h
 obtain⟨v0,vs,rfl,h0,hr⟩:=hr.of_cons
 obtain⟨v1,vs,rfl,h1,hr⟩:=hr.of_cons
 rw[hr.of_nil]
 obtain⟨z2,hz⟩:=dPorts_ok R h1 hy
 exact⟨v0,v1,z2,rfl,dInts_ok R h0 hx,hz⟩
end
end Go.Gx
end
section
namespace Go.Gx
open Go Go.Sx
noncomputable section
section
variable {α R:Type}
def a0 (us:List α) (k:Option R):Option R:=List.casesOn (motive:=fun _=>Option R) us k (fun _ _=>none)
def a1 (us:List α) (k:α->Option R):Option R:=List.casesOn (motive:=fun _=>Option R) us none fun a r=>a0 r (k a)
def a2 (us:List α) (k:α->α->Option R):Option R:=List.casesOn (motive:=fun _=>Option R) us none fun a r=>a1 r (k a)
def a3 (us:List α) (k:α->α->α->Option R):Option R:=List.casesOn (motive:=fun _=>Option R) us none fun a r=>a2 r (k a)
def a4 (us:List α) (k:α->α->α->α->Option R):Option R:=List.casesOn (motive:=fun _=>Option R) us none fun a r=>a3 r (k a)
def a5 (us:List α) (k:α->α->α->α->α->Option R):Option R:=List.casesOn (motive:=fun _=>Option R) us none fun a r=>a4 r (k a)
def a6 (us:List α) (k:α->α->α->α->α->α->Option R):Option R:=List.casesOn (motive:=fun _=>Option R) us none fun a r=>a5 r (k a)
theorem a0_some {us:List α} {k:Option R} {r:R} (h:a0 us k=some r):us=[]∧k=some r:=by
 cases us with
 |nil=>exact⟨rfl,h⟩
 |cons _ _=>cases h
theorem a1_some {us:List α} {k:α->Option R} {r:R} (h:a1 us k=some r):∃x,us=[x]∧k x=some r:=by
 cases us with
 |nil=>cases h
 |cons x us=>obtain⟨rfl,h⟩:=a0_some h;exact⟨x,rfl,h⟩
theorem a2_some {us:List α} {k:α->α->Option R} {r:R} (h:a2 us k=some r):∃x y,us=[x,y]∧k x y=some r:=by
 cases us with
 |nil=>cases h
 |cons x us=>obtain⟨y,rfl,h⟩:=a1_some h;exact⟨x,y,rfl,h⟩
theorem a3_some {us:List α} {k:α->α->α->Option R} {r:R} (h:a3 us k=some r):∃x y z,us=[x,y,z]∧k x y z=some r:=by
 cases us with
 |nil=>cases h
 |cons x us=>obtain⟨y,z,rfl,h⟩:=a2_some h;exact⟨x,y,z,rfl,h⟩
theorem a4_some {us:List α} {k:α->α->α->α->Option R} {r:R} (h:a4 us k=some r):∃x y z u,us=[x,y,z,u]∧k x y z u=some r:=by
 cases us with
 |nil=>cases h
 |cons x us=>obtain⟨y,z,u,rfl,h⟩:=a3_some h;exact⟨x,y,z,u,rfl,h⟩
theorem a5_some {us:List α} {k:α->α->α->α->α->Option R} {r:R} (h:a5 us k=some r):∃x y z u v,us=[x,y,z,u,v]∧k x y z u v=some r:=by
 cases us with
 |nil=>cases h
 |cons x us=>obtain⟨y,z,u,v,rfl,h⟩:=a4_some h;exact⟨x,y,z,u,v,rfl,h⟩
theorem a6_some {us:List α} {k:α->α->α->α->α->α->Option R} {r:R} (h:a6 us k=some r):∃x y z u v w,us=[x,y,z,u,v,w]∧k x y z u v w=some r:=by
 cases us with
 |nil=>cases h
 |cons x us=>obtain⟨y,z,u,v,w,rfl,h⟩:=a5_some h;exact⟨x,y,z,u,v,w,rfl,h⟩
end

def dSc (k:IntKind) (v:GV):Option Int:=ob v.asI fun p=>bif eqK p.1 k then some p.2 else none
def dU32s (H:GH) (v:GV):Option (List Int):=decS H 1 (dI .u32) v
def dNet (H:GH) (v:GV):Option (Int×List Int×List Int×List Int×Bool×Bool):=ob v.asA fun cs=>a6 cs fun a b c d e f=>ob (dSc .i64 a) fun n=>ob (dInts H b) fun x=>ob (dInts H c) fun y=>ob (dInts H d) fun z=>ob e.asB fun p=>ob f.asB fun q=>some (n,x,y,z,p,q)

def gI (n:Int):List GV:=[.int .i64 n]
def gP (p:Int×Int):List GV:=[.int .i64 p.1,.int .i64 p.2]
def fcI {R:Type} (l:List Int):(List Int->R)->R:=List.rec (motive:=fun _=>(List Int->R)->R) (fun k=>k []) (fun x _ ih k=>fi x fun x=>ih fun r=>k (x::r)) l
def fcP {R:Type} (l:List (Int×Int)):(List (Int×Int)->R)->R:=List.rec (motive:=fun _=>(List (Int×Int)->R)->R) (fun k=>k []) (fun x _ ih k=>fi x.1 fun a=>fi x.2 fun b=>ih fun r=>k ((a,b)::r)) l
def fcR {R:Type} (l:List (List (Int×Int))):(List (List (Int×Int))->R)->R:=List.rec (motive:=fun _=>(List (List (Int×Int))->R)->R) (fun k=>k []) (fun x _ ih k=>fcP x fun x=>ih fun r=>k (x::r)) l
theorem fcI_eq {R:Type}:∀(l:List Int) (k:List Int->R),fcI l k=k l
 | [],k=>rfl
 |x::l,k=>by
  show fi x (fun x=>fcI l fun r=>k (x::r))=_
  rw[fi_eq,fcI_eq l]
theorem fcP_eq {R:Type}:∀(l:List (Int×Int)) (k:List (Int×Int)->R),fcP l k=k l
 | [],k=>rfl
 |x::l,k=>by
  show fi x.1 (fun a=>fi x.2 fun b=>fcP l fun r=>k ((a,b)::r))=_
  rw[fi_eq,fi_eq,fcP_eq l]
theorem fcR_eq {R:Type}:∀(l:List (List (Int×Int))) (k:List (List (Int×Int))->R),fcR l k=k l
 | [],k=>rfl
 |x::l,k=>by
  show fcP x (fun x=>fcR l fun r=>k (x::r))=_
  rw[fcP_eq,fcR_eq l]
def oBool (b:Bool) (H:GH):OR:=Bool.casesOn (motive:=fun _=>OR) b (some (.bool false,H)) (some (.bool true,H))
def oGraph (r:List Int×List (List (Int×Int))) (H:GH):OR:=fcI r.1 fun x=>fcR r.2 fun y=>bif Nat.beq x.length 0 then none else bif Nat.beq y.length 0 then none else bif y.any fun l=>Nat.beq l.length 0 then none else
 fc (x.flatMap gI) fun l=>H.newK (.cells l) fun h H1=>fc (impRows 2 gP y H1).1 fun rs=>sn x.length fun n=>sn y.length fun m=>(impRows 2 gP y H1).2.newK (.cells rs) fun h2 H2=>some (.agg [.sl h 0 n 1,.sl h2 0 m 1],H2)
end
section
variable {P:Program} {gs:Gls} {w0:Base gs} {w:World} {ρ:Rho} {H H':GH} {g:GV}
theorem RlL.one {x:GV} {vs:List Value} (h:RlL ρ [x] vs):∃V,vs=[V]∧Rl ρ x V:=by
 obtain⟨v,vs,rfl,h1,h2⟩:=h.of_cons
 rw[h2.of_nil];exact⟨v,rfl,h1⟩
theorem dSc_ok {k:IntKind} {v:GV} {V:Value} {n:Int} (hv:Rl ρ v V) (h:dSc k v=some n):V = .int k n:=by
 obtain⟨p,hp,h⟩:=ob_some.1 (show ob v.asI _=some n from h)
 obtain⟨hk,h⟩:=bif_some.1 h
 cases h
 rw[asI_eq hp]at hv
 rw[hv.int_inv,eqK_eq hk]
theorem asB_ok {v:GV} {V:Value} {b:Bool} (hv:Rl ρ v V) (h:v.asB=some b):V = .bool b:=by
 rw[asB_eq h]at hv;exact hv.bool_inv
theorem dU32s_ok (R:Rel w0 ρ H w) {v:GV} {V:Value} {xs:List Int} (hv:Rl ρ v V) (h:dU32s H v=some xs):(Sl (Rep.int .u32) V xs).p w All:=by
 obtain⟨zs,rfl,hz⟩:=decS_ok R (Reads.int .u32) hv h
 rw[List.map_id]
 exact hz
theorem dNet_ok (R:Rel w0 ρ H w) {v:GV} {V:Value} {p:Int×List Int×List Int×List Int×Bool×Bool} (hv:Rl ρ v V) (h:dNet H v=some p):
  ∃v0 v1 v2,V = .agg #[.int .i64 p.1,v0,v1,v2,.bool p.2.2.2.2.1,.bool p.2.2.2.2.2]∧(Sl (Rep.int .i64) v0 p.2.1).p w All∧(Sl (Rep.int .i64) v1 p.2.2.1).p w All∧(Sl (Rep.int .i64) v2 p.2.2.2.1).p w All:=by
 obtain⟨cs,hcs,h⟩:=ob_some.1 (show ob v.asA _=some p from h)
 obtain⟨a,b,c,d,e,f,rfl,h⟩:=a6_some h
 obtain⟨n,hn,h⟩:=ob_some.1 h
 obtain⟨x,hx,h⟩:=ob_some.1 h
 obtain⟨y,hy,h⟩:=ob_some.1 h
 obtain⟨z,hz,h⟩:=ob_some.1 h
 obtain⟨q,hq,h⟩:=ob_some.1 h
 obtain⟨r,hr,h⟩:=ob_some.1 h
 cases h
 rw[asA_eq hcs]at hv
 obtain⟨vs,rfl,hl,_⟩:=hv.agg_inv
 obtain⟨va,vs,rfl,ha,hl⟩:=hl.of_cons
 obtain⟨vb,vs,rfl,hb,hl⟩:=hl.of_cons
 obtain⟨vc,vs,rfl,hc,hl⟩:=hl.of_cons
 obtain⟨vd,vs,rfl,hd,hl⟩:=hl.of_cons
 obtain⟨ve,vs,rfl,he,hl⟩:=hl.of_cons
 obtain⟨vf,rfl,hf⟩:=hl.one
 have e1:=dSc_ok ha hn
 have e2:=asB_ok he hq
 have e3:=asB_ok hf hr
 subst e1 e2 e3
 exact⟨vb,vc,vd,rfl,dInts_ok R hb hx,dInts_ok R hc hy,dInts_ok R hd hz⟩
theorem oBool_some {b:Bool} (h:oBool b H=some (g,H')):g = .bool b∧H'=H:=by
 cases b<;>cases h<;>exact⟨rfl,rfl⟩
theorem oGraph_some {r:List Int×List (List (Int×Int))} (h:oGraph r H=some (g,H')):r.1≠[]∧r.2≠[]∧(∀xs∈r.2,xs≠[])∧
  g = .agg [.sl H.n 0 r.1.length 1,.sl (impRows 2 gP r.2 (H.new (.cells (r.1.flatMap gI)))).2.n 0 r.2.length 1]∧H'=(impRows 2 gP r.2 (H.new (.cells (r.1.flatMap gI)))).2.new (.cells (impRows 2 gP r.2 (H.new (.cells (r.1.flatMap gI)))).1):=by
 unfold oGraph at h
 rw[fcI_eq,fcR_eq]at h
 obtain⟨h1,h⟩:=bif_some'.1 h
 obtain⟨h2,h⟩:=bif_some'.1 h
 obtain⟨h3,h⟩:=bif_some'.1 h
 rw[fc_eq,GH.newK_eq,fc_eq,sn_eq,sn_eq,GH.newK_eq]at h
 cases h
 refine⟨fun e=>(by rw[e]at h1;cases h1),fun e=>(by rw[e]at h2;cases h2),fun xs hx e=> ?_,rfl,rfl⟩
 have:=List.any_eq_false.1 h3 xs hx
 rw[e]at this
 exact this rfl
theorem gI_ok (ρ:Rho) (x:Int):RlL ρ (gI x) [.int .i64 x]:= .cons (.int _ _) .nil
theorem gP_ok (ρ:Rho) (x:Int×Int):RlL ρ (gP x) [.int .i64 x.1,.int .i64 x.2]:= .cons (.int _ _) (.cons (.int _ _) .nil)
def glb (b:Nat) (cs:List Value) (T:Nat):Gls:=[(b,.cells cs.toArray T (0,0))]
theorem glsOne {b:Nat} {cs:List Value} (w:World) (S:Nat->Prop) (h:∀h∈[Gb b cs],h.p w S):∃T,GlsOk (glb b cs T) w fun _=>False:=by
 obtain⟨_,T,hT⟩:=h _ (List.mem_singleton.2 rfl)
 exact⟨T,fun p hp=>by obtain rfl:=List.mem_singleton.1 hp;exact⟨hT,id⟩⟩
theorem Rel.glb {b:Nat} {cs:List Value} {T:Nat} {w1:Base (glb b cs T)} {w:World} {ρ:Rho} {H:GH} (R:Rel w1 ρ H w):(Gb b cs).p w All:=⟨trivial,T,(R.glo _ (List.mem_singleton.2 rfl)).1⟩
theorem meets_closed {gs:Nat->Gls} {f:Nat} {V:Value} {L:List Fact} (hL:∀w S,(∀h∈L,h.p w S)->∃T,GlsOk (gs T) w fun _=>False) (hb:HasBody P f) (hv:∀ρ V',Rl ρ g V'->V'=V) (h:∀T (b:Base (gs T)),CallSem P b (fun _=>none) f [] b.w g H'):Meets P f #[] L (fun _:Unit=>V) (fun _ l=>l) (fun _ l=>l):=by
 intro w0 S0 hw
 obtain⟨T,hT⟩:=hL w0 S0 hw
 rcases h T (.of w0 hT)with⟨v,w',ρ',hr,_⟩|⟨_,hc⟩
 ·have hq:=hb #[] w0
  rw[show([]:List Value).toArray = #[]from rfl]at hr
  rw[show(Base.of w0 hT).w=w0 from rfl,hq]at hr;cases hr
 ·refine hc.mono ?_
  rintro e w' ⟨v,ρ',rfl,_,R,hr⟩
  exact⟨(),by rw[hv _ _ hr],R.ext,fun _ _=>False,⟨fun i m hm=>by simp at hm,fun i k h=>h.elim,fun i j k h=>h.elim⟩,fun f hf=>by simp at hf⟩

section
variable {tb:TB} {T:TypeId}
theorem alloc_z (h:zeroOf tb T=some [z64]) (H:GH):vAlloc tb T H=some (.ptr H.n 0,H.new (.cells [z64])):=by
 unfold vAlloc
 rw[h]
 show H.newK (.cells [z64]) (fun h H'=>some (GV.ptr h 0,H'))=_
 rw[GH.newK_eq]
theorem store_z {t:Ty} (h:tb T=some t) (hs:t.size=1) (H:GH) (k:Nat) (c:GV) (hc:GH.cells H k=some [c]):vStore tb T (.ptr k 0) z64 H=some (.un,H.set k (.cells [z64])):=by
 show ob (H.cells k) (fun cs=>ob (tb T) fun t=>bif Nat.beq 1 t.size then bif Nat.beq t.size 0 then none else ob (gput [z64] 0 cs) fun cs'=>H.setK k (.cells cs') fun H'=>some (GV.un,H')else none)=_
 rw[hc,h]
 show(bif Nat.beq 1 t.size then bif Nat.beq t.size 0 then none else ob (gput [z64] 0 [c]) fun cs'=>H.setK k (.cells cs') fun H'=>some (GV.un,H')else none)=_
 rw[hs]
 show H.setK k (.cells [z64]) (fun H'=>some (GV.un,H'))=_
 rw[GH.setK_eq]
theorem load_z {t:Ty} (h:tb T=some t) (ha:aggD t.desc=false) (H:GH) (k:Nat) (hc:GH.cells H k=some [z64]):vLoad tb T (.ptr k 0) H=some z64:=by
 show ob (H.cells k) (fun cs=>ob (tb T) fun t=>ofCells t cs 0)=_
 rw[hc,h]
 show ofCells t [z64] 0=_
 unfold ofCells
 rw[ha];rfl
end
def bodyOps (fn:Func):List Oper:=match fn.body with
 |some (.seq (.region _ ops _) _)=>ops.toList
 |_=>[]
def bodyRest (fn:Func):Code:=match fn.body with
 |some (.seq _ c)=>c
 |_=> .skip
def bodyDst (fn:Func):Nat:=match bodyOps fn with
 |o::_=>o.dst.getD 0
 | []=>0
def okN (r:RS):Bool:=match r with
 |some o=>match o.e with
  | .normal=>true
  |_=>false
 |none=>false
theorem okN_spec {r:RS} (h:okN r=true):∃out,r=some out∧out.e = .normal:=by
 unfold okN at h
 cases r with
 |none=>cases h
 |some o=>
  refine⟨o,rfl,?_⟩
  cases he:o.e<;>simp only[he]at h<;>first|rfl|cases h
def okT (r:OR):Bool:=match r with
 |some (.bool true,_)=>true
 |_=>false
theorem okT_spec {r:OR} (h:okT r=true):∃H',r=some (.bool true,H'):=by
 unfold okT at h
 split at h
 ·exact⟨_,rfl⟩
 ·cases h
end
end Go.Gx
end
section
namespace Go.Proofs.YtfbkplemadmbfaaGreatDoor
open Go.Sx
def world_Within_k1  (a4:Int):Option (Int):=
 some (a4)
def m_world_Within (fuel:Nat) (p0:Int) (p1:Int):Option (Int):=
 if p1<(1:Int)then(some (0:Int))else(ck (p1≠0) (if(Int.tmod p0 p1)<(0:Int)then(world_Within_k1  (wI .i64 ((Int.tmod p0 p1)+p1)))else(world_Within_k1  (Int.tmod p0 p1))))
theorem body64:HasBody Tryz.prog 64:=Tryz.call64
theorem t_world_Within (fuel:Nat) {p0:Int} {p1:Int} (r:Int) (h:m_world_Within fuel p0 p1=some r):
  Meets Tryz.prog 64 #[Value.int .i64 (p0),Value.int .i64 (p1)] [] (fun x:Unit=>Value.int .i64 (r)) (fun x l=>l) (fun _ l=>l):=by
 refine Meets.of (vs:=[Value.int .i64 (p0),Value.int .i64 (p1)]) Tryz.func64 rfl Tryz.ntmps64 rfl fun c=> ?_
 unfold m_world_Within at h
 refine J.seq<|J.region<|J.quiet (Y.assign rfl) rfl<|J.done<|J.thenN<|J.seq<|J.seq<|J.region<|J.quiet (Y.move rfl) rfl<|J.quiet (Y.lss rfl rfl) rfl<|J.done<|J.thenN ?_
 refine J.condD (by exact rfl) (fun hp1=> ?_) (fun hp1=> ?_)
 ·have h:=ifP hp1 h
  refine J.seq<|J.region<|J.quiet (Y.assign rfl) rfl<|J.done<|J.thenN<|J.ret<|J.thenR ?_
  obtain rfl:=Option.some.inj h
  exact J.retG1 (()) rfl rfl (RV.tmp rfl) (SubM.refl _) LentAll.nil
 ·have h:=ifN hp1 h
  refine J.skip<|J.thenN<|J.seq<|J.region<|J.quiet (Y.move rfl) rfl<|J.quiet (Y.move rfl) rfl ?_
  have h:=ck_some h;obtain⟨hc2,h⟩:=h
  refine J.quiet (Y.rem rfl rfl hc2) rfl<|J.quiet (Y.assign rfl) rfl<|J.done<|J.thenN<|J.seq<|J.midI (A:=Int) (B:=Unit) (fun a4=>world_Within_k1  a4=some r) (fun a4 b5=>[(0,Value.int .i64 (a4))]) (fun a4 b5=>[]) (fun a4 b5=>[]) ?_ ?_
  ·refine J.seq<|J.region<|J.quiet (Y.move rfl) rfl<|J.quiet (Y.lss rfl rfl) rfl<|J.done<|J.thenN ?_
   refine J.condD (by exact rfl) (fun hp6=> ?_) (fun hp6=> ?_)
   ·have h:=ifP hp6 h
    refine J.region<|J.quiet (Y.move rfl) rfl<|J.quiet (Y.move rfl) rfl<|J.quiet (Y.addW rfl rfl) rfl<|J.quiet (Y.assign rfl) rfl<|J.done<|J.thenN ?_
    exact J.meetI (wI .i64 ((Int.tmod p0 p1)+p1)) (()) h SF (SubM.refl _) (LentAll.refl _ _)
   ·have h:=ifN hp6 h
    refine J.skip<|J.thenN ?_
    exact J.meetI (Int.tmod p0 p1) (()) h SF (SubM.refl _) (LentAll.refl _ _)
  ·clear h
   intro a4 b5 h
   unfold world_Within_k1 at h
   refine J.seq<|J.region<|J.quiet (Y.move rfl) rfl<|J.quiet (Y.assign rfl) rfl<|J.done<|J.thenN<|J.ret ?_
   obtain rfl:=Option.some.inj h
   exact J.retG1 (()) rfl rfl (RV.tmp rfl) (SubM.refl _) LentAll.nil
end Go.Proofs.YtfbkplemadmbfaaGreatDoor
end
section
namespace Go.Proofs.YtfbkplemadmbfaaGreatDoor
open Go.Sx
def m_world_at (fuel:Nat) (p0:List (Int)) (p1:Int):Option (Int):=
 if p1<(List.length p0:Int)then(ck (0<=p1∧p1<(List.length p0:Int)) (some (at' p0 p1)))else(some (0:Int))
theorem body65:HasBody Tryz.prog 65:=Tryz.call65
theorem t_world_at (fuel:Nat) {p0:List (Int)} {p1:Int} (v0:Value) (r:Int) (h:m_world_at fuel p0 p1=some r):
  Meets Tryz.prog 65 #[v0,Value.int .i64 (p1)] [Sl RI64 v0 p0] (fun x:Unit=>Value.int .i64 (r)) (fun x l=>l) (fun _ l=>l):=by
 refine Meets.of (vs:=[v0,Value.int .i64 (p1)]) Tryz.func65 rfl Tryz.ntmps65 rfl fun c=> ?_
 unfold m_world_at at h
 refine J.seq<|J.region<|J.quiet (Y.assign rfl) rfl<|J.done<|J.thenN<|J.seq<|J.seq<|J.region<|J.quiet (Y.move rfl) rfl<|J.quiet (Y.move rfl) rfl<|J.quiet (Y.lenS rfl (Lent.fact 0 rfl) rfl) rfl<|J.quiet (Y.lss rfl rfl) rfl<|J.done<|J.thenN ?_
 refine J.condD (by exact rfl) (fun hp1=> ?_) (fun hp1=> ?_)
 ·have h:=ifP hp1 h
  refine J.seq<|J.region<|J.quiet (Y.move rfl) rfl<|J.quiet (Y.move rfl) rfl ?_
  have h:=ck_some h;obtain⟨hc2,h⟩:=h
  refine J.quiet (Y.indexS rfl rfl (Lent.fact 0 rfl) rfl rfl hc2) rfl<|J.quiet (Y.loadS0 rfl (Lent.fact 0 rfl) rfl rfl rfl RI64c0 hc2) rfl<|J.quiet (Y.assign rfl) rfl<|J.done<|J.thenN<|J.ret<|J.thenR ?_
  obtain rfl:=Option.some.inj h
  exact J.retG1 (()) rfl rfl (RV.tmp rfl) (SubM.refl _) LentAll.nil
 ·have h:=ifN hp1 h
  refine J.skip<|J.thenN<|J.seq<|J.region<|J.quiet (Y.assign rfl) rfl<|J.done<|J.thenN<|J.ret ?_
  obtain rfl:=Option.some.inj h
  exact J.retG1 (()) rfl rfl (RV.tmp rfl) (SubM.refl _) LentAll.nil
end Go.Proofs.YtfbkplemadmbfaaGreatDoor
end
section
namespace Go.Proofs.YtfbkplemadmbfaaGreatDoor
open Go.Sx
def _world_Net__nodes_k1 (r3:Int) (a13:List (Int)):Option ((List (Int)×(List (List (Int×Int))))):=
 some ((a13,(List.replicate (Int.toNat (wI .i64 ((1:Int)+r3))) ([]:List (Int×Int)))))
def _world_Net__nodes_k2 (a21:Int×List (Int)) (ag20:(Int×List (Int))->Option ((List (Int)×(List (List (Int×Int)))))) (a32:Int):Option ((List (Int)×(List (List (Int×Int))))):=
 ck ((List.length a21.2:Int)+(List.length ([a32]):Int)<=1099511627) (ag20 ((wI .i64 (a21.1+(1:Int))),(a21.2++[a32])))
def _world_Net__nodes_k3 (ag40:(Int×Int)->Option ((List (Int)×(List (List (Int×Int)))))) (a47:Int×Int):Option ((List (Int)×(List (List (Int×Int))))):=
 ag40 (a47.1,(wI .i64 (a47.2+(1:Int))))
def _world_Net__nodes_s2 (a21:Int×List (Int)) (ag20:(Int×List (Int))->Option ((List (Int)×(List (List (Int×Int)))))) (a41:Int×Int) (ag40:(Int×Int)->Option ((List (Int)×(List (List (Int×Int)))))):Option ((List (Int)×(List (List (Int×Int))))):=
 if a41.2<a21.1 then(ck (0<=a41.2∧a41.2<(List.length a21.2:Int)) (if(at' a21.2 a41.2)=a41.1 then(ck ((256:Int)≠0) (_world_Net__nodes_k3 ag40 ((Int.tmod (wI .i64 (a41.1+(1:Int))) (256:Int)),(-1:Int))))else(_world_Net__nodes_k3 ag40 (a41.1,a41.2))))else(_world_Net__nodes_k2 a21 ag20 (a41.1))
def _world_Net__nodes_s1 (fuel:Nat) (p0:Int×List (Int)×List (Int)×List (Int)×Bool×Bool) (r3:Int) (a21:Int×List (Int)) (ag20:(Int×List (Int))->Option ((List (Int)×(List (List (Int×Int)))))):Option ((List (Int)×(List (List (Int×Int))))):=
 if a21.1<(wI .i64 ((1:Int)+r3))then(Option.bind (m_world_at fuel p0.2.2.2.1 a21.1) fun r25=>(Option.bind (m_world_Within fuel r25 (256:Int)) fun r28=>(iter (_world_Net__nodes_s2 a21 ag20) fuel (r28,(0:Int)))))else(_world_Net__nodes_k1 r3 (a21.2))
def m__world_Net__nodes (fuel:Nat) (p0:Int×List (Int)×List (Int)×List (Int)×Bool×Bool) (p1:Int):Option ((List (Int)×(List (List (Int×Int))))):=
 Option.bind (m_world_Within fuel (wI .i64 (p0.1 - (1:Int))) p1) fun r3=>(ck (0<=(wI .i64 ((1:Int)+r3))∧(wI .i64 ((1:Int)+r3))<=1099511627) (iter (_world_Net__nodes_s1 fuel p0 r3) fuel ((0:Int),([]:List Int))))
theorem body62:HasBody Tryz.prog 62:=Tryz.call62
theorem t__world_Net__nodes (fuel:Nat) {p0:Int×List (Int)×List (Int)×List (Int)×Bool×Bool} {p1:Int} (v0:Value)  (v1:Value)  (v2:Value) (r:(List (Int)×(List (List (Int×Int))))) (h:m__world_Net__nodes fuel p0 p1=some r):
  Meets Tryz.prog 62 #[Value.agg #[Value.int .i64 (p0.1),v0,v1,v2,Value.bool (p0.2.2.2.2.1),Value.bool (p0.2.2.2.2.2)],Value.int .i64 (p1)] [Sl RI64 v0 p0.2.1,Sl RI64 v1 p0.2.2.1,Sl RI64 v2 p0.2.2.2.1] (fun x:Value×Value×List Value=>Value.agg #[x.1,x.2.1]) (fun x l=>Ar EI64 x.1 r.1::Ar Enc.raw x.2.1 x.2.2::Rws EI64I64p x.2.2 r.2::l) (fun _ l=>l):=by
 refine Meets.of (vs:=[Value.agg #[Value.int .i64 (p0.1),v0,v1,v2,Value.bool (p0.2.2.2.2.1),Value.bool (p0.2.2.2.2.2)],Value.int .i64 (p1)]) Tryz.func62 rfl Tryz.ntmps62 rfl fun c=> ?_
 unfold m__world_Net__nodes at h
 refine J.seq<|J.region<|J.loud (Loud.box (cs:=[Value.int .i64 (p0.1),v0,v1,v2,Value.bool (p0.2.2.2.2.1),Value.bool (p0.2.2.2.2.2)]) rfl rfl) rfl fun b1=>J.loud (Loud.alloc (cs:=[Value.slice none 0 0,Value.slice none 0 0]) rfl rfl) rfl fun b2=>J.done<|J.thenN<|J.seq<|J.region<|J.quiet (Y.fieldB rfl rfl rfl rfl rfl) rfl<|J.quiet (Y.loadB 1 rfl rfl rfl rfl rfl) rfl<|J.quiet (Y.subW rfl rfl) rfl<|J.quiet (Y.move rfl) rfl ?_
 have h:=bnd h;obtain⟨r3,hr4,h⟩:=h
 refine J.loud (Loud.callL body64 (t_world_Within fuel  r3 hr4) rfl .nil (fun _ _=>rfl)) rfl fun x5=>J.quiet (Y.addW rfl rfl) rfl<|J.quiet (Y.assign rfl) rfl<|J.done<|J.thenN<|J.seq<|J.region<|J.quiet (Y.move rfl) rfl ?_
 have h:=ck_some h;obtain⟨hc6,h⟩:=h
 refine J.stp (Stp.rowsNew EI64I64p (Int.toNat (wI .i64 ((1:Int)+r3))))<|J.loud (Loud.makeS (e:=Enc.raw) (Value.slice none 0 0) rfl rfl rfl rfl hc6 rfl rfl rfl) rfl fun u7=>J.know (Know.one (Lent.sl (Lent.rows (i:=0) (j:=1) rfl rfl FI64I64p))) fun ho8=> ?_
 refine J.quiet (Y.bld1 (r:=Value.agg #[Value.slice none 0 0,u7]) rfl (by intro w;simp[Instr.build,Instr.fill,cells_intV,cells_boolV,cells_sliceV,cells_ptrV,cells_strV,cells_funcV,cells_agg,one_cells ho8])) rfl ?_
 refine J.loud (Loud.alloc (cs:=[Value.slice none 0 0,Value.slice none 0 0]) rfl rfl) rfl fun b9=>J.know (Know.one (Lent.sl (Lent.rows (i:=1) (j:=2) rfl rfl FI64I64p))) fun ho10=>J.storeAll 0 (vs:=[Value.slice none 0 0,u7]) rfl rfl (all1 rfl (all1 ho10 rfl)) rfl rfl rfl<|J.done<|J.thenN<|J.seq<|J.midI (A:=List (Int)) (B:=Value) (fun a13=>_world_Net__nodes_k1 r3 a13=some r) (fun a13 b14=>[(4,Value.pointer (some ⟨b2,0,none⟩)),(6,Value.pointer (some ⟨b9,0,none⟩))]) (fun a13 b14=>[Blk b9 [b14,u7] 25,Ar Enc.raw u7 (List.replicate (Int.toNat (wI .i64 ((1:Int)+r3))) (Value.slice none 0 0)),Rws EI64I64p (List.replicate (Int.toNat (wI .i64 ((1:Int)+r3))) (Value.slice none 0 0)) (List.replicate (Int.toNat (wI .i64 ((1:Int)+r3))) ([]:List (Int×Int))),Blk b2 [Value.slice none 0 0,Value.slice none 0 0] 25,Ar EI64 b14 a13]) (fun a13 b14=>[Sl RI64 v0 p0.2.1,Sl RI64 v1 p0.2.2.1,Sl RI64 v2 p0.2.2.2.1]) ?_ ?_
 ·refine J.seq<|J.region<|J.quiet (Y.assign rfl) rfl<|J.done<|J.thenN<|J.block<|J.stp (Stp.nilAr EI64)<|J.loopI (A:=Int×List (Int)) (B:=Value) (_world_Net__nodes_s1 fuel p0 r3) (fun a21 b22=>[(2,Value.pointer (some ⟨b1,0,none⟩)),(4,Value.pointer (some ⟨b2,0,none⟩)),(5,Value.int .i64 (wI .i64 ((1:Int)+r3))),(6,Value.pointer (some ⟨b9,0,none⟩)),(7,Value.int .i64 (a21.1))]) (fun a21 b22=>[Blk b9 [b22,u7] 25,Ar Enc.raw u7 (List.replicate (Int.toNat (wI .i64 ((1:Int)+r3))) (Value.slice none 0 0)),Rws EI64I64p (List.replicate (Int.toNat (wI .i64 ((1:Int)+r3))) (Value.slice none 0 0)) (List.replicate (Int.toNat (wI .i64 ((1:Int)+r3))) ([]:List (Int×Int))),Blk b2 [Value.slice none 0 0,Value.slice none 0 0] 25,Blk b1 [Value.int .i64 (p0.1),v0,v1,v2,Value.bool (p0.2.2.2.2.1),Value.bool (p0.2.2.2.2.2)] 38,Ar EI64 b22 a21.2]) (fun a21 b22=>[Sl RI64 v0 p0.2.1,Sl RI64 v1 p0.2.2.1,Sl RI64 v2 p0.2.2.2.1]) ((0:Int),([]:List Int)) (Value.slice none 0 0) h SF (SubM.cons 1 rfl (SubM.cons 1 rfl (SubM.cons 1 rfl (SubM.cons 1 rfl (SubM.cons 1 rfl (SubM.cons 0 rfl (SubM.nil))))))) (LentAll.refl _ _) ?_
  clear h
  intro k23 a21 b22 h
  unfold _world_Net__nodes_s1 at h
  refine J.seq<|J.seq<|J.region<|J.quiet (Y.move rfl) rfl<|J.quiet (Y.move rfl) rfl<|J.quiet (Y.lss rfl rfl) rfl<|J.done<|J.thenN ?_
  refine J.condD (by exact rfl) (fun hp24=> ?_) (fun hp24=> ?_)
  ·have h:=ifP hp24 h
   refine J.skip<|J.thenN<|J.seq<|J.block<|J.seq<|J.region<|J.quiet (Y.fieldB rfl rfl rfl rfl rfl) rfl<|J.quiet (Y.loadB 4 rfl rfl rfl rfl rfl) rfl<|J.quiet (Y.move rfl) rfl ?_
   have h:=bnd h;obtain⟨r25,hr26,h⟩:=h
   refine J.loud (Loud.callL body65 (t_world_at fuel v2 r25 hr26) rfl (LentAll.cons (Lent.fact 2 rfl) .nil) (fun _ _=>rfl)) rfl fun x27=> ?_
   have h:=bnd h;obtain⟨r28,hr29,h⟩:=h
   refine J.loud (Loud.callL body64 (t_world_Within fuel  r28 hr29) rfl .nil (fun _ _=>rfl)) rfl fun x30=>J.quiet (Y.assign rfl) rfl<|J.done<|J.thenN<|J.seq<|J.midI (A:=Int) (B:=Unit) (fun a32=>_world_Net__nodes_k2 a21 (iter (_world_Net__nodes_s1 fuel p0 r3) k23) a32=some r) (fun a32 b33=>[(2,Value.pointer (some ⟨b1,0,none⟩)),(4,Value.pointer (some ⟨b2,0,none⟩)),(5,Value.int .i64 (wI .i64 ((1:Int)+r3))),(6,Value.pointer (some ⟨b9,0,none⟩)),(7,Value.int .i64 (a21.1)),(8,Value.int .i64 (a32))]) (fun a32 b33=>[Blk b9 [b22,u7] 25,Ar Enc.raw u7 (List.replicate (Int.toNat (wI .i64 ((1:Int)+r3))) (Value.slice none 0 0)),Rws EI64I64p (List.replicate (Int.toNat (wI .i64 ((1:Int)+r3))) (Value.slice none 0 0)) (List.replicate (Int.toNat (wI .i64 ((1:Int)+r3))) ([]:List (Int×Int))),Blk b2 [Value.slice none 0 0,Value.slice none 0 0] 25,Blk b1 [Value.int .i64 (p0.1),v0,v1,v2,Value.bool (p0.2.2.2.2.1),Value.bool (p0.2.2.2.2.2)] 38,Ar EI64 b22 a21.2]) (fun a32 b33=>[Sl RI64 v0 p0.2.1,Sl RI64 v1 p0.2.2.1,Sl RI64 v2 p0.2.2.2.1]) ?_ ?_
   ·refine J.seq<|J.region<|J.quiet (Y.assign rfl) rfl<|J.done<|J.thenN<|J.block<|J.loopI (A:=Int×Int) (B:=Unit) (_world_Net__nodes_s2 a21 (iter (_world_Net__nodes_s1 fuel p0 r3) k23)) (fun a41 b42=>[(2,Value.pointer (some ⟨b1,0,none⟩)),(4,Value.pointer (some ⟨b2,0,none⟩)),(5,Value.int .i64 (wI .i64 ((1:Int)+r3))),(6,Value.pointer (some ⟨b9,0,none⟩)),(7,Value.int .i64 (a21.1)),(8,Value.int .i64 (a41.1)),(9,Value.int .i64 (a41.2))]) (fun a41 b42=>[Blk b9 [b22,u7] 25,Ar Enc.raw u7 (List.replicate (Int.toNat (wI .i64 ((1:Int)+r3))) (Value.slice none 0 0)),Rws EI64I64p (List.replicate (Int.toNat (wI .i64 ((1:Int)+r3))) (Value.slice none 0 0)) (List.replicate (Int.toNat (wI .i64 ((1:Int)+r3))) ([]:List (Int×Int))),Blk b2 [Value.slice none 0 0,Value.slice none 0 0] 25,Blk b1 [Value.int .i64 (p0.1),v0,v1,v2,Value.bool (p0.2.2.2.2.1),Value.bool (p0.2.2.2.2.2)] 38,Ar EI64 b22 a21.2]) (fun a41 b42=>[Sl RI64 v0 p0.2.1,Sl RI64 v1 p0.2.2.1,Sl RI64 v2 p0.2.2.2.1]) (r28,(0:Int)) (()) h SF (SubM.refl _) (LentAll.refl _ _) ?_
    clear h
    intro k43 a41 b42 h
    unfold _world_Net__nodes_s2 at h
    refine J.seq<|J.seq<|J.region<|J.quiet (Y.move rfl) rfl<|J.quiet (Y.move rfl) rfl<|J.quiet (Y.lss rfl rfl) rfl<|J.done<|J.thenN ?_
    refine J.condD (by exact rfl) (fun hp44=> ?_) (fun hp44=> ?_)
    ·have h:=ifP hp44 h
     refine J.skip<|J.thenN<|J.seq<|J.midI (A:=Int×Int) (B:=Unit) (fun a47=>_world_Net__nodes_k3 (iter (_world_Net__nodes_s2 a21 (iter (_world_Net__nodes_s1 fuel p0 r3) k23)) k43) a47=some r) (fun a47 b48=>[(2,Value.pointer (some ⟨b1,0,none⟩)),(4,Value.pointer (some ⟨b2,0,none⟩)),(5,Value.int .i64 (wI .i64 ((1:Int)+r3))),(6,Value.pointer (some ⟨b9,0,none⟩)),(7,Value.int .i64 (a21.1)),(8,Value.int .i64 (a47.1)),(9,Value.int .i64 (a47.2))]) (fun a47 b48=>[Blk b9 [b22,u7] 25,Ar Enc.raw u7 (List.replicate (Int.toNat (wI .i64 ((1:Int)+r3))) (Value.slice none 0 0)),Rws EI64I64p (List.replicate (Int.toNat (wI .i64 ((1:Int)+r3))) (Value.slice none 0 0)) (List.replicate (Int.toNat (wI .i64 ((1:Int)+r3))) ([]:List (Int×Int))),Blk b2 [Value.slice none 0 0,Value.slice none 0 0] 25,Blk b1 [Value.int .i64 (p0.1),v0,v1,v2,Value.bool (p0.2.2.2.2.1),Value.bool (p0.2.2.2.2.2)] 38,Ar EI64 b22 a21.2]) (fun a47 b48=>[Sl RI64 v0 p0.2.1,Sl RI64 v1 p0.2.2.1,Sl RI64 v2 p0.2.2.2.1]) ?_ ?_
     ·refine J.block<|J.seq<|J.region<|J.quiet (Y.fieldB rfl rfl rfl rfl rfl) rfl<|J.quiet (Y.loadB 0 rfl rfl rfl rfl rfl) rfl<|J.quiet (Y.move rfl) rfl ?_
      have h:=ck_some h;obtain⟨hc49,h⟩:=h
      refine J.quiet (Y.indexS rfl rfl (Lent.ar (Lent.res 5 rfl) FI64) rfl rfl hc49) rfl<|J.quiet (Y.loadS0 rfl (Lent.ar (Lent.res 5 rfl) FI64) rfl rfl rfl RI64c0 hc49) rfl<|J.quiet (Y.move rfl) rfl<|J.quiet (Y.eql rfl rfl) rfl<|J.done<|J.thenN ?_
      refine J.condD (by exact rfl) (fun hp50=> ?_) (fun hp50=> ?_)
      ·have h:=ifP hp50 h
       refine J.region<|J.quiet (Y.move rfl) rfl<|J.quiet (Y.addW rfl rfl) rfl ?_
       have h:=ck_some h;obtain⟨hc51,h⟩:=h
       refine J.quiet (Y.rem rfl rfl hc51) rfl<|J.quiet (Y.assign rfl) rfl<|J.quiet (Y.assign rfl) rfl<|J.done<|J.inN<|J.thenN ?_
       exact J.meetI ((Int.tmod (wI .i64 (a41.1+(1:Int))) (256:Int)),(-1:Int)) (()) h SF (SubM.refl _) (LentAll.refl _ _)
      ·have h:=ifN hp50 h
       refine J.skip<|J.inN<|J.thenN ?_
       exact J.meetI (a41.1,a41.2) (()) h SF (SubM.refl _) (LentAll.refl _ _)
     ·clear h
      intro a47 b48 h
      unfold _world_Net__nodes_k3 at h
      refine J.region<|J.quiet (Y.move rfl) rfl<|J.quiet (Y.addW rfl rfl) rfl<|J.quiet (Y.assign rfl) rfl<|J.done<|J.thenN ?_
      exact J.againI (a47.1,(wI .i64 (a47.2+(1:Int)))) (()) h SF (SubM.refl _) (LentAll.refl _ _)
    ·have h:=ifN hp44 h
     refine J.exit<|J.thenX<|J.thenX<|J.inX<|J.thenN ?_
     exact J.meetI (a41.1) (()) h SF (SubM.refl _) (LentAll.refl _ _)
   ·clear h
    intro a32 b33 h
    unfold _world_Net__nodes_k2 at h
    refine J.region<|J.quiet (Y.fieldB rfl rfl rfl rfl rfl) rfl<|J.quiet (Y.loadB 0 rfl rfl rfl rfl rfl) rfl<|J.quiet (Y.move rfl) rfl<|J.loud (Loud.buildS (e:=EI64) ([a32]) [(0,Value.int .i64 (a32))] rfl rfl rfl rfl (fill_1_1 (Value.int .i64 (a32)) rfl) rfl rfl rfl) rfl fun u34=> ?_
    have h:=ck_some h;obtain⟨hc36,h⟩:=h
    refine J.loud (Loud.appendL 6 FI64 rfl rfl rfl (Lent.ar (Lent.res 0 rfl) FI64) rfl rfl rfl rfl hc36 rfl) rfl fun u35=>J.quiet (Y.fieldB rfl rfl rfl rfl rfl) rfl<|J.know (Know.one ((Lent.ar (Lent.res 6 rfl) FI64))) fun ho37=>J.store1 1 rfl rfl ho37 rfl rfl rfl<|J.done<|J.inN<|J.thenN<|J.region<|J.quiet (Y.move rfl) rfl<|J.quiet (Y.addW rfl rfl) rfl<|J.quiet (Y.assign rfl) rfl<|J.done<|J.thenN ?_
    exact J.againI ((wI .i64 (a21.1+(1:Int))),(a21.2++[a32])) (u35) h SF (SubM.cons 1 rfl (SubM.cons 1 rfl (SubM.cons 1 rfl (SubM.cons 1 rfl (SubM.cons 1 rfl (SubM.cons 1 rfl (SubM.nil))))))) (LentAll.refl _ _)
  ·have h:=ifN hp24 h
   refine J.exit<|J.thenX<|J.thenX<|J.inX<|J.thenN ?_
   exact J.meetI (a21.2) (b22) h SF (SubM.cons 0 rfl (SubM.cons 0 rfl (SubM.cons 0 rfl (SubM.cons 0 rfl (SubM.cons 1 rfl (SubM.nil)))))) (LentAll.refl _ _)
 ·clear h
  intro a13 b14 h
  unfold _world_Net__nodes_k1 at h
  refine J.seq<|J.region<|J.quiet (Y.loadBAll 0 rfl rfl rfl rfl) rfl<|J.know (Know.one ((Lent.ar (Lent.res 4 rfl) FI64))) fun ho15=>J.know (Know.one (Lent.sl (Lent.rows (i:=1) (j:=2) rfl rfl FI64I64p))) fun ho16=>J.storeAll 3 (vs:=[b14,u7]) rfl rfl (all1 ho15 (all1 ho16 rfl)) rfl rfl rfl<|J.done<|J.thenN<|J.ret ?_
  obtain rfl:=Option.some.inj h
  exact J.retG1 (b14,u7,(List.replicate (Int.toNat (wI .i64 ((1:Int)+r3))) (Value.slice none 0 0))) rfl rfl (RV.cell 3 rfl rfl rfl rfl) (SubM.cons 4 rfl (SubM.cons 1 rfl (SubM.cons 1 rfl (SubM.nil)))) LentAll.nil
end Go.Proofs.YtfbkplemadmbfaaGreatDoor
end
section
namespace Go.Proofs.YtfbkplemadmbfaaGreatDoor
open Go.Sx
def world_linked_k1  (a2:Unit):Option (Bool):=
 some (false)
def world_linked_s1 (p0:List (Int)×(List (List (Int×Int)))) (p1:Int) (p2:Int) (a6:Int) (ag5:(Int)->Option (Bool)):Option (Bool):=
 ck (0<=p1∧p1<(List.length p0.2:Int)) (if a6<(List.length (at' p0.2 p1):Int)then(ck (0<=p1∧p1<(List.length p0.2:Int)) (ck (0<=a6∧a6<(List.length (at' p0.2 p1):Int)) (if((at' (at' p0.2 p1) a6).1)=p2 then(some (true))else(ag5 (wI .i64 (a6+(1:Int)))))))else(world_linked_k1  (())))
def m_world_linked (fuel:Nat) (p0:List (Int)×(List (List (Int×Int)))) (p1:Int) (p2:Int):Option (Bool):=
 iter (world_linked_s1 p0 p1 p2) fuel (0:Int)
theorem body93:HasBody Tryz.prog 93:=Tryz.call93
theorem t_world_linked (fuel:Nat) {p0:List (Int)×(List (List (Int×Int)))} {p1:Int} {p2:Int} (v0:Value)  (v1:Value)  (z2:List (Value×List (Int×Int))) (r:Bool) (h:m_world_linked fuel p0 p1 p2=some r):
  Meets Tryz.prog 93 #[Value.agg #[v0,v1],Value.int .i64 (p1),Value.int .i64 (p2)] [Sl RI64 v0 p0.1,S2 RI64I64p v1 z2 p0.2] (fun x:Unit=>Value.bool (r)) (fun x l=>l) (fun _ l=>l):=by
 refine Meets.of (vs:=[Value.agg #[v0,v1],Value.int .i64 (p1),Value.int .i64 (p2)]) Tryz.func93 rfl Tryz.ntmps93 rfl fun c=> ?_
 unfold m_world_linked at h
 refine J.seq<|J.region<|J.loud (Loud.box (cs:=[v0,v1]) rfl rfl) rfl fun b1=>J.quiet (Y.assign rfl) rfl<|J.done<|J.thenN<|J.seq<|J.midI (A:=Unit) (B:=Unit) (fun a2=>world_linked_k1  a2=some r) (fun a2 b3=>[]) (fun a2 b3=>[]) (fun a2 b3=>[Sl RI64 v0 p0.1,S2 RI64I64p v1 z2 p0.2]) ?_ ?_
 ·refine J.seq<|J.region<|J.quiet (Y.assign rfl) rfl<|J.done<|J.thenN<|J.block<|J.loopI (A:=Int) (B:=Unit) (world_linked_s1 p0 p1 p2) (fun a6 b7=>[(1,Value.int .i64 (p1)),(2,Value.int .i64 (p2)),(3,Value.pointer (some ⟨b1,0,none⟩)),(7,Value.int .i64 (a6))]) (fun a6 b7=>[Blk b1 [v0,v1] 25]) (fun a6 b7=>[Sl RI64 v0 p0.1,S2 RI64I64p v1 z2 p0.2]) (0:Int) (()) h SF (SubM.refl _) (LentAll.refl _ _) ?_
  clear h
  intro k8 a6 b7 h
  unfold world_linked_s1 at h
  refine J.seq<|J.seq<|J.region<|J.quiet (Y.move rfl) rfl<|J.quiet (Y.fieldB rfl rfl rfl rfl rfl) rfl<|J.quiet (Y.loadB 0 rfl rfl rfl rfl rfl) rfl<|J.quiet (Y.move rfl) rfl ?_
  have h:=ck_some h;obtain⟨hc9,h⟩:=h
  refine J.quiet (Y.indexN rfl rfl (Lent.fact 1 rfl) rfl rfl hc9) rfl<|J.quiet (Y.loadRow rfl (Lent.fact 1 rfl) rfl rfl hc9) rfl<|J.quiet (Y.lenS rfl (Lent.el (Lent.fact 1 rfl) hc9.1 hc9.2) rfl) rfl<|J.quiet (Y.lss rfl rfl) rfl<|J.done<|J.thenN ?_
  refine J.condD (by exact rfl) (fun hp10=> ?_) (fun hp10=> ?_)
  ·have h:=ifP hp10 h
   refine J.skip<|J.thenN<|J.seq<|J.block<|J.seq<|J.region<|J.quiet (Y.fieldB rfl rfl rfl rfl rfl) rfl<|J.quiet (Y.loadB 0 rfl rfl rfl rfl rfl) rfl<|J.quiet (Y.move rfl) rfl ?_
   have h:=ck_some h;obtain⟨hc11,h⟩:=h
   refine J.quiet (Y.indexN rfl rfl (Lent.fact 1 rfl) rfl rfl hc11) rfl<|J.quiet (Y.loadRow rfl (Lent.fact 1 rfl) rfl rfl hc11) rfl<|J.quiet (Y.move rfl) rfl ?_
   have h:=ck_some h;obtain⟨hc12,h⟩:=h
   refine J.quiet (Y.indexS rfl rfl (Lent.el (Lent.fact 1 rfl) hc11.1 hc11.2) rfl rfl hc12) rfl<|J.quiet (Y.fieldEl rfl rfl rfl rfl rfl) rfl<|J.quiet (Y.loadS rfl (Lent.el (Lent.fact 1 rfl) hc11.1 hc11.2) rfl rfl rfl RI64I64pc0 hc12) rfl<|J.quiet (Y.move rfl) rfl<|J.quiet (Y.eql rfl rfl) rfl<|J.done<|J.thenN ?_
   refine J.condD (by exact rfl) (fun hp13=> ?_) (fun hp13=> ?_)
   ·have h:=ifP hp13 h
    refine J.seq<|J.region<|J.quiet (Y.assign rfl) rfl<|J.done<|J.thenN<|J.ret<|J.inR<|J.thenR<|J.thenR<|J.inR<|J.thenR ?_
    obtain rfl:=Option.some.inj h
    exact J.retG1 (()) rfl rfl (RV.tmp rfl) (SubM.nil) LentAll.nil
   ·have h:=ifN hp13 h
    refine J.skip<|J.inN<|J.thenN<|J.region<|J.quiet (Y.move rfl) rfl<|J.quiet (Y.addW rfl rfl) rfl<|J.quiet (Y.assign rfl) rfl<|J.done<|J.thenN ?_
    exact J.againI (wI .i64 (a6+(1:Int))) (()) h SF (SubM.refl _) (LentAll.refl _ _)
  ·have h:=ifN hp10 h
   refine J.exit<|J.thenX<|J.thenX<|J.inX<|J.thenN ?_
   exact J.meetI (()) (()) h SF (SubM.nil) (LentAll.refl _ _)
 ·clear h
  intro a2 b3 h
  unfold world_linked_k1 at h
  refine J.seq<|J.region<|J.quiet (Y.assign rfl) rfl<|J.done<|J.thenN<|J.ret ?_
  obtain rfl:=Option.some.inj h
  exact J.retG1 (()) rfl rfl (RV.tmp rfl) (SubM.refl _) LentAll.nil
end Go.Proofs.YtfbkplemadmbfaaGreatDoor
end
section
namespace Go.Proofs.YtfbkplemadmbfaaGreatDoor
open Go.Sx
def _world_Net__link_k1 (p0:Int×List (Int)×List (Int)×List (Int)×Bool×Bool) (p1:List (Int)×(List (List (Int×Int)))) (p2:Int) (p3:Int) (p4:Int) (a4:Bool):Option ((List (List (Int×Int)))):=
 if a4=true then(some (p1.2))else(if p0.2.2.2.2.2=true then(ck (0<=p2∧p2<(List.length p1.2:Int)) (ck ((List.length ([(p3,p4)]):Int)+(List.length (at' p1.2 p2):Int)<=1099511627) (ck (0<=p2∧p2<(List.length p1.2:Int)) (ck (0<=p3∧p3<(List.length (List.set p1.2 (Int.toNat p2) (([(p3,p4)])++(at' p1.2 p2))):Int)) (ck ((List.length ([(p2,p4)]):Int)+(List.length (at' (List.set p1.2 (Int.toNat p2) (([(p3,p4)])++(at' p1.2 p2))) p3):Int)<=1099511627) (ck (0<=p3∧p3<(List.length (List.set p1.2 (Int.toNat p2) (([(p3,p4)])++(at' p1.2 p2))):Int)) (some (List.set (List.set p1.2 (Int.toNat p2) (([(p3,p4)])++(at' p1.2 p2))) (Int.toNat p3) (([(p2,p4)])++(at' (List.set p1.2 (Int.toNat p2) (([(p3,p4)])++(at' p1.2 p2))) p3))))))))))else(ck (0<=p2∧p2<(List.length p1.2:Int)) (ck (0<=p3∧p3<(List.length p1.2:Int)) (ck ((List.length (at' p1.2 p2):Int)+(List.length ([(p3,p4)]):Int)<=1099511627) (ck ((List.length (at' p1.2 p3):Int)+(List.length ([(p2,p4)]):Int)<=1099511627) (ck (Int.toNat p2≠Int.toNat p3) (ck (0<=p2∧p2<(List.length (List.set (List.set p1.2 (Int.toNat p2) ((at' p1.2 p2)++([(p3,p4)]))) (Int.toNat p3) ((at' p1.2 p3)++([(p2,p4)]))):Int)) (ck (0<=p3∧p3<(List.length (List.set (List.set p1.2 (Int.toNat p2) ((at' p1.2 p2)++([(p3,p4)]))) (Int.toNat p3) ((at' p1.2 p3)++([(p2,p4)]))):Int)) (some (List.set (List.set p1.2 (Int.toNat p2) ((at' p1.2 p2)++([(p3,p4)]))) (Int.toNat p3) ((at' p1.2 p3)++([(p2,p4)]))))))))))))
def m__world_Net__link (fuel:Nat) (p0:Int×List (Int)×List (Int)×List (Int)×Bool×Bool) (p1:List (Int)×(List (List (Int×Int)))) (p2:Int) (p3:Int) (p4:Int):Option ((List (List (Int×Int)))):=
 if p2=p3 then(_world_Net__link_k1 p0 p1 p2 p3 p4 (true))else(Option.bind (m_world_linked fuel ((p1.1,p1.2)) p2 p3) fun r86=>(_world_Net__link_k1 p0 p1 p2 p3 p4 (r86)))
theorem body63:HasBody Tryz.prog 63:=Tryz.call63
theorem t__world_Net__link (fuel:Nat) {p0:Int×List (Int)×List (Int)×List (Int)×Bool×Bool} {p1:List (Int)×(List (List (Int×Int)))} {p2:Int} {p3:Int} {p4:Int} (v0:Value)  (v1:Value)  (v2:Value)  (v3:Value)  (v4:Value)  (w5:List Value) (r:(List (List (Int×Int)))) (h:m__world_Net__link fuel p0 p1 p2 p3 p4=some r):
  MeetsM Tryz.prog 63 #[Value.agg #[Value.int .i64 (p0.1),v0,v1,v2,Value.bool (p0.2.2.2.2.1),Value.bool (p0.2.2.2.2.2)],Value.agg #[v3,v4],Value.int .i64 (p2),Value.int .i64 (p3),Value.int .i64 (p4)] [Ar Enc.raw v4 w5,Rws EI64I64p w5 p1.2] [Sl RI64 v0 p0.2.1,Sl RI64 v1 p0.2.2.1,Sl RI64 v2 p0.2.2.2.1,Sl RI64 v3 p1.1] (fun x:List Value=>Value.tuple #[]) (fun x l=>Ar Enc.raw v4 x::Rws EI64I64p x r::l):=by
 refine MeetsM.of (vs:=[Value.agg #[Value.int .i64 (p0.1),v0,v1,v2,Value.bool (p0.2.2.2.2.1),Value.bool (p0.2.2.2.2.2)],Value.agg #[v3,v4],Value.int .i64 (p2),Value.int .i64 (p3),Value.int .i64 (p4)]) Tryz.func63 rfl Tryz.ntmps63 rfl fun c=> ?_
 unfold m__world_Net__link at h
 refine J.seq<|J.region<|J.loud (Loud.box (cs:=[Value.int .i64 (p0.1),v0,v1,v2,Value.bool (p0.2.2.2.2.1),Value.bool (p0.2.2.2.2.2)]) rfl rfl) rfl fun b1=>J.loud (Loud.box (cs:=[v3,v4]) rfl rfl) rfl fun b2=>J.done<|J.thenN<|J.seq<|J.seq<|J.midI (A:=Bool) (B:=Unit) (fun a4=>_world_Net__link_k1 p0 p1 p2 p3 p4 a4=some r) (fun a4 b5=>[(2,Value.int .i64 (p2)),(3,Value.int .i64 (p3)),(4,Value.int .i64 (p4)),(5,Value.pointer (some ⟨b1,0,none⟩)),(6,Value.pointer (some ⟨b2,0,none⟩)),(20,Value.bool (a4))]) (fun a4 b5=>[Blk b2 [v3,v4] 25,Blk b1 [Value.int .i64 (p0.1),v0,v1,v2,Value.bool (p0.2.2.2.2.1),Value.bool (p0.2.2.2.2.2)] 38,Ar Enc.raw v4 w5,Rws EI64I64p w5 p1.2]) (fun a4 b5=>[Sl RI64 v0 p0.2.1,Sl RI64 v1 p0.2.2.1,Sl RI64 v2 p0.2.2.2.1,Sl RI64 v3 p1.1]) ?_ ?_
 ·refine J.region<|J.quiet (Y.move rfl) rfl<|J.quiet (Y.move rfl) rfl<|J.quiet (Y.eql rfl rfl) rfl<|J.quiet (Y.move rfl) rfl ?_
  refine J.guardD (by exact rfl) (by exact rfl) (fun hp85=> ?_) (fun hp85=> ?_)
  ·have h:=ifP hp85 h
   refine J.guardN rfl rfl rfl<|J.guardN rfl rfl rfl<|J.guardN rfl rfl rfl<|J.guardN rfl rfl rfl<|J.quiet (Y.pickT rfl rfl) rfl<|J.done<|J.thenN ?_
   exact J.meetI (true) (()) h SF (SubM.refl _) (LentAll.refl _ _)
  ·have h:=ifN hp85 h
   refine J.guardY rfl (Y.loadBAll 0 rfl rfl rfl rfl) rfl<|J.guardY rfl (Y.move rfl) rfl<|J.guardY rfl (Y.move rfl) rfl ?_
   have h:=bnd h;obtain⟨r86,hr87,h⟩:=h
   refine J.loudG rfl (Loud.callL body93 (t_world_linked fuel v3 v4 (List.zip w5 p1.2) r86 hr87) rfl (LentAll.cons (Lent.fact 3 rfl) (LentAll.cons (Lent.rows (i:=2) (j:=3) rfl rfl FI64I64p) .nil)) (fun _ _=>rfl)) rfl fun x88=>J.quiet (Y.pickF rfl rfl) rfl<|J.done<|J.thenN ?_
   exact J.meetI (r86) (()) h SF (SubM.refl _) (LentAll.refl _ _)
 ·clear h
  intro a4 b5 h
  unfold _world_Net__link_k1 at h
  refine J.cond (by exact rfl) (fun hp6=> ?_) (fun hp6=> ?_)
  ·have h:=ifP hp6 h
   refine J.ret<|J.thenR ?_
   obtain rfl:=Option.some.inj h
   exact J.retG0 (w5) rfl rfl .ret (.inl rfl) (SubM.cons 2 rfl (SubM.cons 2 rfl (SubM.nil))) LentAll.nil
  ·have h:=ifBN hp6 h
   refine J.skip<|J.thenN<|J.seq<|J.region<|J.quiet (Y.move rfl) rfl<|J.quiet (Y.move rfl) rfl ?_
   refine J.quiet (Y.bld2 (r:=Value.agg #[Value.int .i64 (p3),Value.int .i64 (p4)]) rfl rfl (by intro w;simp[Instr.build,Instr.fill,cells_intV,cells_boolV,cells_sliceV,cells_ptrV,cells_strV,cells_funcV,cells_agg])) rfl ?_
   refine J.quiet (Y.move rfl) rfl<|J.quiet (Y.move rfl) rfl ?_
   refine J.quiet (Y.bld2 (r:=Value.agg #[Value.int .i64 (p2),Value.int .i64 (p4)]) rfl rfl (by intro w;simp[Instr.build,Instr.fill,cells_intV,cells_boolV,cells_sliceV,cells_ptrV,cells_strV,cells_funcV,cells_agg])) rfl ?_
   refine J.loud (Loud.alloc (cs:=[Value.int .i64 (0:Int),Value.int .i64 (0:Int)]) rfl rfl) rfl fun b7=>J.loud (Loud.alloc (cs:=[Value.int .i64 (0:Int),Value.int .i64 (0:Int)]) rfl rfl) rfl fun b8=>J.storeAll 1 (vs:=[Value.int .i64 (p3),Value.int .i64 (p4)]) rfl rfl rfl rfl rfl rfl<|J.storeAll 0 (vs:=[Value.int .i64 (p2),Value.int .i64 (p4)]) rfl rfl rfl rfl rfl rfl<|J.done<|J.thenN<|J.seq<|J.seq<|J.region<|J.quiet (Y.fieldB rfl rfl rfl rfl rfl) rfl<|J.quiet (Y.loadB 3 rfl rfl rfl rfl rfl) rfl<|J.done<|J.thenN ?_
   refine J.cond (by exact rfl) (fun hp9=> ?_) (fun hp9=> ?_)
   ·have h:=ifP hp9 h
    refine J.seq ?_
    refine JR.start [0,1,0,0,8,0,32,0,224,480,1016,2047,4095] 11 mixedOrders (by decide +kernel) ?_
    refine JR.open (by exact rfl) ?_
    refine JR.qt rfl (SubM.nil) (SubL.nil) (Y.fieldB rfl rfl rfl rfl rfl) HistOk.z<|JR.qt rfl (SubM.cons 2 rfl (SubM.nil)) (SubL.nil) (Y.loadB 0 rfl rfl rfl rfl rfl) HistOk.z<|JR.qt rfl (SubM.nil) (SubL.nil) (Y.move rfl) HistOk.z<|JR.qt rfl (SubM.cons 1 rfl (SubM.nil)) (SubL.nil) (Y.loadBAll 0 rfl rfl rfl rfl) HistOk.z<|JR.loud rfl rfl rfl (Loud.buildS (e:=EI64I64p) ([((p3,p4))]) [(0,Value.agg #[Value.int .i64 (p3),Value.int .i64 (p4)])] rfl rfl rfl rfl (fill_1_2 (Value.int .i64 (p3)) (Value.int .i64 (p4))) rfl rfl rfl) rfl (fun u10=>(BsOk.b rfl (BsOk.h (SubM.nil) (SubL.nil) (BsOk.h (SubM.cons 3 rfl (SubM.nil)) (SubL.nil) (BsOk.h (SubM.nil) (SubL.nil) BsOk.z))))) fun u10=>JR.qt rfl (SubM.nil) (SubL.nil) (Y.fieldB rfl rfl rfl rfl rfl) (HistOk.h (SubM.nil) (SubL.nil) HistOk.z)<|JR.qt rfl (SubM.cons 3 rfl (SubM.nil)) (SubL.nil) (Y.loadB 0 rfl rfl rfl rfl rfl) (HistOk.h (SubM.cons 2 rfl (SubM.nil)) (SubL.nil) HistOk.z)<|JR.qt rfl (SubM.nil) (SubL.nil) (Y.move rfl) (HistOk.h (SubM.nil) (SubL.nil) HistOk.z) ?_
    have h:=ck_some h;obtain⟨hc11,h⟩:=h
    refine JR.know (Know.rws 6 rfl) fun hl12=> ?_
    refine JR.qt rfl (SubM.cons 5 rfl (SubM.nil)) (SubL.nil) (Y.indexA 0 rfl rfl rfl rfl rfl hc11.1 (by have q1:=hc11.2;have q2:=hl12;(try simp only[List.length_set]at q1);(try simp only[List.length_set]at q2);(try simp only[List.length_set]);omega)) (HistOk.h (SubM.cons 4 rfl (SubM.nil)) (SubL.nil) HistOk.z) ?_
    refine JR.know (Know.rws 6 rfl) fun hl13=>JR.qt rfl (SubM.cons 5 rfl (SubM.nil)) (SubL.nil) (Y.loadRaw 0 rfl rfl hl13 rfl rfl hc11) (HistOk.h (SubM.cons 4 rfl (SubM.nil)) (SubL.nil) HistOk.z) ?_
    have h:=ck_some h;obtain⟨hc15,h⟩:=h
    refine JR.loud rfl rfl rfl (Loud.appendL 0 FI64I64p rfl rfl rfl (Lent.row (j:=6) rfl FI64I64p hc11.1 hc11.2) rfl rfl rfl rfl hc15 rfl) rfl (fun u14=>(BsOk.b rfl (BsOk.b rfl (BsOk.b rfl (BsOk.b rfl (BsOk.b rfl (BsOk.b rfl (BsOk.h (SubM.nil) (SubL.nil) (BsOk.h (SubM.cons 3 rfl (SubM.nil)) (SubL.nil) (BsOk.h (SubM.nil) (SubL.nil) BsOk.z)))))))))) fun u14=>JR.tailD 11 rfl rfl ?_
    have h:=ck_some h;obtain⟨hc16,h⟩:=h
    refine J.quiet (Y.indexN rfl rfl (Lent.rows (i:=5) (j:=6) rfl rfl FI64I64p) rfl rfl hc16) rfl<|J.know (Know.one ((Lent.ar (Lent.res 0 rfl) FI64I64p))) fun ho17=>J.stp (Stp.putRow (k:=p2) 6 0 rfl rfl rfl hc16) ?_
    refine J.storeRow 4 5 ⟨hc16.1,by first|exact hc16.2|simpa using hc16.2⟩ rfl rfl rfl rfl rfl (by simp) ho17 rfl ?_
    refine J.done<|J.thenN<|J.seq ?_
    refine JR.start [0,1,0,0,8,0,32,0,224,480,1016,2047,4095] 11 mixedOrders (by decide +kernel) ?_
    refine JR.open (by exact rfl) ?_
    refine JR.qt rfl (SubM.nil) (SubL.nil) (Y.fieldB rfl rfl rfl rfl rfl) HistOk.z<|JR.qt rfl (SubM.cons 2 rfl (SubM.nil)) (SubL.nil) (Y.loadB 0 rfl rfl rfl rfl rfl) HistOk.z<|JR.qt rfl (SubM.nil) (SubL.nil) (Y.move rfl) HistOk.z<|JR.qt rfl (SubM.cons 0 rfl (SubM.nil)) (SubL.nil) (Y.loadBAll 0 rfl rfl rfl rfl) HistOk.z<|JR.loud rfl rfl rfl (Loud.buildS (e:=EI64I64p) ([((p2,p4))]) [(0,Value.agg #[Value.int .i64 (p2),Value.int .i64 (p4)])] rfl rfl rfl rfl (fill_1_2 (Value.int .i64 (p2)) (Value.int .i64 (p4))) rfl rfl rfl) rfl (fun u18=>(BsOk.b rfl (BsOk.h (SubM.nil) (SubL.nil) (BsOk.h (SubM.cons 3 rfl (SubM.nil)) (SubL.nil) (BsOk.h (SubM.nil) (SubL.nil) BsOk.z))))) fun u18=>JR.qt rfl (SubM.nil) (SubL.nil) (Y.fieldB rfl rfl rfl rfl rfl) (HistOk.h (SubM.nil) (SubL.nil) HistOk.z)<|JR.qt rfl (SubM.cons 3 rfl (SubM.nil)) (SubL.nil) (Y.loadB 0 rfl rfl rfl rfl rfl) (HistOk.h (SubM.cons 2 rfl (SubM.nil)) (SubL.nil) HistOk.z)<|JR.qt rfl (SubM.nil) (SubL.nil) (Y.move rfl) (HistOk.h (SubM.nil) (SubL.nil) HistOk.z) ?_
    have h:=ck_some h;obtain⟨hc19,h⟩:=h
    refine JR.know (Know.rws 6 rfl) fun hl20=> ?_
    refine JR.qt rfl (SubM.cons 5 rfl (SubM.nil)) (SubL.nil) (Y.indexA 0 rfl rfl rfl rfl rfl hc19.1 (by have q1:=hc19.2;have q2:=hl20;(try simp only[List.length_set]at q1);(try simp only[List.length_set]at q2);(try simp only[List.length_set]);omega)) (HistOk.h (SubM.cons 4 rfl (SubM.nil)) (SubL.nil) HistOk.z) ?_
    refine JR.know (Know.rws 6 rfl) fun hl21=>JR.qt rfl (SubM.cons 5 rfl (SubM.nil)) (SubL.nil) (Y.loadRaw 0 rfl rfl hl21 rfl rfl hc19) (HistOk.h (SubM.cons 4 rfl (SubM.nil)) (SubL.nil) HistOk.z) ?_
    have h:=ck_some h;obtain⟨hc23,h⟩:=h
    refine JR.loud rfl rfl rfl (Loud.appendL 0 FI64I64p rfl rfl rfl (Lent.row (j:=6) rfl FI64I64p hc19.1 hc19.2) rfl rfl rfl rfl hc23 rfl) rfl (fun u22=>(BsOk.b rfl (BsOk.b rfl (BsOk.b rfl (BsOk.b rfl (BsOk.b rfl (BsOk.b rfl (BsOk.h (SubM.nil) (SubL.nil) (BsOk.h (SubM.cons 3 rfl (SubM.nil)) (SubL.nil) (BsOk.h (SubM.nil) (SubL.nil) BsOk.z)))))))))) fun u22=>JR.tailD 11 rfl rfl ?_
    have h:=ck_some h;obtain⟨hc24,h⟩:=h
    refine J.quiet (Y.indexN rfl rfl (Lent.rows (i:=5) (j:=6) rfl rfl FI64I64p) rfl rfl hc24) rfl<|J.know (Know.one ((Lent.ar (Lent.res 0 rfl) FI64I64p))) fun ho25=>J.stp (Stp.putRow (k:=p3) 6 0 rfl rfl rfl hc24) ?_
    refine J.storeRow 4 5 ⟨hc24.1,by first|exact hc24.2|simpa using hc24.2⟩ rfl rfl rfl rfl rfl (by simp) ho25 rfl ?_
    refine J.done<|J.thenN<|J.ret<|J.thenR ?_
    obtain rfl:=Option.some.inj h
    exact J.retG0 (List.set (List.set w5 (Int.toNat p2) u14) (Int.toNat p3) u22) rfl rfl .ret (.inl rfl) (SubM.cons 4 rfl (SubM.cons 4 rfl (SubM.nil))) LentAll.nil
   ·have h:=ifBN hp9 h
    refine J.skip<|J.thenN ?_
    have h:=ck_some h;obtain⟨hc26,h⟩:=h
    have h:=ck_some h;obtain⟨hc29,h⟩:=h
    have h:=ck_some h;obtain⟨hc34,h⟩:=h
    have h:=ck_some h;obtain⟨hc37,h⟩:=h
    have h:=ck_some h;obtain⟨hc38,h⟩:=h
    have h:=ck_some h;obtain⟨hc39,h⟩:=h
    have h:=ck_some h;obtain⟨hc43,h⟩:=h
    refine JR.orders [0,1,0,0,8,0,0,64,0,448,960,0,2048,8128,0,16384,0,114688,245760,0,524288,2097088,4194247,8388551,16777215,33554431] 24 [[0,1,2,3,4,5,6,7,8,9,10,11,14,15,16,17,18,19,12,13,20,21,22,23,24,25],[0,1,2,3,4,5,6,7,8,9,10,11,14,15,16,17,18,19,12,20,13,21,22,23,24,25],[0,1,2,3,4,5,6,7,8,9,10,11,14,15,16,17,18,19,20,12,13,21,22,23,24,25]] mixedOrders (by decide +kernel) (by decide +kernel) ?_
    intro o ho
    simp only[List.mem_cons,List.not_mem_nil,or_false]at ho
    rcases ho with rfl|rfl|rfl
    ·refine JR.qt rfl (SubM.nil) (SubL.nil) (Y.fieldB rfl rfl rfl rfl rfl) HistOk.z<|JR.qt rfl (SubM.cons 2 rfl (SubM.nil)) (SubL.nil) (Y.loadB 0 rfl rfl rfl rfl rfl) HistOk.z<|JR.qt rfl (SubM.nil) (SubL.nil) (Y.move rfl) HistOk.z<|JR.qt rfl (SubM.nil) (SubL.nil) (Y.fieldB rfl rfl rfl rfl rfl) HistOk.z<|JR.qt rfl (SubM.cons 2 rfl (SubM.nil)) (SubL.nil) (Y.loadB 0 rfl rfl rfl rfl rfl) HistOk.z<|JR.qt rfl (SubM.nil) (SubL.nil) (Y.move rfl) HistOk.z<|JR.qt rfl (SubM.nil) (SubL.nil) (Y.fieldB rfl rfl rfl rfl rfl) HistOk.z<|JR.qt rfl (SubM.cons 2 rfl (SubM.nil)) (SubL.nil) (Y.loadB 0 rfl rfl rfl rfl rfl) HistOk.z<|JR.qt rfl (SubM.nil) (SubL.nil) (Y.move rfl) HistOk.z<|JR.know (Know.rws 5 rfl) fun hl46=> ?_
     refine JR.qt rfl (SubM.cons 4 rfl (SubM.nil)) (SubL.nil) (Y.indexA 0 rfl rfl rfl rfl rfl hc26.1 (by have q1:=hc26.2;have q2:=hl46;(try simp only[List.length_set]at q1);(try simp only[List.length_set]at q2);(try simp only[List.length_set]);omega)) HistOk.z ?_
     refine JR.know (Know.rws 5 rfl) fun hl47=>JR.qt rfl (SubM.cons 4 rfl (SubM.nil)) (SubL.nil) (Y.loadRaw 0 rfl rfl hl47 rfl rfl hc26) HistOk.z<|JR.qt rfl (SubM.cons 1 rfl (SubM.nil)) (SubL.nil) (Y.loadBAll 0 rfl rfl rfl rfl) HistOk.z<|JR.qt rfl (SubM.nil) (SubL.nil) (Y.fieldB rfl rfl rfl rfl rfl) HistOk.z<|JR.qt rfl (SubM.cons 2 rfl (SubM.nil)) (SubL.nil) (Y.loadB 0 rfl rfl rfl rfl rfl) HistOk.z<|JR.qt rfl (SubM.nil) (SubL.nil) (Y.move rfl) HistOk.z<|JR.know (Know.rws 5 rfl) fun hl48=> ?_
     refine JR.qt rfl (SubM.cons 4 rfl (SubM.nil)) (SubL.nil) (Y.indexA 0 rfl rfl rfl rfl rfl hc29.1 (by have q1:=hc29.2;have q2:=hl48;(try simp only[List.length_set]at q1);(try simp only[List.length_set]at q2);(try simp only[List.length_set]);omega)) HistOk.z ?_
     refine JR.know (Know.rws 5 rfl) fun hl49=>JR.qt rfl (SubM.cons 4 rfl (SubM.nil)) (SubL.nil) (Y.loadRaw 0 rfl rfl hl49 rfl rfl hc29) HistOk.z<|JR.qt rfl (SubM.cons 0 rfl (SubM.nil)) (SubL.nil) (Y.loadBAll 0 rfl rfl rfl rfl) HistOk.z<|JR.loud rfl rfl rfl (Loud.buildS (e:=EI64I64p) ([((p3,p4))]) [(0,Value.agg #[Value.int .i64 (p3),Value.int .i64 (p4)])] rfl rfl rfl rfl (fill_1_2 (Value.int .i64 (p3)) (Value.int .i64 (p4))) rfl rfl rfl) rfl (fun u50=>(BsOk.h (SubM.cons 1 rfl (SubM.nil)) (SubL.nil) (BsOk.h (SubM.cons 5 rfl (SubM.nil)) (SubL.nil) (BsOk.h (SubM.cons 5 rfl (SubM.nil)) (SubL.nil) (BsOk.h (SubM.nil) (SubL.nil) (BsOk.h (SubM.cons 3 rfl (SubM.nil)) (SubL.nil) (BsOk.h (SubM.nil) (SubL.nil) (BsOk.b rfl (BsOk.h (SubM.cons 5 rfl (SubM.nil)) (SubL.nil) (BsOk.h (SubM.cons 5 rfl (SubM.nil)) (SubL.nil) (BsOk.h (SubM.nil) (SubL.nil) (BsOk.h (SubM.cons 3 rfl (SubM.nil)) (SubL.nil) (BsOk.h (SubM.nil) (SubL.nil) (BsOk.h (SubM.nil) (SubL.nil) (BsOk.h (SubM.cons 3 rfl (SubM.nil)) (SubL.nil) (BsOk.h (SubM.nil) (SubL.nil) (BsOk.h (SubM.nil) (SubL.nil) (BsOk.h (SubM.cons 3 rfl (SubM.nil)) (SubL.nil) (BsOk.h (SubM.nil) (SubL.nil) BsOk.z))))))))))))))))))) fun u50=>JR.loud rfl rfl rfl (Loud.appendRowL 6 FI64I64p rfl rfl rfl (Lent.ar (Lent.res 0 rfl) FI64I64p) rfl rfl rfl rfl hc26 hc34 rfl) rfl (fun u51=>(BsOk.h (SubM.cons 1 rfl (SubM.nil)) (SubL.nil) (BsOk.h (SubM.cons 5 rfl (SubM.nil)) (SubL.nil) (BsOk.h (SubM.cons 5 rfl (SubM.nil)) (SubL.nil) (BsOk.h (SubM.nil) (SubL.nil) (BsOk.h (SubM.cons 3 rfl (SubM.nil)) (SubL.nil) (BsOk.h (SubM.nil) (SubL.nil) (BsOk.b rfl (BsOk.b rfl (BsOk.b rfl (BsOk.b rfl (BsOk.b rfl (BsOk.b rfl (BsOk.h (SubM.nil) (SubL.nil) (BsOk.h (SubM.cons 3 rfl (SubM.nil)) (SubL.nil) (BsOk.h (SubM.nil) (SubL.nil) (BsOk.h (SubM.nil) (SubL.nil) (BsOk.h (SubM.cons 3 rfl (SubM.nil)) (SubL.nil) (BsOk.h (SubM.nil) (SubL.nil) BsOk.z))))))))))))))))))) fun u51=>JR.loud rfl rfl rfl (Loud.buildS (e:=EI64I64p) ([((p2,p4))]) [(0,Value.agg #[Value.int .i64 (p2),Value.int .i64 (p4)])] rfl rfl rfl rfl (fill_1_2 (Value.int .i64 (p2)) (Value.int .i64 (p4))) rfl rfl rfl) rfl (fun u52=>(BsOk.b rfl (BsOk.h (SubM.cons 6 rfl (SubM.nil)) (SubL.nil) (BsOk.h (SubM.cons 6 rfl (SubM.nil)) (SubL.nil) (BsOk.h (SubM.nil) (SubL.nil) (BsOk.h (SubM.cons 4 rfl (SubM.nil)) (SubL.nil) (BsOk.h (SubM.nil) (SubL.nil) (BsOk.h (SubM.cons 3 rfl (SubM.nil)) (SubL.nil) (BsOk.h (SubM.cons 6 rfl (SubM.nil)) (SubL.nil) (BsOk.h (SubM.cons 6 rfl (SubM.nil)) (SubL.nil) (BsOk.h (SubM.nil) (SubL.nil) (BsOk.h (SubM.cons 4 rfl (SubM.nil)) (SubL.nil) (BsOk.h (SubM.nil) (SubL.nil) (BsOk.h (SubM.nil) (SubL.nil) (BsOk.h (SubM.cons 4 rfl (SubM.nil)) (SubL.nil) (BsOk.h (SubM.nil) (SubL.nil) (BsOk.h (SubM.nil) (SubL.nil) (BsOk.h (SubM.cons 4 rfl (SubM.nil)) (SubL.nil) (BsOk.h (SubM.nil) (SubL.nil) BsOk.z))))))))))))))))))) fun u52=>JR.loud rfl rfl rfl (Loud.appendRow2 (j:=p2) 7 FI64I64p rfl rfl rfl (Lent.ar (Lent.res 0 rfl) FI64I64p) rfl rfl rfl rfl hc29 hc37 rfl hc38) rfl (fun u53=>(BsOk.b rfl (BsOk.b rfl (BsOk.b rfl (BsOk.b rfl (BsOk.b rfl (BsOk.b rfl (BsOk.b rfl (BsOk.b rfl (BsOk.b rfl (BsOk.b rfl (BsOk.b rfl (BsOk.b rfl (BsOk.h (SubM.nil) (SubL.nil) (BsOk.h (SubM.cons 4 rfl (SubM.nil)) (SubL.nil) (BsOk.h (SubM.nil) (SubL.nil) (BsOk.h (SubM.nil) (SubL.nil) (BsOk.h (SubM.cons 4 rfl (SubM.nil)) (SubL.nil) (BsOk.h (SubM.nil) (SubL.nil) BsOk.z))))))))))))))))))) fun u53=>JR.know (Know.rws 7 rfl) fun hl54=> ?_
     refine JR.qt rfl (SubM.cons 6 rfl (SubM.nil)) (SubL.nil) (Y.indexA 0 rfl rfl rfl rfl rfl hc39.1 (by have q1:=hc39.2;have q2:=hl54;(try simp only[List.length_set]at q1);(try simp only[List.length_set]at q2);(try simp only[List.length_set]);omega)) (HistOk.b rfl (HistOk.b rfl (HistOk.b rfl (HistOk.b rfl HistOk.z)))) ?_
     refine JR.know (Know.oneRow2 (k:=p2) (j:=p3) 7 rfl (by omega) ⟨hc39.1,by first|exact hc39.2|simpa using hc39.2⟩) fun ho55=> ?_
     refine JR.loud0 rfl rfl rfl (Loud.storeRow 6 7 ⟨hc39.1,by first|exact hc39.2|simpa using hc39.2⟩ rfl rfl rfl rfl (by simp) ho55 rfl) (fun x56=>(BsOk.b rfl (BsOk.b rfl (BsOk.b rfl (BsOk.b rfl (BsOk.b rfl (BsOk.b rfl (BsOk.b rfl (BsOk.b rfl (BsOk.b rfl (BsOk.b rfl (BsOk.b rfl (BsOk.b rfl (BsOk.b rfl (BsOk.h (SubM.nil) (SubL.nil) (BsOk.h (SubM.cons 4 rfl (SubM.nil)) (SubL.nil) (BsOk.h (SubM.nil) (SubL.nil) (BsOk.b rfl (BsOk.b rfl (BsOk.b rfl BsOk.z)))))))))))))))))))) fun x56=> ?_
     refine JR.tailD 24 rfl rfl<|J.know (Know.rws 7 rfl) fun hl57=> ?_
     refine J.quiet (Y.indexA 6 rfl rfl rfl rfl rfl hc43.1 (by have q1:=hc43.2;have q2:=hl57;(try simp only[List.length_set]at q1);(try simp only[List.length_set]at q2);(try simp only[List.length_set]);omega)) rfl ?_
     refine J.know (Know.oneRow 7 (k:=p3) rfl ⟨hc43.1,by first|exact hc43.2|simpa using hc43.2⟩) fun ho58=> ?_
     refine J.storeRow 6 7 ⟨hc43.1,by first|exact hc43.2|simpa using hc43.2⟩ rfl rfl rfl rfl rfl (by simp) ho58 rfl ?_
     refine J.done ?_
     obtain rfl:=Option.some.inj h
     exact J.retG0 (List.set (List.set w5 (Int.toNat p2) u51) (Int.toNat p3) u53) rfl rfl .normal (.inr rfl) (SubM.cons 6 rfl (SubM.cons 6 rfl (SubM.nil))) LentAll.nil
    ·refine JR.qt rfl (SubM.nil) (SubL.nil) (Y.fieldB rfl rfl rfl rfl rfl) HistOk.z<|JR.qt rfl (SubM.cons 2 rfl (SubM.nil)) (SubL.nil) (Y.loadB 0 rfl rfl rfl rfl rfl) HistOk.z<|JR.qt rfl (SubM.nil) (SubL.nil) (Y.move rfl) HistOk.z<|JR.qt rfl (SubM.nil) (SubL.nil) (Y.fieldB rfl rfl rfl rfl rfl) HistOk.z<|JR.qt rfl (SubM.cons 2 rfl (SubM.nil)) (SubL.nil) (Y.loadB 0 rfl rfl rfl rfl rfl) HistOk.z<|JR.qt rfl (SubM.nil) (SubL.nil) (Y.move rfl) HistOk.z<|JR.qt rfl (SubM.nil) (SubL.nil) (Y.fieldB rfl rfl rfl rfl rfl) HistOk.z<|JR.qt rfl (SubM.cons 2 rfl (SubM.nil)) (SubL.nil) (Y.loadB 0 rfl rfl rfl rfl rfl) HistOk.z<|JR.qt rfl (SubM.nil) (SubL.nil) (Y.move rfl) HistOk.z<|JR.know (Know.rws 5 rfl) fun hl59=> ?_
     refine JR.qt rfl (SubM.cons 4 rfl (SubM.nil)) (SubL.nil) (Y.indexA 0 rfl rfl rfl rfl rfl hc26.1 (by have q1:=hc26.2;have q2:=hl59;(try simp only[List.length_set]at q1);(try simp only[List.length_set]at q2);(try simp only[List.length_set]);omega)) HistOk.z ?_
     refine JR.know (Know.rws 5 rfl) fun hl60=>JR.qt rfl (SubM.cons 4 rfl (SubM.nil)) (SubL.nil) (Y.loadRaw 0 rfl rfl hl60 rfl rfl hc26) HistOk.z<|JR.qt rfl (SubM.cons 1 rfl (SubM.nil)) (SubL.nil) (Y.loadBAll 0 rfl rfl rfl rfl) HistOk.z<|JR.qt rfl (SubM.nil) (SubL.nil) (Y.fieldB rfl rfl rfl rfl rfl) HistOk.z<|JR.qt rfl (SubM.cons 2 rfl (SubM.nil)) (SubL.nil) (Y.loadB 0 rfl rfl rfl rfl rfl) HistOk.z<|JR.qt rfl (SubM.nil) (SubL.nil) (Y.move rfl) HistOk.z<|JR.know (Know.rws 5 rfl) fun hl61=> ?_
     refine JR.qt rfl (SubM.cons 4 rfl (SubM.nil)) (SubL.nil) (Y.indexA 0 rfl rfl rfl rfl rfl hc29.1 (by have q1:=hc29.2;have q2:=hl61;(try simp only[List.length_set]at q1);(try simp only[List.length_set]at q2);(try simp only[List.length_set]);omega)) HistOk.z ?_
     refine JR.know (Know.rws 5 rfl) fun hl62=>JR.qt rfl (SubM.cons 4 rfl (SubM.nil)) (SubL.nil) (Y.loadRaw 0 rfl rfl hl62 rfl rfl hc29) HistOk.z<|JR.qt rfl (SubM.cons 0 rfl (SubM.nil)) (SubL.nil) (Y.loadBAll 0 rfl rfl rfl rfl) HistOk.z<|JR.loud rfl rfl rfl (Loud.buildS (e:=EI64I64p) ([((p3,p4))]) [(0,Value.agg #[Value.int .i64 (p3),Value.int .i64 (p4)])] rfl rfl rfl rfl (fill_1_2 (Value.int .i64 (p3)) (Value.int .i64 (p4))) rfl rfl rfl) rfl (fun u63=>(BsOk.h (SubM.cons 1 rfl (SubM.nil)) (SubL.nil) (BsOk.h (SubM.cons 5 rfl (SubM.nil)) (SubL.nil) (BsOk.h (SubM.cons 5 rfl (SubM.nil)) (SubL.nil) (BsOk.h (SubM.nil) (SubL.nil) (BsOk.h (SubM.cons 3 rfl (SubM.nil)) (SubL.nil) (BsOk.h (SubM.nil) (SubL.nil) (BsOk.b rfl (BsOk.h (SubM.cons 5 rfl (SubM.nil)) (SubL.nil) (BsOk.h (SubM.cons 5 rfl (SubM.nil)) (SubL.nil) (BsOk.h (SubM.nil) (SubL.nil) (BsOk.h (SubM.cons 3 rfl (SubM.nil)) (SubL.nil) (BsOk.h (SubM.nil) (SubL.nil) (BsOk.h (SubM.nil) (SubL.nil) (BsOk.h (SubM.cons 3 rfl (SubM.nil)) (SubL.nil) (BsOk.h (SubM.nil) (SubL.nil) (BsOk.h (SubM.nil) (SubL.nil) (BsOk.h (SubM.cons 3 rfl (SubM.nil)) (SubL.nil) (BsOk.h (SubM.nil) (SubL.nil) BsOk.z))))))))))))))))))) fun u63=>JR.loud rfl rfl rfl (Loud.buildS (e:=EI64I64p) ([((p2,p4))]) [(0,Value.agg #[Value.int .i64 (p2),Value.int .i64 (p4)])] rfl rfl rfl rfl (fill_1_2 (Value.int .i64 (p2)) (Value.int .i64 (p4))) rfl rfl rfl) rfl (fun u64=>(BsOk.b rfl (BsOk.h (SubM.cons 6 rfl (SubM.nil)) (SubL.nil) (BsOk.h (SubM.cons 6 rfl (SubM.nil)) (SubL.nil) (BsOk.h (SubM.nil) (SubL.nil) (BsOk.h (SubM.cons 4 rfl (SubM.nil)) (SubL.nil) (BsOk.h (SubM.nil) (SubL.nil) (BsOk.h (SubM.cons 3 rfl (SubM.nil)) (SubL.nil) (BsOk.h (SubM.cons 6 rfl (SubM.nil)) (SubL.nil) (BsOk.h (SubM.cons 6 rfl (SubM.nil)) (SubL.nil) (BsOk.h (SubM.nil) (SubL.nil) (BsOk.h (SubM.cons 4 rfl (SubM.nil)) (SubL.nil) (BsOk.h (SubM.nil) (SubL.nil) (BsOk.h (SubM.nil) (SubL.nil) (BsOk.h (SubM.cons 4 rfl (SubM.nil)) (SubL.nil) (BsOk.h (SubM.nil) (SubL.nil) (BsOk.h (SubM.nil) (SubL.nil) (BsOk.h (SubM.cons 4 rfl (SubM.nil)) (SubL.nil) (BsOk.h (SubM.nil) (SubL.nil) BsOk.z))))))))))))))))))) fun u64=>JR.loud rfl rfl rfl (Loud.appendRowL 7 FI64I64p rfl rfl rfl (Lent.ar (Lent.res 1 rfl) FI64I64p) rfl rfl rfl rfl hc26 hc34 rfl) rfl (fun u65=>(BsOk.h (SubM.cons 2 rfl (SubM.nil)) (SubL.nil) (BsOk.h (SubM.cons 6 rfl (SubM.nil)) (SubL.nil) (BsOk.h (SubM.cons 6 rfl (SubM.nil)) (SubL.nil) (BsOk.h (SubM.nil) (SubL.nil) (BsOk.h (SubM.cons 4 rfl (SubM.nil)) (SubL.nil) (BsOk.h (SubM.nil) (SubL.nil) (BsOk.b rfl (BsOk.b rfl (BsOk.b rfl (BsOk.b rfl (BsOk.b rfl (BsOk.b rfl (BsOk.h (SubM.nil) (SubL.nil) (BsOk.h (SubM.cons 4 rfl (SubM.nil)) (SubL.nil) (BsOk.h (SubM.nil) (SubL.nil) (BsOk.h (SubM.nil) (SubL.nil) (BsOk.h (SubM.cons 4 rfl (SubM.nil)) (SubL.nil) (BsOk.h (SubM.nil) (SubL.nil) BsOk.z))))))))))))))))))) fun u65=>JR.loud rfl rfl rfl (Loud.appendRow2 (j:=p2) 7 FI64I64p rfl rfl rfl (Lent.ar (Lent.res 0 rfl) FI64I64p) rfl rfl rfl rfl hc29 hc37 rfl hc38) rfl (fun u66=>(BsOk.b rfl (BsOk.b rfl (BsOk.b rfl (BsOk.b rfl (BsOk.b rfl (BsOk.b rfl (BsOk.b rfl (BsOk.b rfl (BsOk.b rfl (BsOk.b rfl (BsOk.b rfl (BsOk.b rfl (BsOk.h (SubM.nil) (SubL.nil) (BsOk.h (SubM.cons 4 rfl (SubM.nil)) (SubL.nil) (BsOk.h (SubM.nil) (SubL.nil) (BsOk.h (SubM.nil) (SubL.nil) (BsOk.h (SubM.cons 4 rfl (SubM.nil)) (SubL.nil) (BsOk.h (SubM.nil) (SubL.nil) BsOk.z))))))))))))))))))) fun u66=>JR.know (Know.rws 7 rfl) fun hl67=> ?_
     refine JR.qt rfl (SubM.cons 6 rfl (SubM.nil)) (SubL.nil) (Y.indexA 0 rfl rfl rfl rfl rfl hc39.1 (by have q1:=hc39.2;have q2:=hl67;(try simp only[List.length_set]at q1);(try simp only[List.length_set]at q2);(try simp only[List.length_set]);omega)) (HistOk.b rfl (HistOk.b rfl (HistOk.b rfl (HistOk.b rfl HistOk.z)))) ?_
     refine JR.know (Know.oneRow2 (k:=p2) (j:=p3) 7 rfl (by omega) ⟨hc39.1,by first|exact hc39.2|simpa using hc39.2⟩) fun ho68=> ?_
     refine JR.loud0 rfl rfl rfl (Loud.storeRow 6 7 ⟨hc39.1,by first|exact hc39.2|simpa using hc39.2⟩ rfl rfl rfl rfl (by simp) ho68 rfl) (fun x69=>(BsOk.b rfl (BsOk.b rfl (BsOk.b rfl (BsOk.b rfl (BsOk.b rfl (BsOk.b rfl (BsOk.b rfl (BsOk.b rfl (BsOk.b rfl (BsOk.b rfl (BsOk.b rfl (BsOk.b rfl (BsOk.b rfl (BsOk.h (SubM.nil) (SubL.nil) (BsOk.h (SubM.cons 4 rfl (SubM.nil)) (SubL.nil) (BsOk.h (SubM.nil) (SubL.nil) (BsOk.b rfl (BsOk.b rfl (BsOk.b rfl BsOk.z)))))))))))))))))))) fun x69=> ?_
     refine JR.tailD 24 rfl rfl<|J.know (Know.rws 7 rfl) fun hl70=> ?_
     refine J.quiet (Y.indexA 6 rfl rfl rfl rfl rfl hc43.1 (by have q1:=hc43.2;have q2:=hl70;(try simp only[List.length_set]at q1);(try simp only[List.length_set]at q2);(try simp only[List.length_set]);omega)) rfl ?_
     refine J.know (Know.oneRow 7 (k:=p3) rfl ⟨hc43.1,by first|exact hc43.2|simpa using hc43.2⟩) fun ho71=> ?_
     refine J.storeRow 6 7 ⟨hc43.1,by first|exact hc43.2|simpa using hc43.2⟩ rfl rfl rfl rfl rfl (by simp) ho71 rfl ?_
     refine J.done ?_
     obtain rfl:=Option.some.inj h
     exact J.retG0 (List.set (List.set w5 (Int.toNat p2) u65) (Int.toNat p3) u66) rfl rfl .normal (.inr rfl) (SubM.cons 6 rfl (SubM.cons 6 rfl (SubM.nil))) LentAll.nil
    ·refine JR.qt rfl (SubM.nil) (SubL.nil) (Y.fieldB rfl rfl rfl rfl rfl) HistOk.z<|JR.qt rfl (SubM.cons 2 rfl (SubM.nil)) (SubL.nil) (Y.loadB 0 rfl rfl rfl rfl rfl) HistOk.z<|JR.qt rfl (SubM.nil) (SubL.nil) (Y.move rfl) HistOk.z<|JR.qt rfl (SubM.nil) (SubL.nil) (Y.fieldB rfl rfl rfl rfl rfl) HistOk.z<|JR.qt rfl (SubM.cons 2 rfl (SubM.nil)) (SubL.nil) (Y.loadB 0 rfl rfl rfl rfl rfl) HistOk.z<|JR.qt rfl (SubM.nil) (SubL.nil) (Y.move rfl) HistOk.z<|JR.qt rfl (SubM.nil) (SubL.nil) (Y.fieldB rfl rfl rfl rfl rfl) HistOk.z<|JR.qt rfl (SubM.cons 2 rfl (SubM.nil)) (SubL.nil) (Y.loadB 0 rfl rfl rfl rfl rfl) HistOk.z<|JR.qt rfl (SubM.nil) (SubL.nil) (Y.move rfl) HistOk.z<|JR.know (Know.rws 5 rfl) fun hl72=> ?_
     refine JR.qt rfl (SubM.cons 4 rfl (SubM.nil)) (SubL.nil) (Y.indexA 0 rfl rfl rfl rfl rfl hc26.1 (by have q1:=hc26.2;have q2:=hl72;(try simp only[List.length_set]at q1);(try simp only[List.length_set]at q2);(try simp only[List.length_set]);omega)) HistOk.z ?_
     refine JR.know (Know.rws 5 rfl) fun hl73=>JR.qt rfl (SubM.cons 4 rfl (SubM.nil)) (SubL.nil) (Y.loadRaw 0 rfl rfl hl73 rfl rfl hc26) HistOk.z<|JR.qt rfl (SubM.cons 1 rfl (SubM.nil)) (SubL.nil) (Y.loadBAll 0 rfl rfl rfl rfl) HistOk.z<|JR.qt rfl (SubM.nil) (SubL.nil) (Y.fieldB rfl rfl rfl rfl rfl) HistOk.z<|JR.qt rfl (SubM.cons 2 rfl (SubM.nil)) (SubL.nil) (Y.loadB 0 rfl rfl rfl rfl rfl) HistOk.z<|JR.qt rfl (SubM.nil) (SubL.nil) (Y.move rfl) HistOk.z<|JR.know (Know.rws 5 rfl) fun hl74=> ?_
     refine JR.qt rfl (SubM.cons 4 rfl (SubM.nil)) (SubL.nil) (Y.indexA 0 rfl rfl rfl rfl rfl hc29.1 (by have q1:=hc29.2;have q2:=hl74;(try simp only[List.length_set]at q1);(try simp only[List.length_set]at q2);(try simp only[List.length_set]);omega)) HistOk.z ?_
     refine JR.know (Know.rws 5 rfl) fun hl75=>JR.qt rfl (SubM.cons 4 rfl (SubM.nil)) (SubL.nil) (Y.loadRaw 0 rfl rfl hl75 rfl rfl hc29) HistOk.z<|JR.qt rfl (SubM.cons 0 rfl (SubM.nil)) (SubL.nil) (Y.loadBAll 0 rfl rfl rfl rfl) HistOk.z<|JR.loud rfl rfl rfl (Loud.buildS (e:=EI64I64p) ([((p2,p4))]) [(0,Value.agg #[Value.int .i64 (p2),Value.int .i64 (p4)])] rfl rfl rfl rfl (fill_1_2 (Value.int .i64 (p2)) (Value.int .i64 (p4))) rfl rfl rfl) rfl (fun u76=>(BsOk.b rfl (BsOk.h (SubM.cons 5 rfl (SubM.nil)) (SubL.nil) (BsOk.h (SubM.cons 5 rfl (SubM.nil)) (SubL.nil) (BsOk.h (SubM.nil) (SubL.nil) (BsOk.h (SubM.cons 3 rfl (SubM.nil)) (SubL.nil) (BsOk.h (SubM.nil) (SubL.nil) (BsOk.h (SubM.cons 2 rfl (SubM.nil)) (SubL.nil) (BsOk.h (SubM.cons 5 rfl (SubM.nil)) (SubL.nil) (BsOk.h (SubM.cons 5 rfl (SubM.nil)) (SubL.nil) (BsOk.h (SubM.nil) (SubL.nil) (BsOk.h (SubM.cons 3 rfl (SubM.nil)) (SubL.nil) (BsOk.h (SubM.nil) (SubL.nil) (BsOk.h (SubM.nil) (SubL.nil) (BsOk.h (SubM.cons 3 rfl (SubM.nil)) (SubL.nil) (BsOk.h (SubM.nil) (SubL.nil) (BsOk.h (SubM.nil) (SubL.nil) (BsOk.h (SubM.cons 3 rfl (SubM.nil)) (SubL.nil) (BsOk.h (SubM.nil) (SubL.nil) BsOk.z))))))))))))))))))) fun u76=>JR.loud rfl rfl rfl (Loud.buildS (e:=EI64I64p) ([((p3,p4))]) [(0,Value.agg #[Value.int .i64 (p3),Value.int .i64 (p4)])] rfl rfl rfl rfl (fill_1_2 (Value.int .i64 (p3)) (Value.int .i64 (p4))) rfl rfl rfl) rfl (fun u77=>(BsOk.h (SubM.cons 2 rfl (SubM.nil)) (SubL.nil) (BsOk.h (SubM.cons 6 rfl (SubM.nil)) (SubL.nil) (BsOk.h (SubM.cons 6 rfl (SubM.nil)) (SubL.nil) (BsOk.h (SubM.nil) (SubL.nil) (BsOk.h (SubM.cons 4 rfl (SubM.nil)) (SubL.nil) (BsOk.h (SubM.nil) (SubL.nil) (BsOk.b rfl (BsOk.h (SubM.cons 6 rfl (SubM.nil)) (SubL.nil) (BsOk.h (SubM.cons 6 rfl (SubM.nil)) (SubL.nil) (BsOk.h (SubM.nil) (SubL.nil) (BsOk.h (SubM.cons 4 rfl (SubM.nil)) (SubL.nil) (BsOk.h (SubM.nil) (SubL.nil) (BsOk.h (SubM.nil) (SubL.nil) (BsOk.h (SubM.cons 4 rfl (SubM.nil)) (SubL.nil) (BsOk.h (SubM.nil) (SubL.nil) (BsOk.h (SubM.nil) (SubL.nil) (BsOk.h (SubM.cons 4 rfl (SubM.nil)) (SubL.nil) (BsOk.h (SubM.nil) (SubL.nil) BsOk.z))))))))))))))))))) fun u77=>JR.loud rfl rfl rfl (Loud.appendRowL 7 FI64I64p rfl rfl rfl (Lent.ar (Lent.res 0 rfl) FI64I64p) rfl rfl rfl rfl hc26 hc34 rfl) rfl (fun u78=>(BsOk.h (SubM.cons 2 rfl (SubM.nil)) (SubL.nil) (BsOk.h (SubM.cons 6 rfl (SubM.nil)) (SubL.nil) (BsOk.h (SubM.cons 6 rfl (SubM.nil)) (SubL.nil) (BsOk.h (SubM.nil) (SubL.nil) (BsOk.h (SubM.cons 4 rfl (SubM.nil)) (SubL.nil) (BsOk.h (SubM.nil) (SubL.nil) (BsOk.b rfl (BsOk.b rfl (BsOk.b rfl (BsOk.b rfl (BsOk.b rfl (BsOk.b rfl (BsOk.h (SubM.nil) (SubL.nil) (BsOk.h (SubM.cons 4 rfl (SubM.nil)) (SubL.nil) (BsOk.h (SubM.nil) (SubL.nil) (BsOk.h (SubM.nil) (SubL.nil) (BsOk.h (SubM.cons 4 rfl (SubM.nil)) (SubL.nil) (BsOk.h (SubM.nil) (SubL.nil) BsOk.z))))))))))))))))))) fun u78=>JR.loud rfl rfl rfl (Loud.appendRow2 (j:=p2) 7 FI64I64p rfl rfl rfl (Lent.ar (Lent.res 1 rfl) FI64I64p) rfl rfl rfl rfl hc29 hc37 rfl hc38) rfl (fun u79=>(BsOk.b rfl (BsOk.b rfl (BsOk.b rfl (BsOk.b rfl (BsOk.b rfl (BsOk.b rfl (BsOk.b rfl (BsOk.b rfl (BsOk.b rfl (BsOk.b rfl (BsOk.b rfl (BsOk.b rfl (BsOk.h (SubM.nil) (SubL.nil) (BsOk.h (SubM.cons 4 rfl (SubM.nil)) (SubL.nil) (BsOk.h (SubM.nil) (SubL.nil) (BsOk.h (SubM.nil) (SubL.nil) (BsOk.h (SubM.cons 4 rfl (SubM.nil)) (SubL.nil) (BsOk.h (SubM.nil) (SubL.nil) BsOk.z))))))))))))))))))) fun u79=>JR.know (Know.rws 7 rfl) fun hl80=> ?_
     refine JR.qt rfl (SubM.cons 6 rfl (SubM.nil)) (SubL.nil) (Y.indexA 0 rfl rfl rfl rfl rfl hc39.1 (by have q1:=hc39.2;have q2:=hl80;(try simp only[List.length_set]at q1);(try simp only[List.length_set]at q2);(try simp only[List.length_set]);omega)) (HistOk.b rfl (HistOk.b rfl (HistOk.b rfl (HistOk.b rfl HistOk.z)))) ?_
     refine JR.know (Know.oneRow2 (k:=p2) (j:=p3) 7 rfl (by omega) ⟨hc39.1,by first|exact hc39.2|simpa using hc39.2⟩) fun ho81=> ?_
     refine JR.loud0 rfl rfl rfl (Loud.storeRow 6 7 ⟨hc39.1,by first|exact hc39.2|simpa using hc39.2⟩ rfl rfl rfl rfl (by simp) ho81 rfl) (fun x82=>(BsOk.b rfl (BsOk.b rfl (BsOk.b rfl (BsOk.b rfl (BsOk.b rfl (BsOk.b rfl (BsOk.b rfl (BsOk.b rfl (BsOk.b rfl (BsOk.b rfl (BsOk.b rfl (BsOk.b rfl (BsOk.b rfl (BsOk.h (SubM.nil) (SubL.nil) (BsOk.h (SubM.cons 4 rfl (SubM.nil)) (SubL.nil) (BsOk.h (SubM.nil) (SubL.nil) (BsOk.b rfl (BsOk.b rfl (BsOk.b rfl BsOk.z)))))))))))))))))))) fun x82=> ?_
     refine JR.tailD 24 rfl rfl<|J.know (Know.rws 7 rfl) fun hl83=> ?_
     refine J.quiet (Y.indexA 6 rfl rfl rfl rfl rfl hc43.1 (by have q1:=hc43.2;have q2:=hl83;(try simp only[List.length_set]at q1);(try simp only[List.length_set]at q2);(try simp only[List.length_set]);omega)) rfl ?_
     refine J.know (Know.oneRow 7 (k:=p3) rfl ⟨hc43.1,by first|exact hc43.2|simpa using hc43.2⟩) fun ho84=> ?_
     refine J.storeRow 6 7 ⟨hc43.1,by first|exact hc43.2|simpa using hc43.2⟩ rfl rfl rfl rfl rfl (by simp) ho84 rfl ?_
     refine J.done ?_
     obtain rfl:=Option.some.inj h
     exact J.retG0 (List.set (List.set w5 (Int.toNat p2) u78) (Int.toNat p3) u79) rfl rfl .normal (.inr rfl) (SubM.cons 6 rfl (SubM.cons 6 rfl (SubM.nil))) LentAll.nil
end Go.Proofs.YtfbkplemadmbfaaGreatDoor
end
section
namespace Go.Proofs.YtfbkplemadmbfaaGreatDoor
open Go.Sx
def _world_Net__Tree_k1 (r3:(List (Int)×(List (List (Int×Int))))) (a11:(List (List (Int×Int)))):Option ((List (Int)×(List (List (Int×Int))))):=
 some ((r3.1,a11))
def _world_Net__Tree_s1 (fuel:Nat) (p0:Int×List (Int)×List (Int)×List (Int)×Bool×Bool) (r3:(List (Int)×(List (List (Int×Int))))) (a19:Int×(List (List (Int×Int)))) (ag18:(Int×(List (List (Int×Int))))->Option ((List (Int)×(List (List (Int×Int)))))):Option ((List (Int)×(List (List (Int×Int))))):=
 if a19.1<(List.length a19.2:Int)then(Option.bind (m_world_at fuel p0.2.1 (wI .i64 (a19.1 - (1:Int)))) fun r23=>(Option.bind (m_world_Within fuel r23 a19.1) fun r26=>(Option.bind (m_world_at fuel p0.2.2.1 (wI .i64 (a19.1 - (1:Int)))) fun r29=>(Option.bind (m_world_Within fuel r29 (15:Int)) fun r32=>(Option.bind (m__world_Net__link fuel ((p0.1,p0.2.1,p0.2.2.1,p0.2.2.2.1,p0.2.2.2.2.1,p0.2.2.2.2.2)) ((r3.1,a19.2)) r26 a19.1 (wI .i64 ((1:Int)+r32))) fun r35=>(ag18 ((wI .i64 (a19.1+(1:Int))),r35)))))))else(_world_Net__Tree_k1 r3 (a19.2))
def m__world_Net__Tree (fuel:Nat) (p0:Int×List (Int)×List (Int)×List (Int)×Bool×Bool) (p1:Int):Option ((List (Int)×(List (List (Int×Int))))):=
 Option.bind (m__world_Net__nodes fuel ((p0.1,p0.2.1,p0.2.2.1,p0.2.2.2.1,p0.2.2.2.2.1,p0.2.2.2.2.2)) p1) fun r3=>(iter (_world_Net__Tree_s1 fuel p0 r3) fuel ((1:Int),r3.2))
theorem body28:HasBody Tryz.prog 28:=Tryz.call28
theorem t__world_Net__Tree (fuel:Nat) {p0:Int×List (Int)×List (Int)×List (Int)×Bool×Bool} {p1:Int} (v0:Value)  (v1:Value)  (v2:Value) (r:(List (Int)×(List (List (Int×Int))))) (h:m__world_Net__Tree fuel p0 p1=some r):
  Meets Tryz.prog 28 #[Value.agg #[Value.int .i64 (p0.1),v0,v1,v2,Value.bool (p0.2.2.2.2.1),Value.bool (p0.2.2.2.2.2)],Value.int .i64 (p1)] [Sl RI64 v0 p0.2.1,Sl RI64 v1 p0.2.2.1,Sl RI64 v2 p0.2.2.2.1] (fun x:Value×Value×List Value=>Value.agg #[x.1,x.2.1]) (fun x l=>Ar EI64 x.1 r.1::Ar Enc.raw x.2.1 x.2.2::Rws EI64I64p x.2.2 r.2::l) (fun _ l=>l):=by
 refine Meets.of (vs:=[Value.agg #[Value.int .i64 (p0.1),v0,v1,v2,Value.bool (p0.2.2.2.2.1),Value.bool (p0.2.2.2.2.2)],Value.int .i64 (p1)]) Tryz.func28 rfl Tryz.ntmps28 rfl fun c=> ?_
 unfold m__world_Net__Tree at h
 refine J.seq<|J.region<|J.loud (Loud.box (cs:=[Value.int .i64 (p0.1),v0,v1,v2,Value.bool (p0.2.2.2.2.1),Value.bool (p0.2.2.2.2.2)]) rfl rfl) rfl fun b1=>J.loud (Loud.alloc (cs:=[Value.slice none 0 0,Value.slice none 0 0]) rfl rfl) rfl fun b2=>J.done<|J.thenN<|J.seq<|J.region<|J.quiet (Y.loadBAll 1 rfl rfl rfl rfl) rfl<|J.quiet (Y.move rfl) rfl ?_
 have h:=bnd h;obtain⟨r3,hr4,h⟩:=h
 refine J.loud (Loud.callL body62 (t__world_Net__nodes fuel v0 v1 v2 r3 hr4) rfl (LentAll.cons (Lent.fact 0 rfl) (LentAll.cons (Lent.fact 1 rfl) (LentAll.cons (Lent.fact 2 rfl) .nil))) (fun _ _=>rfl)) rfl fun x5=>J.loud (Loud.alloc (cs:=[Value.slice none 0 0,Value.slice none 0 0]) rfl rfl) rfl fun b6=>J.know (Know.one ((Lent.ar (Lent.res 1 rfl) FI64))) fun ho7=>J.know (Know.one (Lent.sl (Lent.rows (i:=2) (j:=3) rfl rfl FI64I64p))) fun ho8=>J.storeAll 0 (vs:=[x5.1,x5.2.1]) rfl rfl (all1 ho7 (all1 ho8 rfl)) rfl rfl rfl<|J.done<|J.thenN<|J.seq<|J.midI (A:=(List (List (Int×Int)))) (B:=List Value) (fun a11=>_world_Net__Tree_k1 r3 a11=some r) (fun a11 b12=>[(4,Value.pointer (some ⟨b2,0,none⟩)),(5,Value.pointer (some ⟨b6,0,none⟩))]) (fun a11 b12=>[Blk b6 [x5.1,x5.2.1] 25,Ar EI64 x5.1 r3.1,Ar Enc.raw x5.2.1 b12,Rws EI64I64p b12 a11,Blk b2 [Value.slice none 0 0,Value.slice none 0 0] 25]) (fun a11 b12=>[Sl RI64 v0 p0.2.1,Sl RI64 v1 p0.2.2.1,Sl RI64 v2 p0.2.2.2.1]) ?_ ?_
 ·refine J.seq<|J.region<|J.quiet (Y.assign rfl) rfl<|J.done<|J.thenN<|J.block<|J.loopI (A:=Int×(List (List (Int×Int)))) (B:=List Value) (_world_Net__Tree_s1 fuel p0 r3) (fun a19 b20=>[(2,Value.pointer (some ⟨b1,0,none⟩)),(4,Value.pointer (some ⟨b2,0,none⟩)),(5,Value.pointer (some ⟨b6,0,none⟩)),(6,Value.int .i64 (a19.1))]) (fun a19 b20=>[Blk b6 [x5.1,x5.2.1] 25,Ar EI64 x5.1 r3.1,Ar Enc.raw x5.2.1 b20,Rws EI64I64p b20 a19.2,Blk b2 [Value.slice none 0 0,Value.slice none 0 0] 25,Blk b1 [Value.int .i64 (p0.1),v0,v1,v2,Value.bool (p0.2.2.2.2.1),Value.bool (p0.2.2.2.2.2)] 38]) (fun a19 b20=>[Sl RI64 v0 p0.2.1,Sl RI64 v1 p0.2.2.1,Sl RI64 v2 p0.2.2.2.1]) ((1:Int),r3.2) (x5.2.2) h SF (SubM.refl _) (LentAll.refl _ _) ?_
  clear h
  intro k21 a19 b20 h
  unfold _world_Net__Tree_s1 at h
  refine J.seq<|J.seq<|J.region<|J.quiet (Y.move rfl) rfl<|J.quiet (Y.fieldB rfl rfl rfl rfl rfl) rfl<|J.quiet (Y.loadB 0 rfl rfl rfl rfl rfl) rfl<|J.quiet (Y.lenN rfl (Lent.rows (i:=2) (j:=3) rfl rfl FI64I64p) rfl) rfl<|J.quiet (Y.lss rfl rfl) rfl<|J.done<|J.thenN ?_
  refine J.condD (by exact rfl) (fun hp22=> ?_) (fun hp22=> ?_)
  ·have h:=ifP hp22 h
   refine J.skip<|J.thenN<|J.seq<|J.block ?_
   refine JR.start [0,0,0,4,0,16,60,0,252,0,0,1024,0,4096,15868,32252,65020,131071] 17 mixedOrders (by decide +kernel) ?_
   refine JR.open (by exact rfl) ?_
   refine JR.qt rfl (SubM.cons 5 rfl (SubM.nil)) (SubL.nil) (Y.loadBAll 0 rfl rfl rfl rfl) HistOk.z<|JR.qt rfl (SubM.cons 0 rfl (SubM.nil)) (SubL.nil) (Y.loadBAll 0 rfl rfl rfl rfl) HistOk.z<|JR.qt rfl (SubM.nil) (SubL.nil) (Y.fieldB rfl rfl rfl rfl rfl) HistOk.z<|JR.qt rfl (SubM.cons 5 rfl (SubM.nil)) (SubL.nil) (Y.loadB 0 rfl rfl rfl rfl rfl) HistOk.z<|JR.qt rfl (SubM.nil) (SubL.nil) (Y.move rfl) HistOk.z<|JR.qt rfl (SubM.nil) (SubL.nil) (Y.subW rfl rfl) HistOk.z ?_
   have h:=bnd h;obtain⟨r23,hr24,h⟩:=h
   refine JR.loud rfl rfl rfl (Loud.callL body65 (t_world_at fuel v0 r23 hr24) rfl (LentAll.cons (Lent.fact 0 rfl) .nil) (fun _ _=>rfl)) rfl (fun x25=>(BsOk.b rfl (BsOk.b rfl (BsOk.b rfl (BsOk.b rfl (BsOk.h (SubM.cons 0 rfl (SubM.nil)) (SubL.nil) (BsOk.h (SubM.cons 5 rfl (SubM.nil)) (SubL.nil) BsOk.z))))))) fun x25=>JR.qt rfl (SubM.nil) (SubL.nil) (Y.move rfl) (HistOk.h (SubM.nil) (SubL.nil) HistOk.z) ?_
   have h:=bnd h;obtain⟨r26,hr27,h⟩:=h
   refine JR.loud rfl rfl rfl (Loud.callL body64 (t_world_Within fuel  r26 hr27) rfl .nil (fun _ _=>rfl)) rfl (fun x28=>(BsOk.b rfl (BsOk.b rfl (BsOk.b rfl (BsOk.b rfl (BsOk.b rfl (BsOk.h (SubM.cons 0 rfl (SubM.nil)) (SubL.nil) (BsOk.h (SubM.cons 5 rfl (SubM.nil)) (SubL.nil) BsOk.z)))))))) fun x28=>JR.qt rfl (SubM.nil) (SubL.nil) (Y.move rfl) (HistOk.h (SubM.nil) (SubL.nil) (HistOk.h (SubM.nil) (SubL.nil) HistOk.z))<|JR.qt rfl (SubM.nil) (SubL.nil) (Y.fieldB rfl rfl rfl rfl rfl) (HistOk.h (SubM.nil) (SubL.nil) (HistOk.h (SubM.nil) (SubL.nil) HistOk.z))<|JR.qt rfl (SubM.cons 5 rfl (SubM.nil)) (SubL.nil) (Y.loadB 0 rfl rfl rfl rfl rfl) (HistOk.h (SubM.cons 5 rfl (SubM.nil)) (SubL.nil) (HistOk.h (SubM.cons 5 rfl (SubM.nil)) (SubL.nil) HistOk.z))<|JR.qt rfl (SubM.nil) (SubL.nil) (Y.move rfl) (HistOk.h (SubM.nil) (SubL.nil) (HistOk.h (SubM.nil) (SubL.nil) HistOk.z))<|JR.qt rfl (SubM.nil) (SubL.nil) (Y.subW rfl rfl) (HistOk.h (SubM.nil) (SubL.nil) (HistOk.h (SubM.nil) (SubL.nil) HistOk.z)) ?_
   have h:=bnd h;obtain⟨r29,hr30,h⟩:=h
   refine JR.loud rfl rfl rfl (Loud.callL body65 (t_world_at fuel v1 r29 hr30) rfl (LentAll.cons (Lent.fact 1 rfl) .nil) (fun _ _=>rfl)) rfl (fun x31=>(BsOk.b rfl (BsOk.b rfl (BsOk.b rfl (BsOk.b rfl (BsOk.h (SubM.nil) (SubL.nil) (BsOk.b rfl (BsOk.b rfl (BsOk.b rfl (BsOk.b rfl (BsOk.b rfl (BsOk.h (SubM.cons 0 rfl (SubM.nil)) (SubL.nil) (BsOk.h (SubM.cons 5 rfl (SubM.nil)) (SubL.nil) BsOk.z))))))))))))) fun x31=> ?_
   have h:=bnd h;obtain⟨r32,hr33,h⟩:=h
   refine JR.loud rfl rfl rfl (Loud.callL body64 (t_world_Within fuel  r32 hr33) rfl .nil (fun _ _=>rfl)) rfl (fun x34=>(BsOk.b rfl (BsOk.b rfl (BsOk.b rfl (BsOk.b rfl (BsOk.h (SubM.nil) (SubL.nil) (BsOk.b rfl (BsOk.b rfl (BsOk.b rfl (BsOk.b rfl (BsOk.b rfl (BsOk.h (SubM.cons 0 rfl (SubM.nil)) (SubL.nil) (BsOk.h (SubM.cons 5 rfl (SubM.nil)) (SubL.nil) BsOk.z))))))))))))) fun x34=>JR.qt rfl (SubM.nil) (SubL.nil) (Y.addW rfl rfl) (HistOk.b rfl (HistOk.b rfl (HistOk.b rfl (HistOk.b rfl HistOk.z))))<|JR.tailD 17 rfl rfl ?_
   have h:=bnd h;obtain⟨r35,hr36,h⟩:=h
   refine J.loud (Loud.callM (Min:=[Ar Enc.raw x5.2.1 b20,Rws EI64I64p b20 a19.2]) (Mr:=[Blk b6 [x5.1,x5.2.1] 25,Ar EI64 x5.1 r3.1,Blk b2 [Value.slice none 0 0,Value.slice none 0 0] 25,Blk b1 [Value.int .i64 (p0.1),v0,v1,v2,Value.bool (p0.2.2.2.2.1),Value.bool (p0.2.2.2.2.2)] 38]) body63 (t__world_Net__link fuel v0 v1 v2 x5.1 x5.2.1 b20 r35 hr36) rfl (SubM.cons 2 rfl (SubM.cons 2 rfl (SubM.cons 0 rfl (SubM.cons 0 rfl (SubM.cons 0 rfl (SubM.cons 0 rfl (SubM.nil))))))) (LentAll.cons (Lent.fact 0 rfl) (LentAll.cons (Lent.fact 1 rfl) (LentAll.cons (Lent.fact 2 rfl) (LentAll.cons (Lent.ar (Lent.res 1 rfl) FI64) .nil)))) (fun _ _=>rfl)) rfl fun x37=>J.done<|J.inN<|J.thenN<|J.region<|J.quiet (Y.move rfl) rfl<|J.quiet (Y.addW rfl rfl) rfl<|J.quiet (Y.assign rfl) rfl<|J.done<|J.thenN ?_
   exact J.againI ((wI .i64 (a19.1+(1:Int))),r35) (x37) h SF (SubM.cons 2 rfl (SubM.cons 2 rfl (SubM.cons 0 rfl (SubM.cons 0 rfl (SubM.cons 0 rfl (SubM.cons 0 rfl (SubM.nil))))))) (LentAll.refl _ _)
  ·have h:=ifN hp22 h
   refine J.exit<|J.thenX<|J.thenX<|J.inX<|J.thenN ?_
   exact J.meetI (a19.2) (b20) h SF (SubM.cons 0 rfl (SubM.cons 0 rfl (SubM.cons 0 rfl (SubM.cons 0 rfl (SubM.cons 0 rfl (SubM.nil)))))) (LentAll.refl _ _)
 ·clear h
  intro a11 b12 h
  unfold _world_Net__Tree_k1 at h
  refine J.seq<|J.region<|J.quiet (Y.loadBAll 0 rfl rfl rfl rfl) rfl<|J.know (Know.one ((Lent.ar (Lent.res 1 rfl) FI64))) fun ho13=>J.know (Know.one (Lent.sl (Lent.rows (i:=2) (j:=3) rfl rfl FI64I64p))) fun ho14=>J.storeAll 4 (vs:=[x5.1,x5.2.1]) rfl rfl (all1 ho13 (all1 ho14 rfl)) rfl rfl rfl<|J.done<|J.thenN<|J.ret ?_
  obtain rfl:=Option.some.inj h
  exact J.retG1 (x5.1,x5.2.1,b12) rfl rfl (RV.cell 4 rfl rfl rfl rfl) (SubM.cons 1 rfl (SubM.cons 1 rfl (SubM.cons 1 rfl (SubM.nil)))) LentAll.nil
end Go.Proofs.YtfbkplemadmbfaaGreatDoor
end
section
namespace Go.Proofs.YtfbkplemadmbfaaGreatDoor
open Go.Sx
def m_bits_TrailingZeros32 (fuel:Nat) (p0:Int):Option (Int):=
 if p0=(0:Int)then(some (32:Int))else(ck (0<=(27:Int)) (ck ((0<=(bShr .u32 (wI .u32 ((bAnd .u32 p0 (wI .u32 (0 - p0)))*(125613361:Int))) (27:Int))∧(bShr .u32 (wI .u32 ((bAnd .u32 p0 (wI .u32 (0 - p0)))*(125613361:Int))) (27:Int))<((32:Nat):Int))∧List.length tab0=32) (some (wI .i64 (at' tab0 (bShr .u32 (wI .u32 ((bAnd .u32 p0 (wI .u32 (0 - p0)))*(125613361:Int))) (27:Int)))))))
theorem body172:HasBody Tryz.prog 172:=Tryz.call172
theorem t_bits_TrailingZeros32 (fuel:Nat) {p0:Int} (r:Int) (h:m_bits_TrailingZeros32 fuel p0=some r):
  Meets Tryz.prog 172 #[Value.int .u32 (p0)] [Gb 0 (cellsOf EU8 tab0)] (fun x:Unit=>Value.int .i64 (r)) (fun x l=>l) (fun _ l=>l):=by
 refine Meets.of (vs:=[Value.int .u32 (p0)]) Tryz.func172 rfl Tryz.ntmps172 rfl fun c=> ?_
 unfold m_bits_TrailingZeros32 at h
 refine J.seq<|J.region<|J.quiet (Y.assign rfl) rfl<|J.done<|J.thenN<|J.seq<|J.seq<|J.region<|J.quiet (Y.move rfl) rfl<|J.quiet (Y.eql rfl rfl) rfl<|J.done<|J.thenN ?_
 refine J.condD (by exact rfl) (fun hp1=> ?_) (fun hp1=> ?_)
 ·have h:=ifP hp1 h
  refine J.seq<|J.region<|J.quiet (Y.assign rfl) rfl<|J.done<|J.thenN<|J.ret<|J.thenR ?_
  obtain rfl:=Option.some.inj h
  exact J.retG1 (()) rfl rfl (RV.tmp rfl) (SubM.refl _) LentAll.nil
 ·have h:=ifN hp1 h
  refine J.skip<|J.thenN<|J.seq<|J.region<|J.quiet (Y.move rfl) rfl<|J.quiet (Y.move rfl) rfl<|J.quiet (Y.neg rfl) rfl<|J.quiet (Y.and rfl rfl) rfl<|J.quiet (Y.mulW rfl rfl) rfl ?_
  have h:=ck_some h;obtain⟨hc2,h⟩:=h
  refine J.quiet (Y.shr rfl rfl hc2) rfl ?_
  have h:=ck_some h;obtain⟨hc3,h⟩:=h
  refine J.quiet (Y.indexArrK rfl rfl rfl rfl rfl hc3.1) rfl<|J.quiet (Y.loadGlb (e:=EU8) rfl (Lent.fact 0 rfl) rfl rfl rfl rfl hc3) rfl<|J.quiet (Y.conv rfl rfl rfl) rfl<|J.quiet (Y.assign rfl) rfl<|J.done<|J.thenN<|J.ret ?_
  obtain rfl:=Option.some.inj h
  exact J.retG1 (()) rfl rfl (RV.tmp rfl) (SubM.refl _) LentAll.nil
end Go.Proofs.YtfbkplemadmbfaaGreatDoor
end
section
namespace Go.Proofs.YtfbkplemadmbfaaGreatDoor
open Go.Sx
def _daemon_Net__independent_k1  (a7:Unit):Option (Bool):=
 some (true)
def _daemon_Net__independent_s1 (fuel:Nat) (p0:List (Int)) (p1:Int) (a18:Int) (ag17:(Int)->Option (Bool)):Option (Bool):=
 if a18≠(0:Int)then(Option.bind (m_bits_TrailingZeros32 fuel a18) fun r22=>(ck (0<=r22∧r22<(List.length p0:Int)) (if(bAnd .u32 (at' p0 r22) p1)≠(0:Int)then(some (false))else(ag17 (bAnd .u32 a18 (wI .u32 (a18 - (1:Int))))))))else(_daemon_Net__independent_k1  (()))
def _daemon_Net__independent_k2 (fuel:Nat) (p0:List (Int)) (p1:Int) (a10:Unit):Option (Bool):=
 iter (_daemon_Net__independent_s1 fuel p0 p1) fuel (p1)
def m__daemon_Net__independent (fuel:Nat) (p0:List (Int)) (p1:Int):Option (Bool):=
 _daemon_Net__independent_k2 fuel p0 p1 (())
theorem body166:HasBody Tryz.prog 166:=Tryz.call166
theorem t__daemon_Net__independent (fuel:Nat) {p0:List (Int)} {p1:Int} (v0:Value) (r:Bool) (h:m__daemon_Net__independent fuel p0 p1=some r):
  Meets Tryz.prog 166 #[v0,Value.int .u32 (p1)] [Sl RU32 v0 p0,Gb 0 (cellsOf EU8 tab0)] (fun x:Unit=>Value.bool (r)) (fun x l=>l) (fun _ l=>l):=by
 refine Meets.of (vs:=[v0,Value.int .u32 (p1)]) Tryz.func166 rfl Tryz.ntmps166 rfl fun c=> ?_
 unfold m__daemon_Net__independent at h
 refine J.stp Stp.dfs0<|J.seq<|J.region<|J.know (Know.one ((Lent.fact 0 rfl))) fun ho3=> ?_
 refine J.loud (Loud.box (cs:=[v0]) rfl (by rw[one_cells ho3])) rfl fun b2=> ?_
 refine J.loud (Loud.box (cs:=[Value.int .u32 (p1)]) rfl rfl) rfl fun b4=>J.loud (Loud.alloc (cs:=[Value.bool (false)]) rfl rfl) rfl fun b5=>J.done<|J.thenN<|J.seq<|J.midN (A:=Unit) (B:=List Nat) (fun a7 b8=>⟨16,marks b8⟩) (fun a7=>_daemon_Net__independent_k1  a7=some r) (fun a7 b8=>[(4,Value.pointer (some ⟨b5,0,none⟩))]) (fun a7 b8=>[Blk b5 [Value.bool (false)] 4,Dfs b8]) (fun a7 b8=>[Sl RU32 v0 p0,Gb 0 (cellsOf EU8 tab0)]) ?_ ?_
 ·refine J.seq<|J.region<|J.quiet (Y.loadB 1 rfl rfl rfl rfl rfl) rfl<|J.inlC (A:=Unit) (B:=Nat) (vs:=[Value.int .u32 (p1)]) (fun a10=>_daemon_Net__independent_k2 fuel p0 p1 a10=some r) (fun a10 b11=>Value.func (.func 171) #[] #[Value.pointer (some ⟨b11,0,none⟩)]) (fun a10 b11=>[Blk b11 [Value.int .u32 (p1)] 26,Blk b5 [Value.bool (false)] 4,Blk b4 [Value.int .u32 (p1)] 26,Blk b2 [v0] 93,Dfs ([]:List Nat)]) (fun a10 b11=>[Sl RU32 v0 p0,Gb 0 (cellsOf EU8 tab0)]) (Enter.fn (show HasBody Tryz.prog 138 from Tryz.call138) rfl) Tryz.func138 rfl Tryz.ntmps138 rfl rfl ?_ ?_
  ·refine J.seq<|J.region<|J.loud (Loud.box (cs:=[Value.int .u32 (p1)]) rfl rfl) rfl fun b27=>J.quiet (Y.assign rfl) rfl<|J.done<|J.thenN<|J.seq<|J.region<|J.quiet (Y.makeFunc (cs:=[.tmp 1]) (vs:=[Value.pointer (some ⟨b27,0,none⟩)]) rfl) rfl<|J.quiet (Y.assign rfl) rfl<|J.done<|J.thenN<|J.ret ?_
   exact J.retM (()) (b27) h (.inl rfl) (Res.r1 rfl (RV.tmp rfl)) rfl (SubM.refl _) (LentAll.refl _ _)
  ·clear h
   intro a10 b11 h
   unfold _daemon_Net__independent_k2 at h
   refine J.done<|J.thenN<|J.block<|J.rangeFuncD (i:=4) (cs:=[Value.pointer (some ⟨b11,0,none⟩)]) ([]:List Nat) rfl (show HasBody Tryz.prog 171 from Tryz.call171) rfl Tryz.func171 rfl Tryz.ntmps171 rfl fun l12 D13 R14 hR15=>J.block<|J.loopI (A:=Int) (B:=Unit) (_daemon_Net__independent_s1 fuel p0 p1) (fun a18 b19=>[(0,yieldV l12),(1,Value.pointer (some ⟨b11,0,none⟩))]) (fun a18 b19=>[Lp l12 R14 LoopState.ready none,Blk b11 [Value.int .u32 (a18)] 26,Blk b5 [Value.bool (false)] 4,Blk b4 [Value.int .u32 (p1)] 26,Blk b2 [v0] 93,Dfs (List.cons D13 ([]:List Nat))]) (fun a18 b19=>[Sl RU32 v0 p0,Gb 0 (cellsOf EU8 tab0)]) (p1) (()) h SF (SubM.refl _) (LentAll.refl _ _) ?_
   clear h
   intro k20 a18 b19 h
   unfold _daemon_Net__independent_s1 at h
   refine J.seq<|J.seq<|J.region<|J.quiet (Y.loadB 1 rfl rfl rfl rfl rfl) rfl<|J.quiet (Y.neq rfl rfl) rfl<|J.done<|J.thenN ?_
   refine J.condD (by exact rfl) (fun hp21=> ?_) (fun hp21=> ?_)
   ·have h:=ifP hp21 h
    refine J.skip<|J.thenN<|J.seq<|J.block<|J.seq<|J.region<|J.quiet (Y.move rfl) rfl<|J.quiet (Y.loadB 1 rfl rfl rfl rfl rfl) rfl ?_
    have h:=bnd h;obtain⟨r22,hr23,h⟩:=h
    refine J.loud (Loud.callL body172 (t_bits_TrailingZeros32 fuel  r22 hr23) rfl (LentAll.cons (Lent.fact 1 rfl) .nil) (fun _ _=>rfl)) rfl fun x24=>J.yieldR (us:=[Value.int .i64 (r22)]) (i:=0) hR15 rfl rfl rfl rfl rfl rfl<|J.region<|J.quiet (Y.assign rfl) rfl<|J.done<|J.thenN<|J.begin (i:=0) rfl<|J.block<|J.seq ?_
    refine JR.start [0,0,3,7,0,31,63] 5 mixedOrders (by decide +kernel) ?_
    refine JR.open (by exact rfl) ?_
    refine JR.qt rfl (SubM.cons 4 rfl (SubM.nil)) (SubL.nil) (Y.loadB 0 rfl rfl rfl rfl rfl) HistOk.z<|JR.qt rfl (SubM.nil) (SubL.nil) (Y.move rfl) HistOk.z ?_
    have h:=ck_some h;obtain⟨hc25,h⟩:=h
    refine JR.qt rfl (SubM.nil) (SubL.cons (List.mem_of_getElem? (i:=0) rfl) (SubL.nil)) (Y.indexS rfl rfl (Lent.fact 0 rfl) rfl rfl hc25) HistOk.z<|JR.qt rfl (SubM.nil) (SubL.cons (List.mem_of_getElem? (i:=0) rfl) (SubL.nil)) (Y.loadS0 rfl (Lent.fact 0 rfl) rfl rfl rfl RU32c0 hc25) HistOk.z<|JR.qt rfl (SubM.cons 3 rfl (SubM.nil)) (SubL.nil) (Y.loadB 0 rfl rfl rfl rfl rfl) HistOk.z<|JR.tailD 5 rfl rfl<|J.quiet (Y.and rfl rfl) rfl<|J.quiet (Y.neq rfl rfl) rfl<|J.done<|J.thenN ?_
    refine J.condD (by exact rfl) (fun hp26=> ?_) (fun hp26=> ?_)
    ·have h:=ifP hp26 h
     refine J.seq<|J.region<|J.store1 2 rfl rfl rfl rfl rfl rfl<|J.done<|J.thenN<|J.ret<|J.inR<|J.roundR (i:=0) rfl<|J.quiet (Y.not rfl) rfl<|J.done<|J.thenN<|J.condT rfl<|J.ret<|J.inR<|J.thenR<|J.thenR<|J.inR<|J.retFR (i:=0) (.inl rfl) rfl (Res.r0 rfl)<|J.inR<|J.thenR<|J.unmarkAll (i:=5) (Ds:=(List.cons D13 ([]:List Nat))) (.inl rfl) rfl ?_
     obtain rfl:=Option.some.inj h
     exact J.retG1 (()) rfl rfl (RV.cell1 2 rfl rfl rfl rfl) (SubM.nil) LentAll.nil
    ·have h:=ifN hp26 h
     refine J.skip<|J.inN<|J.roundN (i:=0) rfl<|J.quiet (Y.not rfl) rfl<|J.done<|J.thenN<|J.condF rfl<|J.skip<|J.inN<|J.thenN<|J.region<|J.quiet (Y.loadB 1 rfl rfl rfl rfl rfl) rfl<|J.quiet (Y.loadB 1 rfl rfl rfl rfl rfl) rfl<|J.quiet (Y.subW rfl rfl) rfl<|J.quiet (Y.and rfl rfl) rfl<|J.store1 1 rfl rfl rfl rfl rfl rfl<|J.done<|J.thenN ?_
     exact J.againI (bAnd .u32 a18 (wI .u32 (a18 - (1:Int)))) (()) h SF (SubM.refl _) (LentAll.refl _ _)
   ·have h:=ifN hp21 h
    refine J.exit<|J.thenX<|J.thenX<|J.inX<|J.retF (i:=0) (.inr rfl) rfl (Res.r0 rfl)<|J.inN<|J.thenN ?_
    exact J.meetN (()) (List.cons D13 ([]:List Nat)) rfl h SF (SubM.cons 2 rfl (SubM.cons 4 rfl (SubM.nil))) (LentAll.refl _ _)
 ·clear h
  intro a7 b8 h
  unfold _daemon_Net__independent_k1 at h
  refine J.seq<|J.region<|J.store1 0 rfl rfl rfl rfl rfl rfl<|J.done<|J.thenN<|J.ret<|J.unmarkAll (i:=1) (Ds:=(b8)) (.inl rfl) rfl ?_
  obtain rfl:=Option.some.inj h
  exact J.retG1 (()) rfl rfl (RV.cell1 0 rfl rfl rfl rfl) (SubM.nil) LentAll.nil
end Go.Proofs.YtfbkplemadmbfaaGreatDoor
end
section
namespace Go.Proofs.YtfbkplemadmbfaaGreatDoor
open Go.Sx
def _daemon_Net__Permits_k1 (fuel:Nat) (p0:List (Int)) (p1:Int) (p2:Int) (p3:Int) (a2:Bool):Option (Bool):=
 if a2=true then(some (false))else(if p1=(1:Int)then(some (decide ((bAnd .u32 p3 (wI .u32 (p3 - (1:Int))))=(0:Int))))else(if p1=(2:Int)then(Option.bind (m__daemon_Net__independent fuel p0 p3) fun r7=>(some (r7)))else(if p1=(4:Int)then(some (decide (p3=p2)))else(some (true)))))
def m__daemon_Net__Permits (fuel:Nat) (p0:List (Int)) (p1:Int) (p2:Int) (p3:Int):Option (Bool):=
 if p3=(0:Int)then(_daemon_Net__Permits_k1 fuel p0 p1 p2 p3 (true))else(_daemon_Net__Permits_k1 fuel p0 p1 p2 p3 (decide ((bAndNot .u32 p3 p2)≠(0:Int))))
theorem body135:HasBody Tryz.prog 135:=Tryz.call135
theorem t__daemon_Net__Permits (fuel:Nat) {p0:List (Int)} {p1:Int} {p2:Int} {p3:Int} (v0:Value) (r:Bool) (h:m__daemon_Net__Permits fuel p0 p1 p2 p3=some r):
  Meets Tryz.prog 135 #[v0,Value.int .i64 (p1),Value.int .u32 (p2),Value.int .u32 (p3)] [Sl RU32 v0 p0,Gb 0 (cellsOf EU8 tab0)] (fun x:Unit=>Value.bool (r)) (fun x l=>l) (fun _ l=>l):=by
 refine Meets.of (vs:=[v0,Value.int .i64 (p1),Value.int .u32 (p2),Value.int .u32 (p3)]) Tryz.func135 rfl Tryz.ntmps135 rfl fun c=> ?_
 unfold m__daemon_Net__Permits at h
 refine J.seq<|J.region<|J.quiet (Y.assign rfl) rfl<|J.done<|J.thenN<|J.seq<|J.seq<|J.midI (A:=Bool) (B:=Unit) (fun a2=>_daemon_Net__Permits_k1 fuel p0 p1 p2 p3 a2=some r) (fun a2 b3=>[(0,v0),(1,Value.int .i64 (p1)),(2,Value.int .u32 (p2)),(3,Value.int .u32 (p3)),(16,Value.bool (a2))]) (fun a2 b3=>[]) (fun a2 b3=>[Sl RU32 v0 p0,Gb 0 (cellsOf EU8 tab0)]) ?_ ?_
 ·refine J.region<|J.quiet (Y.move rfl) rfl<|J.quiet (Y.eql rfl rfl) rfl<|J.quiet (Y.move rfl) rfl ?_
  refine J.guardD (by exact rfl) (by exact rfl) (fun hp11=> ?_) (fun hp11=> ?_)
  ·have h:=ifP hp11 h
   refine J.guardN rfl rfl rfl<|J.guardN rfl rfl rfl<|J.guardN rfl rfl rfl<|J.guardN rfl rfl rfl<|J.quiet (Y.pickT rfl rfl) rfl<|J.done<|J.thenN ?_
   exact J.meetI (true) (()) h SF (SubM.refl _) (LentAll.refl _ _)
  ·have h:=ifN hp11 h
   refine J.guardY rfl (Y.move rfl) rfl<|J.guardY rfl (Y.move rfl) rfl<|J.guardY rfl (Y.andNot rfl rfl) rfl<|J.guardY rfl (Y.neq rfl rfl) rfl<|J.quiet (Y.pickF rfl rfl) rfl<|J.done<|J.thenN ?_
   exact J.meetI (decide ((bAndNot .u32 p3 p2)≠(0:Int))) (()) h SF (SubM.refl _) (LentAll.refl _ _)
 ·clear h
  intro a2 b3 h
  unfold _daemon_Net__Permits_k1 at h
  refine J.cond (by exact rfl) (fun hp4=> ?_) (fun hp4=> ?_)
  ·have h:=ifP hp4 h
   refine J.seq<|J.region<|J.quiet (Y.assign rfl) rfl<|J.done<|J.thenN<|J.ret<|J.thenR ?_
   obtain rfl:=Option.some.inj h
   exact J.retG1 (()) rfl rfl (RV.tmp rfl) (SubM.refl _) LentAll.nil
  ·have h:=ifBN hp4 h
   refine J.skip<|J.thenN<|J.seq<|J.seq<|J.region<|J.quiet (Y.move rfl) rfl<|J.done<|J.thenN<|J.block<|J.seq<|J.region<|J.quiet (Y.eql rfl rfl) rfl<|J.quiet (Y.assign rfl) rfl<|J.done<|J.thenN ?_
   refine J.condD (by exact rfl) (fun hp5=> ?_) (fun hp5=> ?_)
   ·have h:=ifP hp5 h
    refine J.seq<|J.region<|J.quiet (Y.move rfl) rfl<|J.quiet (Y.move rfl) rfl<|J.quiet (Y.subW rfl rfl) rfl<|J.quiet (Y.and rfl rfl) rfl<|J.quiet (Y.eql rfl rfl) rfl<|J.quiet (Y.assign rfl) rfl<|J.done<|J.thenN<|J.ret<|J.inR<|J.thenR ?_
    obtain rfl:=Option.some.inj h
    exact J.retG1 (()) rfl rfl (RV.tmp rfl) (SubM.refl _) LentAll.nil
   ·have h:=ifN hp5 h
    refine J.seq<|J.region<|J.quiet (Y.eql rfl rfl) rfl<|J.quiet (Y.assign rfl) rfl<|J.done<|J.thenN ?_
    refine J.condD (by exact rfl) (fun hp6=> ?_) (fun hp6=> ?_)
    ·have h:=ifP hp6 h
     refine J.seq<|J.region<|J.quiet (Y.move rfl) rfl<|J.quiet (Y.move rfl) rfl ?_
     have h:=bnd h;obtain⟨r7,hr8,h⟩:=h
     refine J.loud (Loud.callL body166 (t__daemon_Net__independent fuel v0 r7 hr8) rfl (LentAll.cons (Lent.fact 0 rfl) (LentAll.cons (Lent.fact 1 rfl) .nil)) (fun _ _=>rfl)) rfl fun x9=>J.quiet (Y.assign rfl) rfl<|J.done<|J.thenN<|J.ret<|J.inR<|J.thenR ?_
     obtain rfl:=Option.some.inj h
     exact J.retG1 (()) rfl rfl (RV.tmp rfl) (SubM.refl _) LentAll.nil
    ·have h:=ifN hp6 h
     refine J.seq<|J.region<|J.quiet (Y.eql rfl rfl) rfl<|J.quiet (Y.assign rfl) rfl<|J.done<|J.thenN ?_
     refine J.condD (by exact rfl) (fun hp10=> ?_) (fun hp10=> ?_)
     ·have h:=ifP hp10 h
      refine J.seq<|J.region<|J.quiet (Y.move rfl) rfl<|J.quiet (Y.move rfl) rfl<|J.quiet (Y.eql rfl rfl) rfl<|J.quiet (Y.assign rfl) rfl<|J.done<|J.thenN<|J.ret<|J.inR<|J.thenR ?_
      obtain rfl:=Option.some.inj h
      exact J.retG1 (()) rfl rfl (RV.tmp rfl) (SubM.refl _) LentAll.nil
     ·have h:=ifN hp10 h
      refine J.skip<|J.inN<|J.thenN<|J.seq<|J.region<|J.quiet (Y.assign rfl) rfl<|J.done<|J.thenN<|J.ret ?_
      obtain rfl:=Option.some.inj h
      exact J.retG1 (()) rfl rfl (RV.tmp rfl) (SubM.refl _) LentAll.nil
end Go.Proofs.YtfbkplemadmbfaaGreatDoor
end
section
namespace Go.Proofs.YtfbkplemadmbfaaGreatDoor
open Go.Sx
def _daemon_Net__Resolve_k2  (a12:Int):Option (Int):=
 some (a12)
def _daemon_Net__Resolve_k4 (a24:Int×Int) (ag23:(Int×Int)->Option (Int)) (a29:Int):Option (Int):=
 ag23 ((bAnd .u32 a24.1 (wI .u32 (a24.1 - (1:Int)))),a29)
def _daemon_Net__Resolve_s1 (fuel:Nat) (p0:List (Int)) (a24:Int×Int) (ag23:(Int×Int)->Option (Int)):Option (Int):=
 if a24.1≠(0:Int)then(Option.bind (m_bits_TrailingZeros32 fuel a24.1) fun r31=>(ck (0<=r31∧r31<(List.length p0:Int)) (if(bAnd .u32 (at' p0 r31) a24.2)=(0:Int)then(ck (0<=r31) (_daemon_Net__Resolve_k4 a24 ag23 (bOr .u32 a24.2 (bShl .u32 (1:Int) r31))))else(_daemon_Net__Resolve_k4 a24 ag23 (a24.2)))))else(_daemon_Net__Resolve_k2  (a24.2))
def _daemon_Net__Resolve_k3 (fuel:Nat) (p0:List (Int)) (a5:Int) (a15:Unit):Option (Int):=
 iter (_daemon_Net__Resolve_s1 fuel p0) fuel (a5,(0:Int))
def _daemon_Net__Resolve_k1 (fuel:Nat) (p0:List (Int)) (p1:Int) (p2:Int) (a5:Int):Option (Int):=
 if p1=(1:Int)then(some (bAnd .u32 a5 (wI .u32 (0 - a5))))else(if p1=(2:Int)then(_daemon_Net__Resolve_k3 fuel p0 a5 (()))else(if p1=(4:Int)then(some (p2))else(some (a5))))
def m__daemon_Net__Resolve (fuel:Nat) (p0:List (Int)) (p1:Int) (p2:Int) (p3:Int):Option (Int):=
 if(bAnd .u32 p3 p2)=(0:Int)then(_daemon_Net__Resolve_k1 fuel p0 p1 p2 (bAnd .u32 p2 (wI .u32 (0 - p2))))else(_daemon_Net__Resolve_k1 fuel p0 p1 p2 (bAnd .u32 p3 p2))
theorem body105:HasBody Tryz.prog 105:=Tryz.call105
theorem t__daemon_Net__Resolve (fuel:Nat) {p0:List (Int)} {p1:Int} {p2:Int} {p3:Int} (v0:Value) (r:Int) (h:m__daemon_Net__Resolve fuel p0 p1 p2 p3=some r):
  Meets Tryz.prog 105 #[v0,Value.int .i64 (p1),Value.int .u32 (p2),Value.int .u32 (p3)] [Sl RU32 v0 p0,Gb 0 (cellsOf EU8 tab0)] (fun x:Unit=>Value.int .u32 (r)) (fun x l=>l) (fun _ l=>l):=by
 refine Meets.of (vs:=[v0,Value.int .i64 (p1),Value.int .u32 (p2),Value.int .u32 (p3)]) Tryz.func105 rfl Tryz.ntmps105 rfl fun c=> ?_
 unfold m__daemon_Net__Resolve at h
 refine J.stp Stp.dfs0<|J.seq<|J.region<|J.know (Know.one ((Lent.fact 0 rfl))) fun ho3=> ?_
 refine J.loud (Loud.box (cs:=[v0]) rfl (by rw[one_cells ho3])) rfl fun b2=> ?_
 refine J.quiet (Y.assign rfl) rfl<|J.done<|J.thenN<|J.seq<|J.region<|J.quiet (Y.move rfl) rfl<|J.quiet (Y.move rfl) rfl<|J.quiet (Y.and rfl rfl) rfl<|J.quiet (Y.assign rfl) rfl<|J.done<|J.thenN<|J.seq<|J.midN (A:=Int) (B:=Unit) (fun a5 b6=>⟨48,marks ([]:List Nat)⟩) (fun a5=>_daemon_Net__Resolve_k1 fuel p0 p1 p2 a5=some r) (fun a5 b6=>[(1,Value.int .i64 (p1)),(2,Value.int .u32 (p2)),(3,Value.int .u32 (a5)),(4,Value.pointer (some ⟨b2,0,none⟩)),(8,Value.int .u32 (0:Int))]) (fun a5 b6=>[Blk b2 [v0] 93,Dfs ([]:List Nat)]) (fun a5 b6=>[Sl RU32 v0 p0,Gb 0 (cellsOf EU8 tab0)]) ?_ ?_
 ·refine J.seq<|J.region<|J.quiet (Y.move rfl) rfl<|J.quiet (Y.eql rfl rfl) rfl<|J.done<|J.thenN ?_
  refine J.condD (by exact rfl) (fun hp39=> ?_) (fun hp39=> ?_)
  ·have h:=ifP hp39 h
   refine J.region<|J.quiet (Y.move rfl) rfl<|J.quiet (Y.move rfl) rfl<|J.quiet (Y.neg rfl) rfl<|J.quiet (Y.and rfl rfl) rfl<|J.quiet (Y.assign rfl) rfl<|J.done<|J.thenN ?_
   exact J.meetN (bAnd .u32 p2 (wI .u32 (0 - p2))) (()) rfl h SF (SubM.refl _) (LentAll.refl _ _)
  ·have h:=ifN hp39 h
   refine J.skip<|J.thenN ?_
   exact J.meetN (bAnd .u32 p3 p2) (()) rfl h SF (SubM.refl _) (LentAll.refl _ _)
 ·clear h
  intro a5 b6 h
  unfold _daemon_Net__Resolve_k1 at h
  refine J.seq<|J.seq<|J.region<|J.quiet (Y.move rfl) rfl<|J.done<|J.thenN<|J.block<|J.seq<|J.region<|J.quiet (Y.eql rfl rfl) rfl<|J.quiet (Y.assign rfl) rfl<|J.done<|J.thenN ?_
  refine J.condD (by exact rfl) (fun hp7=> ?_) (fun hp7=> ?_)
  ·have h:=ifP hp7 h
   refine J.seq<|J.region<|J.quiet (Y.move rfl) rfl<|J.quiet (Y.move rfl) rfl<|J.quiet (Y.neg rfl) rfl<|J.quiet (Y.and rfl rfl) rfl<|J.quiet (Y.assign rfl) rfl<|J.done<|J.thenN<|J.ret<|J.inR<|J.thenR<|J.unmarkAll (i:=1) (Ds:=([]:List Nat)) (.inl rfl) rfl ?_
   obtain rfl:=Option.some.inj h
   exact J.retG1 (()) rfl rfl (RV.tmp rfl) (SubM.nil) LentAll.nil
  ·have h:=ifN hp7 h
   refine J.seq<|J.region<|J.quiet (Y.eql rfl rfl) rfl<|J.quiet (Y.assign rfl) rfl<|J.done<|J.thenN ?_
   refine J.condD (by exact rfl) (fun hp8=> ?_) (fun hp8=> ?_)
   ·have h:=ifP hp8 h
    refine J.seq<|J.region<|J.loud (Loud.alloc (cs:=[Value.int .u32 (0:Int)]) rfl rfl) rfl fun b9=>J.store1 0 rfl rfl rfl rfl rfl rfl<|J.done<|J.thenN<|J.seq<|J.midN (A:=Int) (B:=List Nat) (fun a12 b13=>⟨48,marks b13⟩) (fun a12=>_daemon_Net__Resolve_k2  a12=some r) (fun a12 b13=>[(9,Value.pointer (some ⟨b9,0,none⟩))]) (fun a12 b13=>[Blk b9 [Value.int .u32 (a12)] 26,Dfs b13]) (fun a12 b13=>[Sl RU32 v0 p0,Gb 0 (cellsOf EU8 tab0)]) ?_ ?_
    ·refine J.seq<|J.region<|J.quiet (Y.move rfl) rfl<|J.inlC (A:=Unit) (B:=Nat) (vs:=[Value.int .u32 (a5)]) (fun a15=>_daemon_Net__Resolve_k3 fuel p0 a5 a15=some r) (fun a15 b16=>Value.func (.func 171) #[] #[Value.pointer (some ⟨b16,0,none⟩)]) (fun a15 b16=>[Blk b16 [Value.int .u32 (a5)] 26,Blk b9 [Value.int .u32 (0:Int)] 26,Blk b2 [v0] 93,Dfs ([]:List Nat)]) (fun a15 b16=>[Sl RU32 v0 p0,Gb 0 (cellsOf EU8 tab0)]) (Enter.fn (show HasBody Tryz.prog 138 from Tryz.call138) rfl) Tryz.func138 rfl Tryz.ntmps138 rfl rfl ?_ ?_
     ·refine J.seq<|J.region<|J.loud (Loud.box (cs:=[Value.int .u32 (a5)]) rfl rfl) rfl fun b37=>J.quiet (Y.assign rfl) rfl<|J.done<|J.thenN<|J.seq<|J.region<|J.quiet (Y.makeFunc (cs:=[.tmp 1]) (vs:=[Value.pointer (some ⟨b37,0,none⟩)]) rfl) rfl<|J.quiet (Y.assign rfl) rfl<|J.done<|J.thenN<|J.ret ?_
      exact J.retM (()) (b37) h (.inl rfl) (Res.r1 rfl (RV.tmp rfl)) rfl (SubM.refl _) (LentAll.refl _ _)
     ·clear h
      intro a15 b16 h
      unfold _daemon_Net__Resolve_k3 at h
      refine J.done<|J.thenN<|J.block<|J.rangeFuncD (i:=3) (cs:=[Value.pointer (some ⟨b16,0,none⟩)]) ([]:List Nat) rfl (show HasBody Tryz.prog 171 from Tryz.call171) rfl Tryz.func171 rfl Tryz.ntmps171 rfl fun l17 D18 R19 hR20=>J.block<|J.loopI (A:=Int×Int) (B:=Unit) (_daemon_Net__Resolve_s1 fuel p0) (fun a24 b25=>[(0,yieldV l17),(1,Value.pointer (some ⟨b16,0,none⟩))]) (fun a24 b25=>[Lp l17 R19 LoopState.ready none,Blk b16 [Value.int .u32 (a24.1)] 26,Blk b9 [Value.int .u32 (a24.2)] 26,Blk b2 [v0] 93,Dfs (List.cons D18 ([]:List Nat))]) (fun a24 b25=>[Sl RU32 v0 p0,Gb 0 (cellsOf EU8 tab0)]) (a5,(0:Int)) (()) h SF (SubM.refl _) (LentAll.refl _ _) ?_
      clear h
      intro k26 a24 b25 h
      unfold _daemon_Net__Resolve_s1 at h
      refine J.seq<|J.seq<|J.region<|J.quiet (Y.loadB 1 rfl rfl rfl rfl rfl) rfl<|J.quiet (Y.neq rfl rfl) rfl<|J.done<|J.thenN ?_
      refine J.condD (by exact rfl) (fun hp27=> ?_) (fun hp27=> ?_)
      ·have h:=ifP hp27 h
       refine J.skip<|J.thenN<|J.seq<|J.midI (A:=Int) (B:=Unit) (fun a29=>_daemon_Net__Resolve_k4 a24 (iter (_daemon_Net__Resolve_s1 fuel p0) k26) a29=some r) (fun a29 b30=>[(0,yieldV l17),(1,Value.pointer (some ⟨b16,0,none⟩))]) (fun a29 b30=>[Lp l17 R19 LoopState.ready none,Blk b16 [Value.int .u32 (a24.1)] 26,Blk b9 [Value.int .u32 (a29)] 26,Blk b2 [v0] 93,Dfs (List.cons D18 ([]:List Nat))]) (fun a29 b30=>[Sl RU32 v0 p0,Gb 0 (cellsOf EU8 tab0)]) ?_ ?_
       ·refine J.block<|J.seq<|J.region<|J.quiet (Y.move rfl) rfl<|J.quiet (Y.loadB 1 rfl rfl rfl rfl rfl) rfl ?_
        have h:=bnd h;obtain⟨r31,hr32,h⟩:=h
        refine J.loud (Loud.callL body172 (t_bits_TrailingZeros32 fuel  r31 hr32) rfl (LentAll.cons (Lent.fact 1 rfl) .nil) (fun _ _=>rfl)) rfl fun x33=>J.yieldR (us:=[Value.int .i64 (r31)]) (i:=0) hR20 rfl rfl rfl rfl rfl rfl<|J.region<|J.quiet (Y.assign rfl) rfl<|J.done<|J.thenN<|J.begin (i:=0) rfl<|J.block<|J.seq ?_
        refine JR.start [0,0,3,7,0,31,63] 5 mixedOrders (by decide +kernel) ?_
        refine JR.open (by exact rfl) ?_
        refine JR.qt rfl (SubM.cons 3 rfl (SubM.nil)) (SubL.nil) (Y.loadB 0 rfl rfl rfl rfl rfl) HistOk.z<|JR.qt rfl (SubM.nil) (SubL.nil) (Y.move rfl) HistOk.z ?_
        have h:=ck_some h;obtain⟨hc34,h⟩:=h
        refine JR.qt rfl (SubM.nil) (SubL.cons (List.mem_of_getElem? (i:=0) rfl) (SubL.nil)) (Y.indexS rfl rfl (Lent.fact 0 rfl) rfl rfl hc34) HistOk.z<|JR.qt rfl (SubM.nil) (SubL.cons (List.mem_of_getElem? (i:=0) rfl) (SubL.nil)) (Y.loadS0 rfl (Lent.fact 0 rfl) rfl rfl rfl RU32c0 hc34) HistOk.z<|JR.qt rfl (SubM.cons 2 rfl (SubM.nil)) (SubL.nil) (Y.loadB 0 rfl rfl rfl rfl rfl) HistOk.z<|JR.tailD 5 rfl rfl<|J.quiet (Y.and rfl rfl) rfl<|J.quiet (Y.eql rfl rfl) rfl<|J.done<|J.thenN ?_
        refine J.condD (by exact rfl) (fun hp35=> ?_) (fun hp35=> ?_)
        ·have h:=ifP hp35 h
         refine JR.start [0,0,2,7,15] 3 mixedOrders (by decide +kernel) ?_
         refine JR.open (by exact rfl) ?_
         refine JR.qt rfl (SubM.cons 2 rfl (SubM.nil)) (SubL.nil) (Y.loadB 0 rfl rfl rfl rfl rfl) HistOk.z<|JR.qt rfl (SubM.nil) (SubL.nil) (Y.move rfl) HistOk.z ?_
         have h:=ck_some h;obtain⟨hc36,h⟩:=h
         refine JR.qt rfl (SubM.nil) (SubL.nil) (Y.shl rfl rfl hc36) HistOk.z<|JR.tailD 3 rfl rfl<|J.quiet (Y.or rfl rfl) rfl<|J.store1 2 rfl rfl rfl rfl rfl rfl<|J.done<|J.inN<|J.roundN (i:=0) rfl<|J.quiet (Y.not rfl) rfl<|J.done<|J.thenN<|J.condF rfl<|J.skip<|J.inN<|J.thenN ?_
         exact J.meetI (bOr .u32 a24.2 (bShl .u32 (1:Int) r31)) (()) h SF (SubM.refl _) (LentAll.refl _ _)
        ·have h:=ifN hp35 h
         refine J.skip<|J.inN<|J.roundN (i:=0) rfl<|J.quiet (Y.not rfl) rfl<|J.done<|J.thenN<|J.condF rfl<|J.skip<|J.inN<|J.thenN ?_
         exact J.meetI (a24.2) (()) h SF (SubM.refl _) (LentAll.refl _ _)
       ·clear h
        intro a29 b30 h
        unfold _daemon_Net__Resolve_k4 at h
        refine J.region<|J.quiet (Y.loadB 1 rfl rfl rfl rfl rfl) rfl<|J.quiet (Y.loadB 1 rfl rfl rfl rfl rfl) rfl<|J.quiet (Y.subW rfl rfl) rfl<|J.quiet (Y.and rfl rfl) rfl<|J.store1 1 rfl rfl rfl rfl rfl rfl<|J.done<|J.thenN ?_
        exact J.againI ((bAnd .u32 a24.1 (wI .u32 (a24.1 - (1:Int)))),a29) (()) h SF (SubM.refl _) (LentAll.refl _ _)
      ·have h:=ifN hp27 h
       refine J.exit<|J.thenX<|J.thenX<|J.inX<|J.retF (i:=0) (.inr rfl) rfl (Res.r0 rfl)<|J.inN<|J.thenN ?_
       exact J.meetN (a24.2) (List.cons D18 ([]:List Nat)) rfl h SF (SubM.cons 2 rfl (SubM.cons 3 rfl (SubM.nil))) (LentAll.refl _ _)
    ·clear h
     intro a12 b13 h
     unfold _daemon_Net__Resolve_k2 at h
     refine J.seq<|J.region<|J.quiet (Y.loadB 0 rfl rfl rfl rfl rfl) rfl<|J.quiet (Y.assign rfl) rfl<|J.done<|J.thenN<|J.ret<|J.inR<|J.thenR<|J.unmarkAll (i:=1) (Ds:=(b13)) (.inl rfl) rfl ?_
     obtain rfl:=Option.some.inj h
     exact J.retG1 (()) rfl rfl (RV.tmp rfl) (SubM.nil) LentAll.nil
   ·have h:=ifN hp8 h
    refine J.seq<|J.region<|J.quiet (Y.eql rfl rfl) rfl<|J.quiet (Y.assign rfl) rfl<|J.done<|J.thenN ?_
    refine J.condD (by exact rfl) (fun hp38=> ?_) (fun hp38=> ?_)
    ·have h:=ifP hp38 h
     refine J.seq<|J.region<|J.quiet (Y.move rfl) rfl<|J.quiet (Y.assign rfl) rfl<|J.done<|J.thenN<|J.ret<|J.inR<|J.thenR<|J.unmarkAll (i:=1) (Ds:=([]:List Nat)) (.inl rfl) rfl ?_
     obtain rfl:=Option.some.inj h
     exact J.retG1 (()) rfl rfl (RV.tmp rfl) (SubM.nil) LentAll.nil
    ·have h:=ifN hp38 h
     refine J.skip<|J.inN<|J.thenN<|J.seq<|J.region<|J.quiet (Y.move rfl) rfl<|J.quiet (Y.assign rfl) rfl<|J.done<|J.thenN<|J.ret<|J.unmarkAll (i:=1) (Ds:=([]:List Nat)) (.inl rfl) rfl ?_
     obtain rfl:=Option.some.inj h
     exact J.retG1 (()) rfl rfl (RV.tmp rfl) (SubM.nil) LentAll.nil
end Go.Proofs.YtfbkplemadmbfaaGreatDoor
end
section
set_option maxRecDepth 100000
namespace Go.Gx
open Go Go.Sx Go.Proofs Go.Proofs.YtfbkplemadmbfaaGreatDoor
noncomputable section
def hk32 (us:List GV) (H:GH):OR:=a1 us fun x0=>ob (dGraph H x0) fun p0=>ob (m_graph_Valid 1000 p0) fun r=>oBool r H
def hk28 (us:List GV) (H:GH):OR:=a2 us fun x0 x1=>ob (dNet H x0) fun p0=>ob (dSc .i64 x1) fun p1=>ob (m__world_Net__Tree 1000 p0 p1) fun r=>oGraph r H
def hk135 (us:List GV) (H:GH):OR:=a4 us fun x0 x1 x2 x3=>ob (dU32s H x0) fun p0=>ob (dSc .i64 x1) fun p1=>ob (dSc .u32 x2) fun p2=>ob (dSc .u32 x3) fun p3=>ob (m__daemon_Net__Permits 1000 p0 p1 p2 p3) fun r=>oBool r H
def hk105 (us:List GV) (H:GH):OR:=a4 us fun x0 x1 x2 x3=>ob (dU32s H x0) fun p0=>ob (dSc .i64 x1) fun p1=>ob (dSc .u32 x2) fun p2=>ob (dSc .u32 x3) fun p3=>ob (m__daemon_Net__Resolve 1000 p0 p1 p2 p3) fun r=>some (.int .u32 r,H)
def gext (f:Nat) (us:List GV) (H:GH):Option (GV×GH):=bif Nat.beq f 32 then hk32 us H else bif Nat.beq f 28 then hk28 us H else bif Nat.beq f 135 then hk135 us H else bif Nat.beq f 105 then hk105 us H else none
abbrev gl:Nat->Gls:=glb 0 (cellsOf EU8 tab0)
def gp:GP:=⟨tyTab,95,gext,gexn 208⟩
section
variable {T:Nat} {w0:Base (gl T)} {w:World} {ρ:Rho} {H H':GH} {g:GV} {us:List GV} {vs:List Value}
theorem hk32_ok (h:hk32 us H=some (g,H')) (R:Rel w0 ρ H w) (hr:RlL ρ us vs):CallSem Tryz.prog w0 ρ 32 vs w g H':=by
 obtain⟨x0,rfl,h⟩:=a1_some h
 obtain⟨p0,hp0,h⟩:=ob_some.1 h
 obtain⟨r,hm,h⟩:=ob_some.1 h
 obtain⟨V0,rfl,hv0⟩:=hr.one
 obtain⟨w0a,w0b,z0,rfl,f0a,f0b⟩:=dGraph_ok R hv0 hp0
 obtain⟨rfl,rfl⟩:=oBool_some h
 exact hook_plain body32 (t_graph_Valid 1000 (p0:=p0) w0a w0b z0 r hm) R (List.forall_mem_cons.2 ⟨f0a,List.forall_mem_cons.2 ⟨f0b,fun f hf=>absurd hf List.not_mem_nil⟩⟩) fun ρ=> .bool _
theorem hk28_ok (h:hk28 us H=some (g,H')) (R:Rel w0 ρ H w) (hr:RlL ρ us vs):CallSem Tryz.prog w0 ρ 28 vs w g H':=by
 obtain⟨x0,x1,rfl,h⟩:=a2_some h
 obtain⟨p0,hp0,h⟩:=ob_some.1 h
 obtain⟨p1,hp1,h⟩:=ob_some.1 h
 obtain⟨r,hm,h⟩:=ob_some.1 h
 obtain⟨V0,vs,rfl,hv0,hr⟩:=hr.of_cons
 obtain⟨V1,rfl,hv1⟩:=hr.one
 obtain⟨w0a,w0b,w0c,rfl,f0a,f0b,f0c⟩:=dNet_ok R hv0 hp0
 obtain rfl:=dSc_ok hv1 hp1
 obtain⟨h1,h2,h3,rfl,rfl⟩:=oGraph_some h
 exact hook_graph gI_ok gP_ok h1 h2 h3 body28 (t__world_Net__Tree 1000 (p0:=p0) (p1:=p1) w0a w0b w0c r hm) R (List.forall_mem_cons.2 ⟨f0a,List.forall_mem_cons.2 ⟨f0b,List.forall_mem_cons.2 ⟨f0c,fun f hf=>absurd hf List.not_mem_nil⟩⟩⟩)
theorem hk135_ok (h:hk135 us H=some (g,H')) (R:Rel w0 ρ H w) (hr:RlL ρ us vs):CallSem Tryz.prog w0 ρ 135 vs w g H':=by
 obtain⟨x0,x1,x2,x3,rfl,h⟩:=a4_some h
 obtain⟨p0,hp0,h⟩:=ob_some.1 h
 obtain⟨p1,hp1,h⟩:=ob_some.1 h
 obtain⟨p2,hp2,h⟩:=ob_some.1 h
 obtain⟨p3,hp3,h⟩:=ob_some.1 h
 obtain⟨r,hm,h⟩:=ob_some.1 h
 obtain⟨V0,vs,rfl,hv0,hr⟩:=hr.of_cons
 obtain⟨V1,vs,rfl,hv1,hr⟩:=hr.of_cons
 obtain⟨V2,vs,rfl,hv2,hr⟩:=hr.of_cons
 obtain⟨V3,rfl,hv3⟩:=hr.one
 have f0:=dU32s_ok R hv0 hp0
 obtain rfl:=dSc_ok hv1 hp1
 obtain rfl:=dSc_ok hv2 hp2
 obtain rfl:=dSc_ok hv3 hp3
 obtain⟨rfl,rfl⟩:=oBool_some h
 exact hook_plain body135 (t__daemon_Net__Permits 1000 (p0:=p0) (p1:=p1) (p2:=p2) (p3:=p3) V0 r hm) R (List.forall_mem_cons.2 ⟨f0,List.forall_mem_cons.2 ⟨R.glb,fun f hf=>absurd hf List.not_mem_nil⟩⟩) fun ρ=> .bool _
theorem hk105_ok (h:hk105 us H=some (g,H')) (R:Rel w0 ρ H w) (hr:RlL ρ us vs):CallSem Tryz.prog w0 ρ 105 vs w g H':=by
 obtain⟨x0,x1,x2,x3,rfl,h⟩:=a4_some h
 obtain⟨p0,hp0,h⟩:=ob_some.1 h
 obtain⟨p1,hp1,h⟩:=ob_some.1 h
 obtain⟨p2,hp2,h⟩:=ob_some.1 h
 obtain⟨p3,hp3,h⟩:=ob_some.1 h
 obtain⟨r,hm,h⟩:=ob_some.1 h
 obtain⟨V0,vs,rfl,hv0,hr⟩:=hr.of_cons
 obtain⟨V1,vs,rfl,hv1,hr⟩:=hr.of_cons
 obtain⟨V2,vs,rfl,hv2,hr⟩:=hr.of_cons
 obtain⟨V3,rfl,hv3⟩:=hr.one
 have f0:=dU32s_ok R hv0 hp0
 obtain rfl:=dSc_ok hv1 hp1
 obtain rfl:=dSc_ok hv2 hp2
 obtain rfl:=dSc_ok hv3 hp3
 cases h
 exact hook_plain body105 (t__daemon_Net__Resolve 1000 (p0:=p0) (p1:=p1) (p2:=p2) (p3:=p3) V0 r hm) R (List.forall_mem_cons.2 ⟨f0,List.forall_mem_cons.2 ⟨R.glb,fun f hf=>absurd hf List.not_mem_nil⟩⟩) fun ρ=> .int _ _
theorem gext_ok {f:Nat} (h:gext f us H=some (g,H')) (R:Rel w0 ρ H w) (hr:RlL ρ us vs):CallSem Tryz.prog w0 ρ f vs w g H':=by
 unfold gext at h
 cases e0:Nat.beq f 32 with
 |true=>rw[e0]at h;rw[Nat.eq_of_beq_eq_true e0];exact hk32_ok h R hr
 |false=>
 rw[e0]at h
 cases e1:Nat.beq f 28 with
 |true=>rw[e1]at h;rw[Nat.eq_of_beq_eq_true e1];exact hk28_ok h R hr
 |false=>
 rw[e1]at h
 cases e2:Nat.beq f 135 with
 |true=>rw[e2]at h;rw[Nat.eq_of_beq_eq_true e2];exact hk135_ok h R hr
 |false=>
 rw[e2]at h
 cases e3:Nat.beq f 105 with
 |true=>rw[e3]at h;rw[Nat.eq_of_beq_eq_true e3];exact hk105_ok h R hr
 |false=>
 rw[e3]at h
 cases h
end
theorem tabs_ok:TabOk Tryz.prog tyTab:=⟨tyTab_ok⟩
theorem rec_ok {gs:Gls} (w0:Base gs):CallOk Tryz.prog w0 (chOne tyTab 115 Tryz.f115):=chOne_ok tabs_ok mixedOrders Tryz.func115 Tryz.call115 (by kernel_rfl)
theorem def_ok (args:Array Value) (w:World) (hs:args.size=2):CallsDIn (FR none) 0 Tryz.prog 114 args .returning w fun e u' w'=>∃v,e = .returned v∧u' = .returning∧Ext w w':=by
 obtain⟨out,h,he⟩:=okN_spec (r:=evOps tyTab (chOne tyTab 115 Tryz.f115) (bodyOps Tryz.f114) (evC tyTab (chOne tyTab 115 Tryz.f115) (fun _ _ _ _=>none) (bodyRest Tryz.f114) 0 ⟨[],0,[]⟩ (retN [])) (bodyOps Tryz.f114).tail ⟨[(bodyDst Tryz.f114,.inil)],H0⟩) (by kernel_rfl)
 exact caught_ok (ch:=chOne tyTab 115 Tryz.f115) (lp:=fun _ _ _ _=>none) tabs_ok mixedOrders rec_ok loopOk_none Tryz.func114 rfl rfl rfl (by decide +kernel) (fun ρ w=>by simp[execOp,resolve,invoke,builtin]) (by kernel_rfl) (by kernel_rfl) rfl (by rw[hs];decide +kernel) h he
theorem gok {T:Nat} (w0:Base (gl T)):GOk Tryz.prog gp rtab.fns w0:=by
 refine⟨tabs_ok,mixedOrders,fun h=> ?_,fun h ρ w vs R hr=>gext_ok h R hr,fun h ρ w vs H R hr=>gexn_ok Tryz.func208 rfl rfl rfl rfl h ρ w vs H R hr,fun R hc h1 h2=> ?_⟩
 ·obtain⟨e,he,h⟩:=ob_some.1 (show ob (rtabF _) _=some _ from h)
  cases h
  obtain⟨q1,q2,q3⟩:=rtabF_fn he
  exact⟨q1,q2,okF_spec q3⟩
 ·exact cat_ok (tb:=tyTab) (T1:=3) (T2:=42) (cc:=114) tabs_ok Tryz.func95 Tryz.call95 Tryz.call114 rfl rfl rfl (alloc_z (by kernel_rfl)) (alloc_z (by kernel_rfl)) (store_z rfl rfl) (store_z rfl rfl) (load_z rfl rfl) (load_z rfl rfl) def_ok R hc h1 h2
end
end Go.Gx
end
section
namespace Go.Proofs.YtfbkplemadmbfaaGreatDoor
open Go Go.Sx Go.Gx
set_option maxRecDepth 100000
def m_law40_known (fuel:Nat):Option (Bool):=some (true)
theorem body6:HasBody Tryz.prog 6:=Tryz.call6
theorem closed6:okT (callR rtab gp 4000 6 [] H0)=true:=by kernel_rfl
theorem t_law40_known (fuel:Nat) (r:Bool) (h:m_law40_known fuel=some r):
  Meets Tryz.prog 6 #[] [Gb 0 (cellsOf EU8 tab0)] (fun x:Unit=>Value.bool (r)) (fun x l=>l) (fun _ l=>l):=by
 obtain rfl:=Option.some.inj h
 obtain⟨H',h1⟩:=okT_spec closed6
 rw[callR_eq rtab_ok]at h1
 exact meets_closed glsOne body6 (fun ρ V' h=>h.bool_inv) fun T b=>callF_ok (gs:=gl T) gok h1 (Rel.start b) .nil
end Go.Proofs.YtfbkplemadmbfaaGreatDoor
end
section
namespace Go.Proofs.YtfbkplemadmbfaaGreatDoor
open Go.Sx
def law40_ContainmentRegion_k2  (a10:Bool):Option (Bool):=
 some (a10)
def law40_ContainmentRegion_k1 (fuel:Nat) (p0:List (Int)×(List (List (Int×Int)))) (p1:Int) (p2:Int) (a3:Bool):Option (Bool):=
 if a3=true then(Option.bind (m_law40_known fuel) fun r6=>(some (r6)))else(Option.bind (m_law40_known fuel) fun r12=>(if r12=true then(Option.bind (m_containment_Region fuel ((p0.1,p0.2)) p1 p2) fun r16=>(Option.bind (m_ref40_Region fuel ((p0.1,p0.2)) p1 p2) fun r19=>(law40_ContainmentRegion_k2  (decide (r16=r19)))))else(law40_ContainmentRegion_k2  (false))))
def m_law40_ContainmentRegion (fuel:Nat) (p0:List (Int)×(List (List (Int×Int)))) (p1:Int) (p2:Int):Option (Bool):=
 if(60:Int)<(List.length p0.2:Int)then(law40_ContainmentRegion_k1 fuel p0 p1 p2 (true))else(law40_ContainmentRegion_k1 fuel p0 p1 p2 (decide ((60:Int)<(List.length p0.1:Int))))
theorem t_law40_ContainmentRegion (fuel:Nat) {p0:List (Int)×(List (List (Int×Int)))} {p1:Int} {p2:Int} (v0:Value)  (v1:Value)  (z2:List (Value×List (Int×Int))) (r:Bool) (h:m_law40_ContainmentRegion fuel p0 p1 p2=some r):
  Meets Tryz.prog 3 #[Value.agg #[v0,v1],Value.int .u32 (p1),Value.int .i64 (p2)] [Sl RI64 v0 p0.1,S2 RI64I64p v1 z2 p0.2,Gb 0 (cellsOf EU8 tab0)] (fun x:Unit=>Value.bool (r)) (fun x l=>l) (fun _ l=>l):=by
 refine Meets.of (vs:=[Value.agg #[v0,v1],Value.int .u32 (p1),Value.int .i64 (p2)]) Tryz.func3 rfl Tryz.ntmps3 rfl fun c=> ?_
 unfold m_law40_ContainmentRegion at h
 refine J.seq<|J.region<|J.loud (Loud.box (cs:=[v0,v1]) rfl rfl) rfl fun b1=>J.quiet (Y.assign rfl) rfl<|J.done<|J.thenN<|J.seq<|J.seq<|J.midI (A:=Bool) (B:=Unit) (fun a3=>law40_ContainmentRegion_k1 fuel p0 p1 p2 a3=some r) (fun a3 b4=>[(1,Value.int .u32 (p1)),(2,Value.int .i64 (p2)),(3,Value.pointer (some ⟨b1,0,none⟩)),(16,Value.bool (a3))]) (fun a3 b4=>[Blk b1 [v0,v1] 25]) (fun a3 b4=>[Sl RI64 v0 p0.1,S2 RI64I64p v1 z2 p0.2,Gb 0 (cellsOf EU8 tab0)]) ?_ ?_
 ·refine J.region<|J.quiet (Y.fieldB rfl rfl rfl rfl rfl) rfl<|J.quiet (Y.loadB 0 rfl rfl rfl rfl rfl) rfl<|J.quiet (Y.lenN rfl (Lent.fact 1 rfl) rfl) rfl<|J.quiet (Y.gtr rfl rfl) rfl<|J.quiet (Y.move rfl) rfl ?_
  refine J.guardD (by exact rfl) (by exact rfl) (fun hp22=> ?_) (fun hp22=> ?_)
  ·have h:=ifP hp22 h
   refine J.guardN rfl rfl rfl<|J.guardN rfl rfl rfl<|J.guardN rfl rfl rfl<|J.guardN rfl rfl rfl<|J.quiet (Y.pickT rfl rfl) rfl<|J.done<|J.thenN ?_
   exact J.meetI (true) (()) h SF (SubM.refl _) (LentAll.refl _ _)
  ·have h:=ifN hp22 h
   refine J.guardY rfl (Y.fieldB rfl rfl rfl rfl rfl) rfl<|J.guardY rfl (Y.loadB 0 rfl rfl rfl rfl rfl) rfl<|J.guardY rfl (Y.lenS rfl (Lent.fact 0 rfl) rfl) rfl<|J.guardY rfl (Y.gtr rfl rfl) rfl<|J.quiet (Y.pickF rfl rfl) rfl<|J.done<|J.thenN ?_
   exact J.meetI (decide ((60:Int)<(List.length p0.1:Int))) (()) h SF (SubM.refl _) (LentAll.refl _ _)
 ·clear h
  intro a3 b4 h
  unfold law40_ContainmentRegion_k1 at h
  refine J.cond (by exact rfl) (fun hp5=> ?_) (fun hp5=> ?_)
  ·have h:=ifP hp5 h
   refine J.seq<|J.region ?_
   have h:=bnd h;obtain⟨r6,hr7,h⟩:=h
   refine J.loud (Loud.callL body6 (t_law40_known fuel  r6 hr7) rfl (LentAll.cons (Lent.fact 2 rfl) .nil) (fun _ _=>rfl)) rfl fun x8=>J.quiet (Y.assign rfl) rfl<|J.done<|J.thenN<|J.ret<|J.thenR ?_
   obtain rfl:=Option.some.inj h
   exact J.retG1 (()) rfl rfl (RV.tmp rfl) (SubM.nil) LentAll.nil
  ·have h:=ifBN hp5 h
   refine J.skip<|J.thenN<|J.seq<|J.midI (A:=Bool) (B:=Unit) (fun a10=>law40_ContainmentRegion_k2  a10=some r) (fun a10 b11=>[(6,Value.bool (a10))]) (fun a10 b11=>[]) (fun a10 b11=>[Sl RI64 v0 p0.1,S2 RI64I64p v1 z2 p0.2,Gb 0 (cellsOf EU8 tab0)]) ?_ ?_
   ·refine JR.start [0,1,3,3,3,31,3,3,3,511,1023,2047,4095] 9 mixedOrders (by decide +kernel) ?_
    refine JR.open (by exact rfl) ?_
    have h:=bnd h;obtain⟨r12,hr13,h⟩:=h
    refine JR.loud rfl rfl rfl (Loud.callL body6 (t_law40_known fuel  r12 hr13) rfl (LentAll.cons (Lent.fact 2 rfl) .nil) (fun _ _=>rfl)) rfl (fun x14=>BsOk.z) fun x14=>JR.qt rfl (SubM.nil) (SubL.nil) (Y.move rfl) (HistOk.b rfl HistOk.z) ?_
    refine JR.guard (by exact rfl) (by exact rfl) (by exact rfl) (fun hp15=> ?_) (fun hp15=> ?_)
    ·have h:=ifP hp15 h
     refine JR.qtG rfl (SubM.refl _) (SubL.nil) (Y.loadBAll 0 rfl rfl rfl rfl) (HistOk.b rfl HistOk.z)<|JR.qtG rfl (SubM.nil) (SubL.nil) (Y.move rfl) (HistOk.b rfl HistOk.z)<|JR.qtG rfl (SubM.nil) (SubL.nil) (Y.move rfl) (HistOk.b rfl HistOk.z) ?_
     have h:=bnd h;obtain⟨r16,hr17,h⟩:=h
     refine JR.loudG rfl rfl rfl rfl (Loud.callL body7 (t_containment_Region fuel v0 v1 z2 r16 hr17) rfl (LentAll.cons (Lent.fact 0 rfl) (LentAll.cons (Lent.fact 1 rfl) .nil)) (fun _ _=>rfl)) rfl (fun x18=>(BsOk.b rfl (BsOk.b rfl (BsOk.b rfl (BsOk.b rfl BsOk.z))))) fun x18=>JR.qtG rfl (SubM.refl _) (SubL.nil) (Y.loadBAll 0 rfl rfl rfl rfl) (HistOk.h (SubM.cons 0 rfl (SubM.nil)) (SubL.nil) (HistOk.b rfl HistOk.z))<|JR.qtG rfl (SubM.nil) (SubL.nil) (Y.move rfl) (HistOk.h (SubM.nil) (SubL.nil) (HistOk.b rfl HistOk.z))<|JR.qtG rfl (SubM.nil) (SubL.nil) (Y.move rfl) (HistOk.h (SubM.nil) (SubL.nil) (HistOk.b rfl HistOk.z))<|JR.tailD 9 rfl rfl ?_
     have h:=bnd h;obtain⟨r19,hr20,h⟩:=h
     refine J.loudG rfl (Loud.callL body8 (t_ref40_Region fuel v0 v1 z2 r19 hr20) rfl (LentAll.cons (Lent.fact 0 rfl) (LentAll.cons (Lent.fact 1 rfl) .nil)) (fun _ _=>rfl)) rfl fun x21=>J.guardY rfl (Y.eql rfl rfl) rfl<|J.quiet (Y.pickT rfl rfl) rfl<|J.quiet (Y.assign rfl) rfl<|J.done<|J.thenN ?_
     exact J.meetI (decide (r16=r19)) (()) h SF (SubM.nil) (LentAll.refl _ _)
    ·have h:=ifBN hp15 h
     refine JR.guardN rfl rfl rfl rfl<|JR.guardN rfl rfl rfl rfl<|JR.guardN rfl rfl rfl rfl<|JR.guardN rfl rfl rfl rfl<|JR.guardN rfl rfl rfl rfl<|JR.guardN rfl rfl rfl rfl<|JR.guardN rfl rfl rfl rfl<|JR.tailD 9 rfl rfl<|J.guardN rfl rfl rfl<|J.guardN rfl rfl rfl<|J.quiet (Y.pickF rfl rfl) rfl<|J.quiet (Y.assign rfl) rfl<|J.done<|J.thenN ?_
     exact J.meetI (false) (()) h SF (SubM.nil) (LentAll.refl _ _)
   ·clear h
    intro a10 b11 h
    unfold law40_ContainmentRegion_k2 at h
    refine J.ret ?_
    obtain rfl:=Option.some.inj h
    exact J.retG1 (()) rfl rfl (RV.tmp rfl) (SubM.refl _) LentAll.nil
end Go.Proofs.YtfbkplemadmbfaaGreatDoor
end
section
namespace Go.Proofs.YtfbkplemadmbfaaGreatDoor
open Go Go.Sx
theorem region_pure (g:GR) (p1 p2:Int) (h0:0<=p1) (h1:p1<4294967296):m_law40_ContainmentRegion 1000 g p1 p2=some true:=by
 obtain⟨s,rfl⟩:∃s:Nat,p1=s:=⟨p1.toNat,by omega⟩
 obtain⟨m,e,e'⟩:=regions_same g (s:=s) (by omega) p2
 have key:∀b,law40_ContainmentRegion_k1 1000 g (s:Int) p2 b=some true:=fun b=>by
  unfold law40_ContainmentRegion_k1
  cases b with
  |true=>rfl
  |false=>
   rw[if_neg (by simp),show m_law40_known 1000=some true from rfl,bindS rfl,if_pos rfl]
   show Option.bind (m_containment_Region 1000 g (s:Int) p2) _=_
   rw[e,bindS rfl]
   show Option.bind (m_ref40_Region 1000 g (s:Int) p2) _=_
   rw[e',bindS rfl]
   unfold law40_ContainmentRegion_k2
   rw[decide_eq_true rfl]
 unfold m_law40_ContainmentRegion
 split
 ·exact key _
 ·exact key _
end Go.Proofs.YtfbkplemadmbfaaGreatDoor
end
section
namespace Go.Sx
open Go.RowKit Go.ChangeShapes Go.WideShapes Go.ChangeAt Go.Proofs Go.Joins Go.Deep
section
variable {H:Type} {enc:TypeId×Value->H} {P:Program} {w:World} {base:Nat} {spare:Nat->Bool} {held:Bool}
theorem wf_u32 {n:Int} (h:(Lit.int .u32 n).wf=true):0<=n∧n<4294967296:=by
 simp only[Lit.wf,Bool.and_eq_true,decide_eq_true_eq]at h
 have e1:IntKind.u32.min=0:=by decide
 have e2:IntKind.u32.max=4294967295:=by decide
 omega
end
end Go.Sx
end
section
set_option maxRecDepth 100000
namespace Go.Sx
open Go.RowKit Go.ChangeShapes Go.WideShapes Go.ChangeAt Go.Proofs Go.Joins
theorem gb_of_laid {P:Program} {W:World} {n:String} {b m t t':Nat} {k:IntKind} {xs:List Int} (h:laidMet P [(n,.agg (xs.map fun x=> .lit (.int k x)))] W) (hg:P.globalNamed n=some b)
  (ht:(P.globals[b]?).map (·.type)=some t) (hu:P.underlying t=some (.array m t')) (hu':P.underlying t'=some (.int k)) (hc:P.cellsOf t'=1) (hcm:P.cellsOf t=m) (hm:0<m):(Gb b (cellsOf (Enc.int k) xs)).p W (fun _=>True):=by
 obtain⟨ps,⟨g,t2,cs,fuel,p,q,e1,e2,e3,e4,e5,e6⟩,hnd,hcell⟩:=h
 rw[hg]at e1;cases e1
 rw[ht]at e2;cases e2
 refine⟨trivial,?_⟩
 obtain⟨ys,ml,_,e7,hl,hyl,hf⟩:=DataW.trod_array hu e4
 simp only[Prod.mk.injEq,DataW.agg.injEq]at e7
 have hlen:xs.length=m:=by rw[<-hyl];simpa using congrArg List.length e7.1
 have hcl:cs.size=m:=by rw[<-hcm,<-hl];simp
 have hcs:cs.toList=cellsOf (Enc.int k) xs:=by
  refine List.ext_getElem? fun i=> ?_
  by_cases hi:i<m
  ·have h1:=hf i hi
   rw[hc,Nat.mul_one]at h1
   have hx:xs[i]? = some (xs[i]'(by omega)):=List.getElem?_eq_getElem _
   have h2:=cellsOf_get (Enc.int k) xs i _ hx 0 _ rfl
   rw[show i*(Enc.int k).sz+0=i from Nat.mul_one i]at h2
   rw[h2]
   have hy:ys[i]? = some (ys[i]'(by omega)):=List.getElem?_eq_getElem _
   rw[hy]at h1
   obtain⟨z,hz,hz2,_⟩:=DataW.trod_int hu' h1
   have hc0:cs.toList[i]? = some (.int k z):=by
    have:=congrArg (·[0]?) hz
    simpa [List.getElem?_take,List.getElem?_drop]using this
   rw[hc0]
   have h3:=congrArg (·[i]?) e7.1
   simp only[List.getElem?_map,hx,hy,Option.map_some,Option.some.injEq]at h3
   rw[hz2]at h3
   have h4:xs[i]=z:=by simpa using h3
   rw[h4]
  ·rw[List.getElem?_eq_none (by simp;omega),List.getElem?_eq_none (by rw[cellsOf_length,hlen];show m*1<=i;omega)]
 have hmem:MemPlace.cell b 0∈ps:=by
  rw[e6]
  refine List.mem_append_left _ (List.mem_append_left _ ?_)
  exact List.mem_map.2 ⟨0,by simp;omega,rfl⟩
 obtain⟨⟨c,T,hb⟩,_⟩:=hcell b 0 hmem
 refine⟨T,?_⟩
 have h5:c=cs:=by
  have h6:(W.var? P n)=some c:=by unfold World.var?;rw[hg];simp[hb]
  rw[h6]at e3;exact Option.some.inj e3
 rw[hb,h5,<-hcs]
theorem law_liftedL {H:Type} {enc:TypeId×Value->H} {os:Os} (ld:List (String×DataW Unit)) (hpl:(ld.all fun x=>x.2.handleName?.isNone)=true) (started:os.Started) {f:FuncId} {fn:Func} {s:ChangeSpec} {r:Bool} (hfn:Tryz.prog.funcs[f]? = some fn) (noInit:Tryz.prog.inits.idxOf? f=none)
  (hread:(fn.params.toList.all fun t=>Tryz.prog.readableRec t&&decide (t<Tryz.prog.types.size))=true) (hres:fn.resultTypes = #[4]) (hvars:s.vars=[])
  (hspec:∀ds:List (DataW H),ds.length=fn.params.toList.length->s.fn H ds={results:=[.lit (.bool true)],args:=ds})
  (witness:∃(w:World) (tape:Tape) (i:Input),w.os=os∧(w.forCall tape i).Shaped Tryz.prog∧i.vars=[]∧Input.okWide Tryz.prog (w.forCall tape i) .any w.heap.size f i∧
   ((s.pre enc Tryz.prog fn [] false (w.forCall tape i).memory i.args∧laidMetH Tryz.prog ld (w.forCall tape i).memory)∧sizedMet enc Tryz.prog fn (OpenSpec.ofChange s) false (w.forCall tape i).memory i.args)∧({}:Assume).holds Tryz.prog (lone (Frame.enter Tryz.prog f i.args .normal) [] (w.forCall tape i)))
  (main:∀(W:World) (base:Nat) (args:Array Value) (ds:List (DataW H)) (p:List MemPlace),laidMetH Tryz.prog ld W->(∀(j:Nat) t v,fn.params[j]? = some t->args[j]? = some v->Value.okWide Tryz.prog W .any base t v)->
   DataW.TrodAll enc Tryz.prog W 0 (fun _=>true) true fn.params.toList args.toList ds p->Calls Tryz.prog f args W fun e W'=>e = .returned (.bool true)∧Ext W W'):
  ReturnsInHanded {} Go.Proofs.YtfbkplemadmbfaaGreatDoor.Tryz.pinned.checked os f .any (fun w args=>(s.pre enc Tryz.prog fn [] false w args∧laidMetH Tryz.prog ld w)∧sizedMet enc Tryz.prog fn (OpenSpec.ofChange s) false w args) (s.post enc Tryz.prog fn false r false false):=by
 refine returnsInHanded_of_change_and (C:=Go.Proofs.YtfbkplemadmbfaaGreatDoor.Tryz.pinned.checked) (X:=fun w _=>laidMetH Tryz.prog ld w) (fun _ _ _ hh h=>by rw[MakeChecks.laidMetH_plain _ _ _ hpl]at h ⊢;exact h.of_heap hh) own0 started noInit hfn witness ?_
 intro W base args ds gs before hval hW _ _ hL _
 have hlt:=hW.lt
 have hW':=hW
 obtain⟨p,q,hA,hV,rfl,_,_⟩:=hW
 rw[hvars]at hV
 obtain⟨rfl,rfl⟩:=trodVars_none hV
 refine(main W base args ds p hL hval hA).mono ?_
 rintro e W' ⟨rfl,hb⟩
 refine⟨_,rfl,?_⟩
 have hlen:ds.length=fn.params.toList.length:=by
  have:∀(ts:List TypeId) (vs:List Value) (ds:List (DataW H)) (p:List MemPlace),DataW.TrodAll enc Tryz.prog W 0 (fun _=>true) true ts vs ds p->ds.length=ts.length:=by
   intro ts
   induction ts with
   |nil=>intro vs ds p h;cases vs<;>cases ds<;>first|rfl|exact h.elim
   | cons t ts ih =>
    intro vs ds p h
    cases vs with
    |nil=>exact h.elim
    |cons v vs=>
     cases ds with
     |nil=>exact h.elim
     |cons d ds=>obtain⟨_,_,_,h2,_⟩:=h;simp[ih vs ds _ h2]
  exact this _ _ _ _ hA
 have hs:s.fn H (ds++[])={results:=[.lit (.bool true)],args:=ds}:=by rw[List.append_nil];exact hspec ds hlen
 refine⟨ds,[],p++[],[],p,[],hW',?_,?_,?_,hb.frame _,fun h=>by cases h⟩
 ·rw[hs,hres]
  exact trodAll_mk1 (shut_bool Tryz.underlying4 true)
 ·rw[hs]
  exact trodAll_below laid0 hb _ _ _ _ hread hA (fun x hx=>hlt x (List.mem_append_left _ hx))
 ·rw[hs,hvars];exact rfl
theorem laidPlain {P:Program} {n:String} {k:IntKind} {xs:List Int} {W:World} (h:laidMetH P [(n,.agg (xs.map fun x=> .lit (.int k x)))] W):laidMet P [(n,.agg (xs.map fun x=> .lit (.int k x)))] W:=by
 rw[MakeChecks.laidMetH_plain _ _ _ (by rfl)]at h;exact h
end Go.Sx
end
