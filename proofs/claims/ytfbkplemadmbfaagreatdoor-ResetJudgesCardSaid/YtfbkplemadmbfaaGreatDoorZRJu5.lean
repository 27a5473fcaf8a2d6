/- Models of functions with their proofs, by program (gen/xt.py), and plain laws, in one text. Conditions: none. -/
import Derived.Test.YtfbkplemadmbfaaGreatDoorZRJu4
set_option linter.unusedVariables false
set_option linter.unusedSimpArgs false
set_option maxHeartbeats 4000000
set_option maxRecDepth 20000
section
namespace Go.Gx
open Go Go.Sx Go.RowKit

def okC (tb:TB) (n:Nat):Code->Bool
 | .skip | .exit _ | .ret=>true
 | .region _ ops dr=>ops.toList.all (okOp n)&&(!dr||chkF tb ops.toList (masks ops.toList))
 | .seq a b=>okC tb n a&&okC tb n b
 | .cond _ a b=>okC tb n a&&okC tb n b
 | .block _ b=>okC tb n b
 | .loop b=>okC tb n b
 |_=>false
section
variable {P:Program} {G:GP} {tb:TB} {Fs:FT} {gs:Gls} {w0:Base gs}

def LoopWp (P:Program) (body:Code) (Q:Exit->Act->World->Prop) (a:Act) (w:World):Prop:=
 ∀(b:Frame) (k:List Item) (cs:List Frame),b.roundOf=(FR none).round->(FR none).fn b.fn->(FR none).room (cs.length+1+0)->
  ∃e a' w',Q e a' w'∧ArrivesIn (Machine.fenced P (FR none)) P (lone (b.atR a (.code body :: .inLoop body::k)) cs w) b k cs e a' w'
theorem LoopWp.loop {body:Code} {Q:Exit->Act->World->Prop} {a:Act} {w:World} (h:LoopWp P body Q a w):(Code.loop body).wpr none P Q a w:=by
 intro b k cs hro hb hr
 obtain⟨e,a',w',hq,harr⟩:=h b k cs hro hb hr
 exact⟨e,a',w',hq,.of_steps (.one (fenced_calm hb hr rfl) stepR_loop) harr⟩
theorem LoopWp.round {body:Code} {Q:Exit->Act->World->Prop} {a:Act} {w:World} (h:body.wpr none P (Exit.then (LoopWp P body Q) Q) a w):LoopWp P body Q a w:=by
 intro b k cs hro hb hr
 obtain⟨e,a₁,w₁,hq,harr⟩:=h b (.inLoop body::k) cs hro hb hr
 cases e with
 |normal=>
  obtain⟨e₂,a₂,w₂,hq₂,harr₂⟩:=hq b k cs hro hb hr
  exact⟨e₂,a₂,w₂,hq₂,.of_steps (StepsIn.trans harr (.one (fenced_calm hb hr rfl) stepR_inLoop)) harr₂⟩
 |exit id=>exact⟨_,a₁,w₁,hq,.pass (x:= .inLoop body) rfl (fun _ _=> .inl (by simp)) harr⟩
 |goto l=>exact⟨_,a₁,w₁,hq,.pass (x:= .inLoop body) rfl (fun _ _=> .inl (by simp)) harr⟩
 |ret=>exact⟨_,a₁,w₁,hq,.pass (x:= .inLoop body) rfl (fun _ _=> .inl (by simp)) harr⟩
 |panic ch=>exact⟨_,a₁,w₁,hq,.pass (x:= .inLoop body) rfl (fun _ _=> .inl (by simp)) harr⟩
 |outgrown=>exact⟨_,a₁,w₁,hq,.pass (x:= .inLoop body) rfl (fun _ _=> .inl (by simp)) harr⟩

noncomputable def exitOut (cx:Cx) (id:Nat) (s:GS):RS:=some ⟨.exit id,packL s.σ (keysOf (envGet cx.env id)),s.H⟩
structure Leads {gs:Gls} (w0:Base gs) (tb:TB) (n:Nat) (cx:Cx) (k:GS->RS) (out:Out) (ρ:Rho) (Q:Exit->Act->World->Prop):Prop where
 k:∀s' ρ' a' w',k s'=some out->ρ.le ρ'->FrOk ρ' n s'.σ a'->Rel w0 ρ' s'.H w'->Q .normal a' w'
 x:∀id s' ρ' a' w',exitOut cx id s'=some out->ρ.le ρ'->FrOk ρ' n s'.σ a'->Rel w0 ρ' s'.H w'->Q (.exit id) a' w'
 r:∀s' ρ' a' w',retR tb cx s'=some out->ρ.le ρ'->FrOk ρ' n s'.σ a'->Rel w0 ρ' s'.H w'->Q .ret a' w'
def LoopOk (P:Program) {gs:Gls} (w0:Base gs) (tb:TB) (lp:LH):Prop:=∀b cx vs H out,lp b cx vs H=some out->∀n σ ρ a w Q,okC tb n b=true->unpackL (keysOf (live (.loop b) 0 cx)) vs some=some σ->FrOk ρ n σ a->Rel w0 ρ H w->
 (∀id s' ρ' a' w',exitOut cx id s'=some out->ρ.le ρ'->FrOk ρ' n s'.σ a'->Rel w0 ρ' s'.H w'->Q (.exit id) a' w')->
 (∀s' ρ' a' w',retR tb cx s'=some out->ρ.le ρ'->FrOk ρ' n s'.σ a'->Rel w0 ρ' s'.H w'->Q .ret a' w')->LoopWp P b Q a w
theorem retR_e {cx:Cx} {s:GS} {out:Out} (h:retR tb cx s=some out):out.e = .ret:=by
 obtain⟨vs,_,h⟩:=ob_some.1 (show ob (resvs tb s cx.res) _=some out from h)
 cases h;rfl
theorem exitOut_e {cx:Cx} {id:Nat} {s:GS} {out:Out} (h:exitOut cx id s=some out):out.e = .exit id:=by cases h;rfl
theorem retN_e {ks:List Nat} {s:GS} {out:Out} (h:retN ks s=some out):out.e = .normal∧out.vs=packL s.σ ks∧out.H=s.H:=by cases h;exact⟨rfl,rfl,rfl⟩
theorem join_k {n:Nat} {cx:Cx} {ks:List Nat} {k:GS->RS} {o out:Out} {ρ:Rho} {Q:Exit->Act->World->Prop} (L:Leads w0 tb n cx k out ρ Q) (h:unpackL ks o.vs (fun σ=>k ⟨σ,o.H⟩)=some out) {s':GS} {ρ':Rho} {a':Act} {w':World}
  (hv:o.vs=packL s'.σ ks) (hH:o.H=s'.H) (hle:ρ.le ρ') (F:FrOk ρ' n s'.σ a') (R:Rel w0 ρ' s'.H w'):Q .normal a' w':=by
 obtain⟨σ,h1,h2⟩:=unpackL_some h
 rw[hv]at h1
 exact L.k ⟨σ,o.H⟩ ρ' a' w' h2 hle (pack_ok F h1) (by rw[hH];exact R)
theorem evC_ok {ch:CH} {lp:LH} (hG:TabOk P tb) (hm:P.follows .mixedOrders=true) (hcall:∀w0:Base gs,CallOk P w0 ch) (hloop:LoopOk P w0 tb lp) {n:Nat}:∀(c:Code) (m:Nat) (cx:Cx) (k:GS->RS) (s:GS) (out:Out) (ρ:Rho) (a:Act) (w:World) (Q:Exit->Act->World->Prop),
  okC tb n c=true->evC tb ch lp c m cx k s=some out->FrOk ρ n s.σ a->Rel w0 ρ s.H w->Leads w0 tb n cx k out ρ Q->c.wpr none P Q a w
 | .skip,m,cx,k,s,out,ρ,a,w,Q,_,h,F,R,L=>wpr_skip (L.k s ρ a w h (Rho.le_refl _) F R)
 | .region id ops dr, m, cx, k, s, out, ρ, a, w, Q, ho, h, F, R, L => by
  have ho':ops.toList.all (okOp n)=true∧(!dr||chkF tb ops.toList (masks ops.toList))=true:=by simpa [okC]using ho
  have hnd:ops.toList.all noDefer=true:=List.all_eq_true.2 fun o hmo=>(okOp_spec (List.all_eq_true.1 ho'.1 o hmo)).1
  have h':Bool.casesOn (motive:=fun _=>RS) (wild dr ops.toList) (evOps tb ch ops.toList k ops.toList s) (evW tb ch ops.toList (masks ops.toList) k ops.toList 0 [] [] s)=some out:=h
  have e:ops=ops.toList.toArray:=by simp
  cases dr with
  |false=>
   rw[e]
   exact wpr_region_lit hnd (evOps_ok hG (hcall w0) ops.toList s ρ a w ho'.1 F R h' L.k)
  | true =>
   rw[e]
   have hF:chkF tb ops.toList (masks ops.toList)=true:=by simpa using ho'.2
   have h2:(evOps tb ch ops.toList k ops.toList s=some out∧ordered ops.toList isLoad=true)∨evW tb ch ops.toList (masks ops.toList) k ops.toList 0 [] [] s=some out:=by
    cases hwl:wild true ops.toList with
    |true=>rw[hwl]at h';exact .inr h'
    |false=>
     rw[hwl]at h'
     have:(!ordered ops.toList isLoad)=false:=hwl
     exact .inl ⟨h',by simpa using this⟩
   exact float_region hG hcall hm ho'.1 hF F R h2 L.k
 | .seq x y,m,cx,k,s,out,ρ,a,w,Q,ho,h,F,R,L=>by
  have ho':okC tb n x=true∧okC tb n y=true:=by simpa [okC]using ho
  refine wpr_seq (evC_ok hG hm hcall hloop x (live y m cx) cx (evC tb ch lp y m cx k) s out ρ a w _ ho'.1 h F R ⟨fun s' ρ' a' w' hk hle F' R'=> ?_,L.x,L.r⟩)
  exact evC_ok hG hm hcall hloop y m cx k s' out ρ' a' w' Q ho'.2 hk F' R' ⟨fun s2 ρ2 a2 w2 h1 h2=>L.k s2 ρ2 a2 w2 h1 (Rho.le_trans hle h2),fun id s2 ρ2 a2 w2 h1 h2=>L.x id s2 ρ2 a2 w2 h1 (Rho.le_trans hle h2),fun s2 ρ2 a2 w2 h1 h2=>L.r s2 ρ2 a2 w2 h1 (Rho.le_trans hle h2)⟩
 | .cond x thn els, m, cx, k, s, out, ρ, a, w, Q, ho, h, F, R, L => by
  have ho':okC tb n thn=true∧okC tb n els=true:=by simpa [okC]using ho
  obtain⟨v,hv,h⟩:=ob_some.1 (show ob (gev s.σ x) _=some out from h)
  obtain⟨b,hb,h⟩:=ob_some.1 h
  obtain⟨o,h1,h⟩:=ob_some.1 (show ob _ (fun o=>Ex.casesOn (motive:=fun _=>RS) o.e (unpackL (keysOf m) o.vs fun σ=>k ⟨σ,o.H⟩) (fun _=>some o) (some o))=some out from h)
  have hx:=gev_ok F hv
  rw[asB_eq hb]at hx
  have L':Leads w0 tb n cx (retN (keysOf m)) o ρ Q:=by
   refine⟨fun s' ρ' a' w' hk hle F' R'=> ?_,fun id s' ρ' a' w' hk hle F' R'=> ?_,fun s' ρ' a' w' hk hle F' R'=> ?_⟩
   ·obtain⟨e1,e2,e3⟩:=retN_e hk
    rw[e1]at h
    exact join_k L h e2 e3 hle F' R'
   ·have e1:=exitOut_e hk
    rw[e1]at h;cases h
    exact L.x id s' ρ' a' w' hk hle F' R'
   ·have e1:=retR_e hk
    rw[e1]at h;cases h
    exact L.r s' ρ' a' w' hk hle F' R'
  refine wpr_cond_split hx.bool_inv (fun hbt=> ?_) (fun hbf=> ?_)
  ·rw[hbt]at h1
   exact evC_ok hG hm hcall hloop thn m cx (retN (keysOf m)) s o ρ a w Q ho'.1 h1 F R L'
  ·rw[hbf]at h1
   exact evC_ok hG hm hcall hloop els m cx (retN (keysOf m)) s o ρ a w Q ho'.2 h1 F R L'
 | .block id b, m, cx, k, s, out, ρ, a, w, Q, ho, h, F, R, L => by
  have ho':okC tb n b=true:=by simpa [okC]using ho
  obtain⟨o2,h2,h⟩:=ob_some.1 (show ob (nB id (evC tb ch lp b m ⟨cx.res,cx.retm,(id,m)::cx.env⟩ (retN (keysOf m)) s)) (fun o=>Ex.casesOn (motive:=fun _=>RS) o.e (unpackL (keysOf m) o.vs fun σ=>k ⟨σ,o.H⟩) (fun _=>some o) (some o))=some out from h)
  obtain⟨o,h1,h2⟩:=ob_some.1 (show ob (evC tb ch lp b m ⟨cx.res,cx.retm,(id,m)::cx.env⟩ (retN (keysOf m)) s) (fun o=>Ex.casesOn (motive:=fun _=>RS) o.e (some o) (fun i=>Bool.casesOn (motive:=fun _=>RS) (Nat.beq i id) (some o) (some ⟨.normal,o.vs,o.H⟩)) (some o))=some o2 from h2)
  refine wpr_block (evC_ok hG hm hcall hloop b m _ (retN (keysOf m)) s o ρ a w _ ho' h1 F R ⟨fun s' ρ' a' w' hk hle F' R'=> ?_,fun i s' ρ' a' w' hk hle F' R'=> ?_,fun s' ρ' a' w' hk hle F' R'=> ?_⟩)
  ·obtain⟨e1,e2,e3⟩:=retN_e hk
   rw[e1]at h2;cases h2
   rw[e1]at h
   exact join_k L h e2 e3 hle F' R'
  ·have e1:=exitOut_e hk
   rw[e1]at h2
   by_cases hi:i=id
   ·subst hi
    have hb:Nat.beq i i=true:=by simp
    simp only[hb]at h2
    cases h2
    show Exit.inBlock i Q (.exit i) a' w'
    simp only[Exit.inBlock,if_true]
    have hk':o=⟨.exit i,packL s'.σ (keysOf (envGet ((i,m)::cx.env) i)),s'.H⟩:=by cases hk;rfl
    have he:envGet ((i,m)::cx.env) i=m:=by
     show(bif Nat.beq i i then m else envGet cx.env i)=m
     rw[hb];rfl
    rw[he]at hk'
    exact join_k (o:=⟨.normal,o.vs,o.H⟩) L h (by rw[hk']) (by rw[hk']) hle F' R'
   ·have hb:Nat.beq i id=false:=beq_ne hi
    simp only[hb]at h2
    cases h2
    rw[e1]at h
    cases h
    show Exit.inBlock id Q (.exit i) a' w'
    simp only[Exit.inBlock,if_neg hi]
    refine L.x i s' ρ' a' w' ?_ hle F' R'
    have he:envGet ((id,m)::cx.env) i=envGet cx.env i:=by
     show(bif Nat.beq id i then m else envGet cx.env i)=_
     rw[beq_ne (Ne.symm hi)];rfl
    rw[<-hk]
    show exitOut cx i s'=some ⟨.exit i,packL s'.σ (keysOf (envGet ((id,m)::cx.env) i)),s'.H⟩
    rw[he];rfl
  ·have e1:=retR_e hk
   rw[e1]at h2;cases h2
   rw[e1]at h;cases h
   exact L.r s' ρ' a' w' hk hle F' R'
 | .loop b,m,cx,k,s,out,ρ,a,w,Q,ho,h,F,R,L=>by
  have ho':okC tb n b=true:=by simpa [okC]using ho
  have h':lp b cx (packL s.σ (keysOf (live (.loop b) 0 cx))) s.H=some out:=h
  have hun:=pack_ex s.σ (keysOf (live (.loop b) 0 cx))
  obtain⟨σ,hσ⟩:=hun
  exact LoopWp.loop (hloop b cx _ s.H out h' n σ ρ a w Q ho' hσ (pack_ok F hσ) R L.x L.r)
 | .exit id,m,cx,k,s,out,ρ,a,w,Q,_,h,F,R,L=>wpr_exit (L.x id s ρ a w h (Rho.le_refl _) F R)
 | .ret,m,cx,k,s,out,ρ,a,w,Q,_,h,F,R,L=>wpr_ret (L.r s ρ a w h (Rho.le_refl _) F R)
 | .rangeFunc _ _ _ _,m,cx,k,s,out,ρ,a,w,Q,ho,_,_,_,_=>by simp[okC]at ho
 | .scope _,m,cx,k,s,out,ρ,a,w,Q,ho,_,_,_,_=>by simp[okC]at ho
 | .label _,m,cx,k,s,out,ρ,a,w,Q,ho,_,_,_,_=>by simp[okC]at ho
 | .goto _,m,cx,k,s,out,ρ,a,w,Q,ho,_,_,_,_=>by simp[okC]at ho
 | .refuse _,m,cx,k,s,out,ρ,a,w,Q,ho,_,_,_,_=>by simp[okC]at ho

theorem resv_ok (hG:TabOk P tb) {n:Nat} {s:GS} {ρ:Rho} {a:Act} {w:World} (F:FrOk ρ n s.σ a) (R:Rel w0 ρ s.H w) {r:ResultVar} {g:GV} (h:resv tb s r=some g):∃v,Rl ρ g v∧(rvSem a.tmps r).run P w = .ok v w:=by
 cases r with
 |tmp t=>exact⟨_,F.slot t g h,by simp[rvSem,Act.eval]⟩
 |cell q T=>
  obtain⟨v,hv,h⟩:=ob_some.1 (show ob (glk s.σ q) _=some g from h)
  have hs:=F.slot q v hv
  obtain⟨x,_,_,_,_,_,hx,hr⟩:=vLoad_ok (P:=P) hG R hs h
  have hr:=hr w rfl
  refine⟨x,hx,?_⟩
  obtain⟨p,hp,_⟩:=ob_some.1 (show ob v.asP _=some g from h)
  rw[asP_eq hp]at hs
  obtain⟨l,hl,e⟩:=hs.ptr_inv
  have e':a.tmps.getD q undef = .pointer (some ⟨l.b,l.off+p.2,none⟩):=e
  rw[e]at hr
  simp only[Instr.loadAt,Instr.sureAddr]at hr
  simp only[rvSem,e',asAddr]
  simpa using hr
theorem resvs_ok (hG:TabOk P tb) {n:Nat} {s:GS} {ρ:Rho} {a:Act} {w:World} (F:FrOk ρ n s.σ a) (R:Rel w0 ρ s.H w):∀{l:List ResultVar} {gs:List GV},resvs tb s l=some gs->∃vs,RlL ρ gs vs∧(l.mapM (rvSem a.tmps)).run P w = .ok vs w
 | [],gs,h=>by cases h;exact⟨[],.nil,by simp⟩
 |r::l,gs,h=>by
  obtain⟨g,hg,h⟩:=ob_some.1 (show ob (resv tb s r) (fun v=>ob (resvs tb s l) fun vs=>some (v::vs))=some gs from h)
  obtain⟨gs',hgs,h⟩:=ob_some.1 h
  cases h
  obtain⟨v,hv,h1⟩:=resv_ok (P:=P) hG F R hg
  obtain⟨vs,hvs,h2⟩:=resvs_ok hG F R hgs
  exact⟨v::vs,.cons hv hvs,by simp[List.mapM_cons,h1,h2]⟩
theorem pack_rel {ρ:Rho} {gs:List GV} {vs:List Value} (h:RlL ρ gs vs):Rl ρ (pack gs) (if h:vs.toArray.size=1 then vs.toArray[0]else .tuple vs.toArray):=by
 cases gs with
 |nil=>rw[h.of_nil];exact Rl.tup' .nil
 | cons g gs =>
  obtain⟨v,vs,rfl,h1,h2⟩:=h.of_cons
  cases gs with
  |nil=>rw[h2.of_nil];show Rl ρ g _;simpa using h1
  |cons g' gs=>
   obtain⟨v',vs',rfl,h3,h4⟩:=h2.of_cons
   rw[dif_neg (by simp)]
   exact Rl.tup' (.cons h1 (.cons h3 h4))
theorem retR_ok (hG:TabOk P tb) {fn:Func} {cx:Cx} (hcx:cx.res=fn.results.toList) {n:Nat} {s:GS} {ρ:Rho} {a:Act} {w:World} {out:Out} (F:FrOk ρ n s.σ a) (R:Rel w0 ρ s.H w) (h:retR tb cx s=some out):out.H=s.H∧∃v,Rl ρ (pack out.vs) v∧(results fn a.tmps).run P w = .ok v w:=by
 obtain⟨gs,hgs,h⟩:=ob_some.1 (show ob (resvs tb s cx.res) _=some out from h)
 cases h
 obtain⟨vs,hvs,hr⟩:=resvs_ok (P:=P) hG F R hgs
 rw[hcx]at hr
 refine⟨rfl,_,pack_rel hvs,?_⟩
 rw[results_rv]
 have hm:(fn.results.mapM (rvSem a.tmps)).run P w = .ok vs.toArray w:=by
  rw[Array.mapM_eq_mapM_toList]
  simp[hr]
 simp[hm]
structure GOk (P:Program) (G:GP) (Fs:FT) {gs:Gls} (w0:Base gs):Prop where
 tab:TabOk P G.tab
 mixed:P.follows .mixedOrders=true
 fns:∀{f fn},Fs f=some fn->P.funcs[f]? = some fn∧HasBody P f∧(∀c,fn.body=some c->okC G.tab fn.ntmps c=true)∧fn.params.size+fn.nfree<=fn.ntmps
 ext:∀{f us H g H'},G.ext f us H=some (g,H')->∀ρ w vs,Rel w0 ρ H w->RlL ρ us vs->CallSem P w0 ρ f vs w g H'
 exn:∀{f us g},G.exn f us=some g->∀ρ w vs H,Rel w0 ρ H w->RlL ρ us vs->CallSem P w0 ρ f vs w g H
 /-- the function that catches returns 0 and 0 if its argument returns;its two variables are new objects -/
 cat:∀{ρ:Rho} {g us cs w H H' c1 c2},Rel w0 ρ H w->(∀ρ' w',ρ.le ρ'->Rel w0 ρ' ((H.new (.cells [z64])).new (.cells [z64])) w'->∃x,CallSem P w0 ρ' g (us++cs) w' x H')->H'.cells H.n=some [c1]->H'.cells (H.n+1)=some [c2]->
  CallSem P w0 ρ G.cat [.func (.func g) us.toArray cs.toArray] w (.tup [z64,z64]) ((((H'.set H.n (.cells [z64])).set (H.n+1) (.cells [z64])).del H.n).del (H.n+1))
def FnOk (P:Program) {gs:Gls} (w0:Base gs) (ih:IH):Prop:=∀f us H out,ih (.fn f) us H=some out->out.e = .ret->∀ρ w vs,Rel w0 ρ H w->RlL ρ us vs->
 HasBody P f∧Calls P f vs.toArray w fun e w'=>∃v ρ',e = .returned v∧ρ.le ρ'∧Rel w0 ρ' out.H w'∧Rl ρ' (pack out.vs) v
theorem callB_ok {ih:IH} (h:FnOk P w0 ih):CallOk P w0 (callB ih):=fun f us H g H' hc ρ w vs R hr=>by
 obtain⟨o,h1,h2⟩:=ob_some.1 (show ob (ih (.fn f) us H) _=some (g,H')from hc)
 cases he:o.e with
 |normal=>rw[he]at h2;cases h2
 |exit id=>rw[he]at h2;cases h2
 |ret=>
  rw[he]at h2;cases h2
  obtain⟨hb,hcalls⟩:=h f us H o h1 he ρ w vs R hr
  exact .inr ⟨hb _ w,hcalls⟩
theorem callG_ok {ih:IH} (hG:GOk P G Fs w0) (h:FnOk P w0 ih):CallOk P w0 (callG G ih):=fun f us H g H' hc ρ w vs R hr=>by
 unfold callG callQ at hc
 cases hf:Nat.beq f G.cat with
 | false =>
  rw[hf]at hc
  cases he:G.ext f us H with
  |some r=>
   simp only[he]at hc
   cases hc
   exact hG.ext he ρ w vs R hr
  | none =>
   simp only[he]at hc
   cases hn:G.exn f us with
   |some r=>
    simp only[hn]at hc
    cases hc
    exact hG.exn hn ρ w vs _ R hr
   |none=>
    simp only[hn]at hc
    exact callB_ok h f us H g H' hc ρ w vs R hr
 | true =>
  rw[hf]at hc
  have hf:=Nat.eq_of_beq_eq_true hf
  subst hf
  cases us with
  |nil=>cases hc
  | cons u us =>
   cases us with
   |cons _ _=>cases hc
   |nil=>
    obtain⟨p,hp,hc⟩:=ob_some.1 (show ob u.asF _=some (g,H')from hc)
    rw[GH.newK_eq,GH.newK_eq]at hc
    obtain⟨x,hx,hc⟩:=ob_some.1 hc
    obtain⟨c1,hc1,hc⟩:=ob_some.1 hc
    obtain⟨c2,hc2,hc⟩:=ob_some.1 hc
    obtain⟨hl1,hc⟩:=bif_some.1 hc
    obtain⟨hl2,hc⟩:=bif_some.1 hc
    rw[GH.setK_eq,GH.setK_eq,GH.delK_eq,GH.delK_eq]at hc
    cases hc
    obtain⟨a1,rfl⟩:=List.length_eq_one_iff.1 (Nat.eq_of_beq_eq_true hl1)
    obtain⟨a2,rfl⟩:=List.length_eq_one_iff.1 (Nat.eq_of_beq_eq_true hl2)
    obtain⟨v,vs,rfl,h1,h2⟩:=hr.of_cons
    rw[h2.of_nil]
    rw[asF_eq hp]at h1
    obtain⟨us',cs',rfl,hu,hcs⟩:=h1.fn_inv
    exact hG.cat R (fun ρ' w' hle R'=>⟨x.1,callB_ok h p.1 _ _ x.1 x.2 hx ρ' w' _ R' ((hu.le hle).append (hcs.le hle))⟩) hc1 hc2
theorem evF_ok {ih:IH} (hG:∀w0:Base gs,GOk P G Fs w0) (hfn:∀w0:Base gs,FnOk P w0 ih) (hloop:LoopOk P w0 G.tab fun b cx=>ih (.loop b cx)) {f:Nat} {fn:Func} {us:List GV} {H:GH} {out:Out} (hf:Fs f=some fn) (h:evF G.tab (callG G ih) (fun b cx=>ih (.loop b cx)) fn us H=some out) (he:out.e = .ret) {ρ:Rho} {w:World} {vs:List Value} (R:Rel w0 ρ H w) (hr:RlL ρ us vs):
  HasBody P f∧Calls P f vs.toArray w fun e w'=>∃v ρ',e = .returned v∧ρ.le ρ'∧Rel w0 ρ' out.H w'∧Rl ρ' (pack out.vs) v:=by
 obtain⟨h1,h2,h3,h4⟩:=(hG w0).fns hf
 refine⟨h2,?_⟩
 obtain⟨body,hb,h⟩:=ob_some.1 (show ob fn.body _=some out from h)
 obtain⟨σ,hσ,h⟩:=unpackL_some h
 rw[List.range_eq_range']at hσ
 have hlen:=args_len hσ
 have hvl:vs.length<=fn.ntmps:=by rw[<-hr.len,hlen];exact h4
 refine calls_of_wpr h1 hb ?_
 have F:FrOk ρ fn.ntmps σ {tmps:=vs.toArray++Array.replicate (fn.ntmps - vs.toArray.size) undef,defers:=[]}:=by
  refine args_ok rfl (by simp;omega) hr (fun j v hv=> ?_) hσ
  have hlt:=getElem?_lt hv
  rw[Nat.zero_add,Array.getElem?_append_left (by simpa using hlt)]
  simpa using hv
 refine evC_ok (hG w0).tab (hG w0).mixed (fun w0=>callG_ok (hG w0) (hfn w0)) hloop body _ _ _ ⟨σ,H⟩ out ρ _ w _ (h3 body hb) h F R ⟨fun s' ρ' a' w' hk hle' F' R'=> ?_,fun id s' ρ' a' w' hk hle' F' R'=> ?_,fun s' ρ' a' w' hk hle' F' R'=> ?_⟩
 ·obtain⟨e1,v,hv,hres⟩:=retR_ok (fn:=fn) (hG w0).tab rfl F' R' hk
  exact Sx.body_end (.inr rfl) F'.defers hres ⟨v,ρ',rfl,hle',by rw[e1];exact R',hv⟩
 ·have:=exitOut_e hk
  rw[he]at this;cases this
 ·obtain⟨e1,v,hv,hres⟩:=retR_ok (fn:=fn) (hG w0).tab rfl F' R' hk
  exact Sx.body_end (.inl rfl) F'.defers hres ⟨v,ρ',rfl,hle',by rw[e1];exact R',hv⟩
theorem run_ok (hG:∀w0:Base gs,GOk P G Fs w0):∀(fuel:Nat) (w0:Base gs),FnOk P w0 (run G Fs fuel)∧LoopOk P w0 G.tab fun b cx=>run G Fs fuel (.loop b cx):=by
 intro fuel
 induction fuel with
 |zero=>exact fun w0=>⟨fun f us H out h=>(by cases h),fun b cx vs H out h=>(by cases h)⟩
 | succ fuel ih =>
  have ihf:∀w0:Base gs,FnOk P w0 (run G Fs fuel):=fun w0=>(ih w0).1
  intro w0
  have ihl:=(ih w0).2
  refine⟨fun f us H out h he ρ w vs R hr=> ?_,fun b cx vs H out h n σ ρ a w Q ho hσ F R hx hret=> ?_⟩
  ·obtain⟨fn,hfn,h⟩:=ob_some.1 (show ob (Fs f) _=some out from h)
   exact evF_ok hG ihf ihl hfn h he R hr
  ·have h':unpackL (keysOf (live (.loop b) 0 cx)) vs (fun σ=>ob (evC G.tab (callG G (run G Fs fuel)) (fun b cx=>run G Fs fuel (.loop b cx)) b (live (.loop b) 0 cx) cx (retN (keysOf (live (.loop b) 0 cx))) ⟨σ,H⟩) fun o=>Ex.casesOn (motive:=fun _=>RS) o.e (run G Fs fuel (.loop b cx) o.vs o.H) (fun _=>some o) (some o))=some out:=h
   obtain⟨σ',hσ',h'⟩:=unpackL_some h'
   rw[hσ]at hσ';cases hσ'
   obtain⟨o,h1,h2⟩:=ob_some.1 h'
   refine LoopWp.round (evC_ok (hG w0).tab (hG w0).mixed (fun w0=>callG_ok (hG w0) (ihf w0)) ihl b _ cx _ ⟨σ,H⟩ o ρ a w _ ho h1 F R ⟨fun s' ρ' a' w' hk hle F' R'=> ?_,fun id s' ρ' a' w' hk hle F' R'=> ?_,fun s' ρ' a' w' hk hle F' R'=> ?_⟩)
   ·obtain⟨e1,e2,e3⟩:=retN_e hk
    rw[e1,e2,e3]at h2
    obtain⟨σ2,hσ2⟩:=pack_ex s'.σ (keysOf (live (.loop b) 0 cx))
    exact ihl b cx _ s'.H out h2 n σ2 ρ' a' w' Q ho hσ2 (pack_ok F' hσ2) R' (fun id s2 ρ2 a2 w2 x1 x2=>hx id s2 ρ2 a2 w2 x1 (Rho.le_trans hle x2)) (fun s2 ρ2 a2 w2 x1 x2=>hret s2 ρ2 a2 w2 x1 (Rho.le_trans hle x2))
   ·have e1:=exitOut_e hk
    rw[e1]at h2;cases h2
    exact hx id s' ρ' a' w' hk hle F' R'
   ·have e1:=retR_e hk
    rw[e1]at h2;cases h2
    exact hret s' ρ' a' w' hk hle F' R'
theorem callF_ok (hG:∀w0:Base gs,GOk P G Fs w0) {fuel f:Nat} {us:List GV} {H H':GH} {g:GV} (h:callF G Fs fuel f us H=some (g,H')) {ρ:Rho} {w:World} {vs:List Value} (R:Rel w0 ρ H w) (hr:RlL ρ us vs):CallSem P w0 ρ f vs w g H':=
 callG_ok (hG w0) (run_ok hG fuel w0).1 f us H g H' h ρ w vs R hr
theorem Rel.start (b:Base gs):Rel b (fun _=>none) H0 b.w:=⟨Kept.refl _,fun h o hg=>(by cases hg),fun h h' o o' l l' hg=>(by cases hg),fun _ _=>rfl,fun h hh=>absurd hh (Nat.not_lt_zero h),fun h v l hv=>(by cases hv)⟩
end
end Go.Gx
end
section
namespace Go.Gx
open Go Go.Sx
noncomputable section
def oN (vs:List GV) (H:GH):RS:=some ⟨.normal,vs,H⟩
def oX (id:Nat) (vs:List GV) (H:GH):RS:=some ⟨.exit id,vs,H⟩
def oR (vs:List GV) (H:GH):RS:=some ⟨.ret,vs,H⟩
def jn (r:RS) (k:List GV->GH->RS):RS:=ob r fun o=>Ex.casesOn (motive:=fun _=>RS) o.e (k o.vs o.H) (fun _=>some o) (some o)
def rG (v:GV) (b:Bool) (H:GH) (X:OR):OR:=GV.casesOn (motive_1:=fun _=>OR) v (fun _ _=>none) (fun q=>Bool.casesOn (motive:=fun _=>OR) (eqB q b) (some (.un,H)) X) (fun _ _=>none) (fun _ _=>none) none (fun _ _ _ _=>none) none (fun _=>none) (fun _ _ _=>none) none none (fun _=>none) (fun _=>none) (some (.un,H)) none
def U0 {R:Type} (r0:List GV) (f:Option R):Option R:=List.casesOn (motive:=fun _=>Option R) r0 (f) fun _ _=>none
def U1 {R:Type} (r0:List GV) (f:GV->Option R):Option R:=List.casesOn (motive:=fun _=>Option R) r0 none fun a0 r1=>List.casesOn (motive:=fun _=>Option R) r1 (f a0) fun _ _=>none
def U2 {R:Type} (r0:List GV) (f:GV->GV->Option R):Option R:=List.casesOn (motive:=fun _=>Option R) r0 none fun a0 r1=>List.casesOn (motive:=fun _=>Option R) r1 none fun a1 r2=>List.casesOn (motive:=fun _=>Option R) r2 (f a0 a1) fun _ _=>none
def U3 {R:Type} (r0:List GV) (f:GV->GV->GV->Option R):Option R:=List.casesOn (motive:=fun _=>Option R) r0 none fun a0 r1=>List.casesOn (motive:=fun _=>Option R) r1 none fun a1 r2=>List.casesOn (motive:=fun _=>Option R) r2 none fun a2 r3=>List.casesOn (motive:=fun _=>Option R) r3 (f a0 a1 a2) fun _ _=>none
def U4 {R:Type} (r0:List GV) (f:GV->GV->GV->GV->Option R):Option R:=List.casesOn (motive:=fun _=>Option R) r0 none fun a0 r1=>List.casesOn (motive:=fun _=>Option R) r1 none fun a1 r2=>List.casesOn (motive:=fun _=>Option R) r2 none fun a2 r3=>List.casesOn (motive:=fun _=>Option R) r3 none fun a3 r4=>List.casesOn (motive:=fun _=>Option R) r4 (f a0 a1 a2 a3) fun _ _=>none
def U5 {R:Type} (r0:List GV) (f:GV->GV->GV->GV->GV->Option R):Option R:=List.casesOn (motive:=fun _=>Option R) r0 none fun a0 r1=>List.casesOn (motive:=fun _=>Option R) r1 none fun a1 r2=>List.casesOn (motive:=fun _=>Option R) r2 none fun a2 r3=>List.casesOn (motive:=fun _=>Option R) r3 none fun a3 r4=>List.casesOn (motive:=fun _=>Option R) r4 none fun a4 r5=>List.casesOn (motive:=fun _=>Option R) r5 (f a0 a1 a2 a3 a4) fun _ _=>none
def U6 {R:Type} (r0:List GV) (f:GV->GV->GV->GV->GV->GV->Option R):Option R:=List.casesOn (motive:=fun _=>Option R) r0 none fun a0 r1=>List.casesOn (motive:=fun _=>Option R) r1 none fun a1 r2=>List.casesOn (motive:=fun _=>Option R) r2 none fun a2 r3=>List.casesOn (motive:=fun _=>Option R) r3 none fun a3 r4=>List.casesOn (motive:=fun _=>Option R) r4 none fun a4 r5=>List.casesOn (motive:=fun _=>Option R) r5 none fun a5 r6=>List.casesOn (motive:=fun _=>Option R) r6 (f a0 a1 a2 a3 a4 a5) fun _ _=>none
def U7 {R:Type} (r0:List GV) (f:GV->GV->GV->GV->GV->GV->GV->Option R):Option R:=List.casesOn (motive:=fun _=>Option R) r0 none fun a0 r1=>List.casesOn (motive:=fun _=>Option R) r1 none fun a1 r2=>List.casesOn (motive:=fun _=>Option R) r2 none fun a2 r3=>List.casesOn (motive:=fun _=>Option R) r3 none fun a3 r4=>List.casesOn (motive:=fun _=>Option R) r4 none fun a4 r5=>List.casesOn (motive:=fun _=>Option R) r5 none fun a5 r6=>List.casesOn (motive:=fun _=>Option R) r6 none fun a6 r7=>List.casesOn (motive:=fun _=>Option R) r7 (f a0 a1 a2 a3 a4 a5 a6) fun _ _=>none
def U8 {R:Type} (r0:List GV) (f:GV->GV->GV->GV->GV->GV->GV->GV->Option R):Option R:=List.casesOn (motive:=fun _=>Option R) r0 none fun a0 r1=>List.casesOn (motive:=fun _=>Option R) r1 none fun a1 r2=>List.casesOn (motive:=fun _=>Option R) r2 none fun a2 r3=>List.casesOn (motive:=fun _=>Option R) r3 none fun a3 r4=>List.casesOn (motive:=fun _=>Option R) r4 none fun a4 r5=>List.casesOn (motive:=fun _=>Option R) r5 none fun a5 r6=>List.casesOn (motive:=fun _=>Option R) r6 none fun a6 r7=>List.casesOn (motive:=fun _=>Option R) r7 none fun a7 r8=>List.casesOn (motive:=fun _=>Option R) r8 (f a0 a1 a2 a3 a4 a5 a6 a7) fun _ _=>none
def U9 {R:Type} (r0:List GV) (f:GV->GV->GV->GV->GV->GV->GV->GV->GV->Option R):Option R:=List.casesOn (motive:=fun _=>Option R) r0 none fun a0 r1=>List.casesOn (motive:=fun _=>Option R) r1 none fun a1 r2=>List.casesOn (motive:=fun _=>Option R) r2 none fun a2 r3=>List.casesOn (motive:=fun _=>Option R) r3 none fun a3 r4=>List.casesOn (motive:=fun _=>Option R) r4 none fun a4 r5=>List.casesOn (motive:=fun _=>Option R) r5 none fun a5 r6=>List.casesOn (motive:=fun _=>Option R) r6 none fun a6 r7=>List.casesOn (motive:=fun _=>Option R) r7 none fun a7 r8=>List.casesOn (motive:=fun _=>Option R) r8 none fun a8 r9=>List.casesOn (motive:=fun _=>Option R) r9 (f a0 a1 a2 a3 a4 a5 a6 a7 a8) fun _ _=>none
def U10 {R:Type} (r0:List GV) (f:GV->GV->GV->GV->GV->GV->GV->GV->GV->GV->Option R):Option R:=List.casesOn (motive:=fun _=>Option R) r0 none fun a0 r1=>List.casesOn (motive:=fun _=>Option R) r1 none fun a1 r2=>List.casesOn (motive:=fun _=>Option R) r2 none fun a2 r3=>List.casesOn (motive:=fun _=>Option R) r3 none fun a3 r4=>List.casesOn (motive:=fun _=>Option R) r4 none fun a4 r5=>List.casesOn (motive:=fun _=>Option R) r5 none fun a5 r6=>List.casesOn (motive:=fun _=>Option R) r6 none fun a6 r7=>List.casesOn (motive:=fun _=>Option R) r7 none fun a7 r8=>List.casesOn (motive:=fun _=>Option R) r8 none fun a8 r9=>List.casesOn (motive:=fun _=>Option R) r9 none fun a9 r10=>List.casesOn (motive:=fun _=>Option R) r10 (f a0 a1 a2 a3 a4 a5 a6 a7 a8 a9) fun _ _=>none
def U12 {R:Type} (r0:List GV) (f:GV->GV->GV->GV->GV->GV->GV->GV->GV->GV->GV->GV->Option R):Option R:=List.casesOn (motive:=fun _=>Option R) r0 none fun a0 r1=>List.casesOn (motive:=fun _=>Option R) r1 none fun a1 r2=>List.casesOn (motive:=fun _=>Option R) r2 none fun a2 r3=>List.casesOn (motive:=fun _=>Option R) r3 none fun a3 r4=>List.casesOn (motive:=fun _=>Option R) r4 none fun a4 r5=>List.casesOn (motive:=fun _=>Option R) r5 none fun a5 r6=>List.casesOn (motive:=fun _=>Option R) r6 none fun a6 r7=>List.casesOn (motive:=fun _=>Option R) r7 none fun a7 r8=>List.casesOn (motive:=fun _=>Option R) r8 none fun a8 r9=>List.casesOn (motive:=fun _=>Option R) r9 none fun a9 r10=>List.casesOn (motive:=fun _=>Option R) r10 none fun a10 r11=>List.casesOn (motive:=fun _=>Option R) r11 none fun a11 r12=>List.casesOn (motive:=fun _=>Option R) r12 (f a0 a1 a2 a3 a4 a5 a6 a7 a8 a9 a10 a11) fun _ _=>none
def subC:List Nat->Code->Code
 | [],c=>c
 |0::p,.seq a _=>subC p a
 |1::p,.seq _ b=>subC p b
 |0::p,.cond _ a _=>subC p a
 |1::p,.cond _ _ b=>subC p b
 |0::p,.block _ b=>subC p b
 |0::p,.loop b=>subC p b
 |_,c=>c
def codeOf (fn:Func) (p:List Nat):Code:=match fn.body with
 |some c=>subC p c
 |none=> .skip
def cxOf (fn:Func) (env:List (Nat×Nat)):Cx:=⟨fn.results.toList,resMask fn.results.toList,env⟩
abbrev Body:=CH->QH->List GV->GH->RS
structure Tabs where
 fn:Nat->Option (Func×Body)
 lp:Nat->Option ((Code×Cx)×Body)
def Tabs.fns (T:Tabs) (f:Nat):Option Func:=ob (T.fn f) fun e=>some e.1
def Tabs.loop (T:Tabs) (lp:LH):QH:=fun i vs H=>ob (T.lp i) fun e=>lp e.1.1 e.1.2 vs H
def rr (T:Tabs) (G:GP) (n:Nat):Bool->QH:=Nat.rec (motive:=fun _=>Bool->QH) (fun _ _ _ _=>none) (fun _ ih b t vs H=>Bool.casesOn (motive:=fun _=>RS) b (ob (T.fn t) fun e=>e.2 (callQ G (ih false)) (ih true) vs H) (ob (T.lp t) fun e=>e.2 (callQ G (ih false)) (ih true) vs H)) n
structure TabsOk (T:Tabs) (tb:TB):Prop where
 fn:∀{f e},T.fn f=some e->∀(c:CH) (lp:LH) us H,e.2 c (T.loop lp) us H=evF tb c lp e.1 us H
 lp:∀{i e},T.lp i=some e->∀(c:CH) (lp:LH) us H,e.2 c (T.loop lp) us H=evL tb c lp e.1.1 e.1.2 us H
theorem rr_eq {T:Tabs} {G:GP} (h:TabsOk T G.tab):∀n,rr T G n false=(fun f us H=>run G T.fns n (.fn f) us H)∧rr T G n true=T.loop (fun b cx=>run G T.fns n (.loop b cx)):=by
 intro n
 induction n with
 |zero=>
  refine⟨rfl,?_⟩
  funext i vs H
  show none=ob (T.lp i) fun e=>none
  cases T.lp i<;>rfl
 | succ n ih =>
  obtain⟨ih1,ih2⟩:=ih
  constructor
  ·funext f us H
   show ob (T.fn f) (fun e=>e.2 (callQ G (rr T G n false)) (rr T G n true) us H)=ob (T.fns f) fun fn=>evF G.tab (callG G (run G T.fns n)) (fun b cx=>run G T.fns n (.loop b cx)) fn us H
   unfold Tabs.fns
   cases hf:T.fn f with
   |none=>rfl
   |some e=>
    show e.2 (callQ G (rr T G n false)) (rr T G n true) us H=evF G.tab (callG G (run G T.fns n)) (fun b cx=>run G T.fns n (.loop b cx)) e.1 us H
    rw[ih1,ih2]
    exact h.fn hf _ _ us H
  ·funext i vs H
   show ob (T.lp i) (fun e=>e.2 (callQ G (rr T G n false)) (rr T G n true) vs H)=ob (T.lp i) fun e=>run G T.fns (n+1) (.loop e.1.1 e.1.2) vs H
   cases hf:T.lp i with
   |none=>rfl
   |some e=>
    show e.2 (callQ G (rr T G n false)) (rr T G n true) vs H=evL G.tab (callG G (run G T.fns n)) (fun b cx=>run G T.fns n (.loop b cx)) e.1.1 e.1.2 vs H
    rw[ih1,ih2]
    exact h.lp hf _ _ vs H
def okF (tb:TB) (fn:Func):Bool:=match fn.body with
 |some c=>okC tb fn.ntmps c&&Nat.ble (fn.params.size+fn.nfree) fn.ntmps
 |none=>false
theorem okF_spec {tb:TB} {fn:Func} (h:okF tb fn=true):(∀c,fn.body=some c->okC tb fn.ntmps c=true)∧fn.params.size+fn.nfree<=fn.ntmps:=by
 unfold okF at h
 cases hb:fn.body with
 |none=>rw[hb]at h;cases h
 |some c=>
  rw[hb]at h
  simp only[Bool.and_eq_true]at h
  exact⟨fun c' hc=>by cases hc;exact h.1,by simpa using h.2⟩
def callR (T:Tabs) (G:GP) (fuel:Nat) (f:FuncId) (args:List GV) (H:GH):OR:=callQ G (rr T G fuel false) f args H
theorem callR_eq {T:Tabs} {G:GP} (h:TabsOk T G.tab) (fuel:Nat) (f:FuncId) (args:List GV) (H:GH):callR T G fuel f args H=callF G T.fns fuel f args H:=by
 unfold callR callF callG
 rw[(rr_eq h fuel).1]
end
end Go.Gx
end
