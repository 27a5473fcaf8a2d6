/- Models of functions with their proofs, by program (gen/xt.py), and plain laws, in one text. Conditions: none. -/
import Derived.Test.YtfimaabbclepbaaGreatZCMa4
import Derived.Laws.StructEq
set_option linter.unusedVariables false
set_option linter.unusedSimpArgs false
set_option maxHeartbeats 4000000
set_option maxRecDepth 20000
section
namespace Go.Gx
open Go Go.Sx Go.RowKit
section
variable {P:Program} {tb:TB} {ρ:Rho} {V U W X:Value} {v u t g:GV} {w0:Base} {w:World} {H H':GH}
theorem vMakeMap_ok {T:TypeId} (R:Rel w0 ρ H w) (h:vMakeMap H=some (g,H')):Does P w0 ρ (Instr.makeMap T none) w g H':=by
 unfold vMakeMap at h
 rw[GH.newK_eq]at h;cases h
 have e:Ext w (w.alloc (.map #[] 0)):=(Below.refl _ _).alloc (Nat.le_refl _) _
 have hn:=R.new (o:= .mp []) (l:=⟨w.heap.size,0,0,.map #[] 0,.mp []⟩) (R.ext.trans e) (fun h o' l' hg hl=>by
  obtain⟨l,hl',_,ho⟩:=R.live h o' hg
  rw[hl]at hl';cases hl'
  exact⟨e.block _ ho.lt,Nat.ne_of_lt ho.lt⟩) (.inl R.ext.size) ⟨#[],0,heap_alloc_new w _,rfl,fun i x hx=>by simp at hx⟩ (heap_alloc_new w _)
 refine⟨_,_,_,?_,hn.1,hn.2,.map (l:=⟨w.heap.size,0,0,.map #[] 0,.mp []⟩) (by simp[Rho.upd])⟩
 simp[Instr.makeMap]
theorem eqS_eq (s r:ByteArray):eqS (encB (bytesOfV s),(bytesOfV s).length) (encB (bytesOfV r),(bytesOfV r).length)=(s.toList==r.toList):=by
 rw[Lib.toList_data,Lib.toList_data]
 unfold eqS
 by_cases hl:(bytesOfV s).length=(bytesOfV r).length
 ·have hb:Nat.beq (bytesOfV r).length (bytesOfV r).length=true:=by simp
  rw[hl,hb,cond_true]
  by_cases he:encB (bytesOfV s)=encB (bytesOfV r)
  ·have:=encB_inj hl he
   unfold bytesOfV at this
   rw[he,this];simp
  ·rw[beq_ne he]
   symm
   rw[beq_eq_false_iff_ne]
   intro hh;exact he (by unfold bytesOfV;rw[hh])
 ·rw[beq_ne hl,cond_false]
  symm
  rw[beq_eq_false_iff_ne]
  intro hh;exact hl (by unfold bytesOfV;rw[hh])
theorem sameNow_ok {t:Ty} {a b:GV} {A B:Value} {c:Bool} (hk:keyOk t a=true) (ha:Rl ρ a A) (hb:Rl ρ b B) (h:keyEq a b=some c):Instr.sameNow t.desc A B=some c:=by
 unfold keyEq at h
 unfold keyOk at hk
 cases hi:a.asI with
 | some x =>
  rw[hi]at h hk
  obtain⟨y,hy,h⟩:=ob_some.1 (show ob b.asI _=some c from h)
  obtain⟨he,h⟩:=bif_some.1 h
  cases h
  rw[asI_eq hi]at ha
  rw[asI_eq hy]at hb
  rw[ha.int_inv,hb.int_inv]
  cases hd:tdI t.desc with
  |none=>simp only[hd]at hk;cases hk
  |some k=>
   rw[tdI_eq hd]
   have:=eqK_eq he
   simp only[Instr.sameNow,this,if_true,eqI_eq]
   congr 1
 |none=>
  rw[hi]at h hk
  obtain⟨x,hx,h⟩:=ob_some.1 (show ob a.asStr _=some c from h)
  obtain⟨y,hy,h⟩:=ob_some.1 h
  cases h
  rw[hx]at hk
  rw[asStr_eq hx]at ha
  rw[asStr_eq hy]at hb
  obtain⟨s,rfl,e1,e2⟩:=ha.str_inv
  obtain⟨r,rfl,e3,e4⟩:=hb.str_inv
  rw[tdStr_eq hk]
  show some (s==r)=_
  rw[beq_toListBytes,<-eqS_eq]
  cases x;cases y;simp only at e1 e2 e3 e4;rw[e1,e2,e3,e4]
theorem mfind_ok {t:Ty} {k:GV} {K:Value} (hk:keyOk t k=true) (hK:Rl ρ k K):∀{es:List (GV×GV)} {en:List MapEntry} {r:Option GV} (i:Nat),en.length=es.length->(∀(i:Nat) e,es[i]? = some e->∃m,en[i]? = some m∧Rl ρ e.1 m.key∧Rl ρ e.2 m.val)->mfind k es=some r->
  (r=none∧Instr.findNow t.desc K en i=some none)∨∃g j x,r=some g∧Rl ρ g x∧Instr.findNow t.desc K en i=some (some (j,x))
 | [],en,r,i,hl,_,h=>by
  cases h
  have:en=[]:=List.eq_nil_of_length_eq_zero (by simpa using hl)
  subst this;exact .inl ⟨rfl,rfl⟩
 | e :: es, en, r, i, hl, hr, h => by
  obtain⟨b,hb,h⟩:=ob_some.1 (show ob (keyEq k e.1) (fun b=>bif b then some (some e.2)else mfind k es)=some r from h)
  cases en with
  |nil=>simp at hl
  | cons m en =>
   obtain⟨m',hm,h1,h2⟩:=hr 0 e rfl
   simp at hm;subst hm
   have hs:=sameNow_ok hk hK h1 hb
   cases b with
   |true=>
    cases h
    exact .inr ⟨e.2,i,m.val,rfl,h2,by simp[Instr.findNow,hs]⟩
   |false=>
    have:=mfind_ok (r:=r) hk hK (i+1) (by simpa using hl) (fun i e' he=>by have:=hr (i+1) e' (by simpa using he);simpa using this) (show mfind k es=some r from h)
    simpa [Instr.findNow,hs]using this
theorem mapOf_ok (hG:TabOk P tb) {T:TypeId} {t:Ty×Ty} (h:mapOf tb T=some t):∃d k e,TyOk P T d∧d.desc = .map k e∧TyOk P k t.1∧TyOk P e t.2:=by
 obtain⟨d,hd,h⟩:=ob_some.1 (show ob (tb T) _=some t from h)
 obtain⟨kv,hkv,h⟩:=ob_some.1 h
 obtain⟨tk,htk,h⟩:=ob_some.1 h
 obtain⟨tv,htv,h⟩:=ob_some.1 h
 cases h
 exact⟨d,kv.1,kv.2,hG.tab hd,tdM_eq hkv,hG.tab htk,hG.tab htv⟩
theorem run_checkKey {K:TypeId} {t:Ty} {b:Bool} (hT:TyOk P K t) (hk:keyOk t u=true) (hu:Rl ρ u U) (w:World):(Instr.checkKey b 10000 K U).run P w = .ok () w:=by
 have hund:=hT.run_und w
 unfold keyOk at hk
 have key:∀n:Nat,(Instr.checkKey b (n+1) K U).run P w = .ok () w:=fun n=>by
  unfold Instr.checkKey
  cases hi:u.asI with
  |some x=>
   rw[hi]at hk
   rw[asI_eq hi]at hu
   rw[hu.int_inv]
   cases hd:tdI t.desc with
   |none=>simp only[hd]at hk;cases hk
   |some k=>rw[tdI_eq hd]at hund;simp[hund]
  | none =>
   rw[hi]at hk
   cases hs:u.asStr with
   |none=>simp only[hs]at hk;cases hk
   |some x=>
    simp only[hs]at hk
    rw[asStr_eq hs]at hu
    obtain⟨s,rfl,_,_⟩:=hu.str_inv
    rw[tdStr_eq hk]at hund
    simp[hund]
 exact key 9999
theorem Rel.map (R:Rel w0 ρ H w) {h:Nat} {es:List (GV×GV)} (hc:H.get h=some (.mp es)) {l:Loc} (hl:ρ h=some l):ObjOk ρ w l (.mp es)∧w0.mine l.b:=by
 obtain⟨l',hl',hb,ho⟩:=R.live h _ hc
 rw[hl]at hl';cases hl';exact⟨ho,hb⟩
theorem vLook_ok (hG:TabOk P tb) {T:TypeId} {ok:Bool} (R:Rel w0 ρ H w) (hv:Rl ρ v V) (hu:Rl ρ u U) (h:vLook tb T ok v u H=some g):∃x,Rl ρ g x∧(Instr.lookup T V U ok).run P w = .ok x w:=by
 obtain⟨m,hm,h⟩:=ob_some.1 (show ob v.asM _=some g from h)
 obtain⟨o,ho,h⟩:=ob_some.1 h
 obtain⟨es,hes,h⟩:=ob_some.1 h
 obtain⟨t,ht,h⟩:=ob_some.1 h
 obtain⟨hk,h⟩:=bif_some.1 h
 obtain⟨r,hr,h⟩:=ob_some.1 h
 obtain⟨z,hz,h⟩:=ob_some.1 h
 rw[asM_eq hm]at hv
 obtain⟨l,hl,rfl⟩:=hv.map_inv
 rw[GO.asM_eq hes]at ho
 obtain⟨⟨en,cl,hb,hlen,hent⟩,_⟩:=R.map ho hl
 obtain⟨d,k,e,hd,hde,hK,hE⟩:=mapOf_ok hG ht
 have hund:=hd.run_und w
 rw[hde]at hund
 have hck:=run_checkKey (P:=P) (b:=en.isEmpty) hK hk hu w
 have hget:(getObj l.b).run P w = .ok (.map en cl) w:=by simp[getObj,Sem.run,hb]
 have hkund:=hK.run_und w
 have hf:=mfind_ok hk hu (en:=en.toList) (r:=r) 0 (by simpa using hlen) (fun i e' he=>by
  obtain⟨m',h1,h2⟩:=hent i e' he
  exact⟨m',by rw[Array.getElem?_toList];exact h1,h2⟩) hr
 have hz':=ofV_ok (ρ:=ρ) hz
 rcases hf with⟨rfl,hf⟩|⟨g',j,x,rfl,hx,hf⟩
 ·cases ok with
  |false=>cases h;exact⟨_,hz',by simp[Instr.lookup,hund,hget,hck,Instr.findKey,hkund,hf,hE.run_zero w]⟩
  |true=>cases h;exact⟨.tuple #[t.2.zero,.bool false],Rl.tup' (.cons hz' (.cons (.bool _) .nil)),by simp[Instr.lookup,hund,hget,hck,Instr.findKey,hkund,hf,hE.run_zero w]⟩
 ·cases ok with
  |false=>cases h;exact⟨x,hx,by simp[Instr.lookup,hund,hget,hck,Instr.findKey,hkund,hf]⟩
  |true=>cases h;exact⟨.tuple #[x,.bool true],Rl.tup' (.cons hx (.cons (.bool _) .nil)),by simp[Instr.lookup,hund,hget,hck,Instr.findKey,hkund,hf]⟩
theorem vMapUp_ok (hG:TabOk P tb) {T:TypeId} (R:Rel w0 ρ H w) (hv:Rl ρ v V) (hu:Rl ρ u U) (hx:Rl ρ t X) (h:vMapUp tb T v u t H=some (g,H')):g = .un∧∃w' ρ',(Instr.mapUpdate T V U X).run P w = .ok () w'∧ρ.le ρ'∧Rel w0 ρ' H' w':=by
 obtain⟨m,hm,h⟩:=ob_some.1 (show ob v.asM _=some (g,H')from h)
 obtain⟨o,ho,h⟩:=ob_some.1 h
 obtain⟨es,hes,h⟩:=ob_some.1 h
 obtain⟨ty,ht,h⟩:=ob_some.1 h
 obtain⟨hk,h⟩:=bif_some.1 h
 obtain⟨r,hr,h⟩:=ob_some.1 h
 rw[asM_eq hm]at hv
 obtain⟨l,hl,rfl⟩:=hv.map_inv
 rw[GO.asM_eq hes]at ho
 obtain⟨⟨en,cl,hb,hlen,hent⟩,hbase⟩:=R.map ho hl
 obtain⟨d,k,e,hd,hde,hK,hE⟩:=mapOf_ok hG ht
 have hund:=hd.run_und w
 rw[hde]at hund
 have hck:=run_checkKey (P:=P) (b:=false) hK hk hu w
 have hget:(getObj l.b).run P w = .ok (.map en cl) w:=by simp[getObj,Sem.run,hb]
 have hkund:=hK.run_und w
 have hf:=mfind_ok hk hu (en:=en.toList) (r:=r) 0 (by simpa using hlen) (fun i e' he=>by
  obtain⟨m',h1,h2⟩:=hent i e' he
  exact⟨m',by rw[Array.getElem?_toList];exact h1,h2⟩) hr
 rcases hf with⟨rfl,hf⟩|⟨g',j,x,rfl,hx',hf⟩
 ·simp only[GH.setK_eq]at h
  cases h
  refine⟨rfl,{w with heap:=w.heap.setIfInBounds l.b (.map (en.push {key:=U,val:=X,born:=cl}) (cl+1))},_,?_,R.set (X:= .map (en.push {key:=U,val:=X,born:=cl}) (cl+1)) ho hl ?_ ?_ ?_ ?_⟩
  ·simp[Instr.mapUpdate,hund,hget,hck,Instr.findKey,hkund,hf,setObj,Sem.run,hb]
  ·exact⟨R.ext.os,R.ext.tape,R.ext.output,by simpa using R.ext.size,fun i hi hO=>by
    show(w.heap.setIfInBounds l.b _)[i]? = _
    rw[Array.getElem?_setIfInBounds_ne (fun e=>by subst e;rcases hbase with hbase|hbase;exact absurd hbase (by omega);exact hO hbase)];exact R.ext.block i hi hO⟩
  ·intro i hi
   show(w.heap.setIfInBounds l.b _)[i]? = _
   rw[Array.getElem?_setIfInBounds_ne (Ne.symm hi)]
  ·have hlt:l.b<w.heap.size:=(Array.getElem?_eq_some_iff.1 hb).1
   refine⟨en.push {key:=U,val:=X,born:=cl},cl+1,by show(w.heap.setIfInBounds l.b _)[l.b]? = _;rw[Array.getElem?_setIfInBounds_self_of_lt hlt],by simp[hlen],fun i e' he=> ?_⟩
   by_cases hi:i<es.length
   ·rw[List.getElem?_append_left hi]at he
    obtain⟨m',h1,h2⟩:=hent i e' he
    exact⟨m',by rw[Array.getElem?_push,if_neg (by omega)];exact h1,h2⟩
   ·rw[List.getElem?_append_right (by omega)]at he
    have:i=es.length:=by
     have:=getElem?_lt he
     simp at this;omega
    subst this
    simp at he;subst he
    exact⟨⟨U,X,cl⟩,by rw[Array.getElem?_push,if_pos (by omega)],hu,hx⟩
  ·have hlt:l.b<w.heap.size:=(Array.getElem?_eq_some_iff.1 hb).1
   show(w.heap.setIfInBounds l.b _)[l.b]? = _
   rw[Array.getElem?_setIfInBounds_self_of_lt hlt]
 ·cases h
end
end Go.Gx
end
section
namespace Go.Gx
open Go Go.Sx Go.RowKit
section
variable {P:Program} {tb:TB} {ρ:Rho} {w0:Base} {w:World} {H H':GH} {n:Nat} {σ:GF} {a:Act} {R:Type}
def CallSem (P:Program) (w0:Base) (ρ:Rho) (f:Nat) (vs:List Value) (w:World) (g:GV) (H':GH):Prop:=
 (∃v w' ρ',(callFunc f vs.toArray).run P w = .ok (.value v) w'∧ρ.le ρ'∧Rel w0 ρ' H' w'∧Rl ρ' g v)∨
 ((callFunc f vs.toArray).run P w = .ok (.enter f vs.toArray) w∧Calls P f vs.toArray w fun e w'=>∃v ρ',e = .returned v∧ρ.le ρ'∧Rel w0 ρ' H' w'∧Rl ρ' g v)
def CallOk (P:Program) (w0:Base) (ih:CH):Prop:=∀f us H g H',ih f us H=some (g,H')->∀ρ w vs,Rel w0 ρ H w->RlL ρ us vs->CallSem P w0 ρ f vs w g H'
def OpSem (P:Program) (w0:Base) (ρ:Rho) (σ:GF) (a:Act) (w:World) (o:Oper) (g:GV) (H H':GH):Prop:=
 (loudOp o.op=false∧isLoad o.op=false∧isLook o.op=false∧H'=H∧∃v,Rl ρ g v∧∀w,(execOp a.eval o).run P w = .ok (.value v) w)∨
 (loudOp o.op=false∧isLoad o.op=true∧H'=H∧∃v h l,ldH σ o.op=some h∧ρ h=some l∧(∃x,H.get h=some x)∧Rl ρ g v∧∀w',w'.heap[l.b]? = w.heap[l.b]? -> (execOp a.eval o).run P w' = .ok (.value v) w')∨
 (loudOp o.op=false∧isLook o.op=true∧H'=H∧∃v,Rl ρ g v∧(execOp a.eval o).run P w = .ok (.value v) w)∨
 (loudOp o.op=true∧∀K:Act->World->Prop,(∀ρ' w' v,ρ.le ρ'->Rel w0 ρ' H' w'->Rl ρ' g v->K (a.put o.dst v) w')->o.wp P a w K NoQ)
theorem OpSem.comp {o:Oper} {g:GV} {s:Sem Value} (hl:loudOp o.op=false) (h:Comp P ρ s g) (he:∀w v,s.run P w = .ok v w->(execOp a.eval o).run P w = .ok (.value v) w) (h1:isLoad o.op=false:=by rfl) (h2:isLook o.op=false:=by rfl):OpSem P w0 ρ σ a w o g H H:=
 let ⟨v,hv,hr⟩:=h;.inl ⟨hl,h1,h2,rfl,v,hv,fun w=>he w v (hr w)⟩
theorem OpSem.read {o:Oper} {g:GV} {s:Sem Value} (hl:loudOp o.op=false) (hr:isLook o.op=true) (h:∃x,Rl ρ g x∧s.run P w = .ok x w) (he:∀v,s.run P w = .ok v w->(execOp a.eval o).run P w = .ok (.value v) w):OpSem P w0 ρ σ a w o g H H:=
 let ⟨v,hv,hr'⟩:=h;.inr (.inr (.inl ⟨hl,hr,rfl,v,hv,he v hr'⟩))
theorem OpSem.does {o:Oper} {g:GV} {s:Sem Value} (hl:loudOp o.op=true) (h:Does P w0 ρ s w g H') (he:∀v w',s.run P w = .ok v w'->(execOp a.eval o).run P w = .ok (.value v) w'):OpSem P w0 ρ σ a w o g H H':=by
 obtain⟨v,w',ρ',hr,hle,R',hv⟩:=h
 refine .inr (.inr (.inr ⟨hl,fun K hK=> ?_⟩))
 simp only[Oper.wp,he v w' hr,Oper.upon]
 exact hK ρ' w' v hle R' hv
theorem OpSem.act {o:Oper} {g:GV} {s:Sem Unit} (hl:loudOp o.op=true) (h:g = .un∧∃w' ρ',s.run P w = .ok () w'∧ρ.le ρ'∧Rel w0 ρ' H' w') (he:∀w',s.run P w = .ok () w'->(execOp a.eval o).run P w = .ok .skip w'):OpSem P w0 ρ σ a w o g H H':=by
 obtain⟨rfl,w',ρ',hr,hle,R'⟩:=h
 refine .inr (.inr (.inr ⟨hl,fun K hK=> ?_⟩))
 simp only[Oper.wp,he w' hr,Oper.upon]
 exact hK ρ' w' undef hle R' .un
theorem gevo_ok (F:FrOk ρ n σ a) {o:Option Operand} {g:Option GV} (h:gevo σ o=some g):RlO ρ g (o.map a.eval):=by
 cases o with
 |none=>cases h;exact .inl ⟨rfl,rfl⟩
 |some x=>
  obtain⟨v,hv,h⟩:=ob_some.1 (show ob (gev σ x) _=some g from h)
  cases h;exact .inr ⟨v,_,rfl,rfl,gev_ok F hv⟩
theorem toList2 {α:Type} {xs:Array α} {x y:α} (h:xs.toList=[x,y]):xs = #[x,y]:=by
 cases xs;simp at h;rw[h]
theorem toList1 {α:Type} {xs:Array α} {x:α} (h:xs.toList=[x]):xs = #[x]:=by
 cases xs;simp at h;rw[h]
theorem kArg1_some {f:Operand->KT R} {k:GV->GH->Option R} {r:R}:∀{xs:List Operand},kArg1 xs f σ H k=some r->∃x,xs=[x]∧f x σ H k=some r
 | [],h=>by cases h
 | [x],h=>⟨x,rfl,h⟩
 |_::_::_,h=>by cases h
theorem kArg2_some {f:Operand->Operand->KT R} {k:GV->GH->Option R} {r:R}:∀{xs:List Operand},kArg2 xs f σ H k=some r->∃x y,xs=[x,y]∧f x y σ H k=some r
 | [],h=>by cases h
 | [_],h=>by cases h
 | [x,y],h=>⟨x,y,rfl,h⟩
 |_::_::_::_,h=>by cases h
theorem kOR_some {o:OR} {k:GV->GH->Option R} {r:R} (h:kOR o k=some r):∃g H',o=some (g,H')∧k g H'=some r:=by
 obtain⟨⟨g,H'⟩,h1,h2⟩:=ob_some.1 (show ob o _=some r from h)
 exact⟨g,H',h1,h2⟩
theorem kBuB_ok (hG:TabOk P tb) (F:FrOk ρ n σ a) (Rr:Rel w0 ρ H w) {b:Builtin} {xs:Array Operand} {ts:Array TypeId} {k:GV->GH->Option R} {r:R} {d:Option Tmp} {ty:TypeId} {pos:String} {aft:Array Edge} {gd:Option (Nat×Bool)} (hlen:ts.size=xs.size)
  (h:kBuB tb xs ts b σ H k=some r):∃g H',k g H'=some r∧OpSem P w0 ρ σ a w ⟨d,.call ⟨.builtin b,xs,ts⟩,ty,pos,aft,gd⟩ g H H':=by
 cases b with
 | len =>
  obtain⟨x,hx,h⟩:=kArg1_some (show kArg1 xs.toList (kLen tb ts.toList) σ H k=some r from h)
  obtain⟨T,hT,h⟩:=ob_some.1 (show ob (nth ts.toList 0) _=some r from h)
  obtain⟨v,hv,h⟩:=ob_some.1 h
  obtain⟨g,hg,hk⟩:=ob_some.1 h
  have ex:=toList1 hx
  subst ex
  have et:ts = #[T]:=by
   rw[nth_eq]at hT
   obtain⟨l⟩:=ts
   match l,hlen with
   | [t],_=>simp at hT;subst hT;rfl
  subst et
  exact⟨g,H,hk,.comp rfl (vLen_ok hG (ty:=ty) (gev_ok F hv) hg) (fun w v hr=>by simp[execOp,resolve,invoke,builtin,hr])⟩
 | max =>
  obtain⟨x,y,hx,h⟩:=kArg2_some (show kArg2 xs.toList (fun x y=>k2 x y vMax) σ H k=some r from h)
  obtain⟨v,hv,h⟩:=ob_some.1 (show ob (gev σ x) _=some r from h)
  obtain⟨u,hu,h⟩:=ob_some.1 h
  obtain⟨g,hg,hk⟩:=ob_some.1 h
  have ex:=toList2 hx
  subst ex
  obtain⟨t1,t2,et⟩:∃t1 t2,ts = #[t1,t2]:=by
   obtain⟨l⟩:=ts
   match l,hlen with
   | [t,t'],_=>exact⟨t,t',rfl⟩
  subst et
  exact⟨g,H,hk,.comp rfl (vMax_ok (t1:=t1) (t2:=t2) (ty:=ty) (gev_ok F hv) (gev_ok F hu) hg) (fun w v hr=>by simp[execOp,resolve,invoke,builtin,hr])⟩
 | min =>
  obtain⟨x,y,hx,h⟩:=kArg2_some (show kArg2 xs.toList (fun x y=>k2 x y vMin) σ H k=some r from h)
  obtain⟨v,hv,h⟩:=ob_some.1 (show ob (gev σ x) _=some r from h)
  obtain⟨u,hu,h⟩:=ob_some.1 h
  obtain⟨g,hg,hk⟩:=ob_some.1 h
  have ex:=toList2 hx
  subst ex
  obtain⟨t1,t2,et⟩:∃t1 t2,ts = #[t1,t2]:=by
   obtain⟨l⟩:=ts
   match l,hlen with
   | [t,t'],_=>exact⟨t,t',rfl⟩
  subst et
  exact⟨g,H,hk,.comp rfl (vMin_ok (t1:=t1) (t2:=t2) (ty:=ty) (gev_ok F hv) (gev_ok F hu) hg) (fun w v hr=>by simp[execOp,resolve,invoke,builtin,hr])⟩
 | append =>
  obtain⟨x,y,hx,h⟩:=kArg2_some (show kArg2 xs.toList (kApp tb ts.toList) σ H k=some r from h)
  obtain⟨T,hT,h⟩:=ob_some.1 (show ob (nth ts.toList 0) _=some r from h)
  obtain⟨T',hT',h⟩:=ob_some.1 h
  obtain⟨v,hv,h⟩:=ob_some.1 h
  obtain⟨u,hu,h⟩:=ob_some.1 h
  obtain⟨g,H',hg,hk⟩:=kOR_some h
  have ex:=toList2 hx
  subst ex
  have et:ts = #[T,T']:=by
   rw[nth_eq]at hT hT'
   obtain⟨l⟩:=ts
   match l,hlen with
   | [t,t'],_=>simp at hT hT';subst hT hT';rfl
  subst et
  exact⟨g,H',hk,.does rfl (vApp_ok hG (ty:=ty) Rr (gev_ok F hv) (gev_ok F hu) hg) (fun v w' hr=>by simp[execOp,resolve,invoke,builtin,hr])⟩
 |_=>cases h
theorem kCallV_ok {ih:CH} (hih:CallOk P w0 ih) (F:FrOk ρ n σ a) (Rr:Rel w0 ρ H w) {f:Operand} {xs:Array Operand} {ts:Array TypeId} {k:GV->GH->Option R} {r:R} {d:Option Tmp} {ty:TypeId} {pos:String} {aft:Array Edge} {gd:Option (Nat×Bool)}
  (h:kCallV ih xs f σ H k=some r):∃g H',k g H'=some r∧OpSem P w0 ρ σ a w ⟨d,.call ⟨.value f,xs,ts⟩,ty,pos,aft,gd⟩ g H H':=by
 obtain⟨v,hv,h⟩:=ob_some.1 (show ob (gev σ f) _=some r from h)
 obtain⟨p,hp,h⟩:=ob_some.1 h
 obtain⟨us,hus,h⟩:=ob_some.1 h
 obtain⟨g,H',hc,h⟩:=kOR_some h
 refine⟨g,H',h,.inr (.inr (.inr ⟨rfl,fun K hK=> ?_⟩))⟩
 have hf:=gev_ok F hv
 rw[asF_eq hp]at hf
 obtain⟨fs,cs,ef,hfs,hcs⟩:=hf.fn_inv
 have harg:=gevs_ok F hus
 have hall:=(hfs.append harg).append hcs
 have hrun:∀nx w',(callFunc p.1 (fs++xs.toList.map a.eval++cs).toArray).run P w = .ok nx w'->(execOp a.eval ⟨d,.call ⟨.value f,xs,ts⟩,ty,pos,aft,gd⟩).run P w = .ok nx w':=fun nx w' hr=>by
  have e1:(fs++xs.toList.map a.eval++cs).toArray=fs.toArray++(xs.map a.eval++cs.toArray):=by
   apply Array.toList_inj.1;simp
  rw[e1]at hr
  simp[execOp,resolve,ef,Deferred.ofValue,invoke,hr]
 rcases hih _ _ _ _ _ hc ρ w _ Rr hall with⟨v',w',ρ',hr,hle,R',hv'⟩|⟨hr,hcalls⟩
 ·simp only[Oper.wp,hrun _ _ hr,Oper.upon]
  exact hK ρ' w' v' hle R' hv'
 ·simp only[Oper.wp,hrun _ _ hr,Oper.upon]
  refine hcalls.mono ?_
  rintro e w' ⟨v',ρ',rfl,hle,R',hv'⟩
  exact hK ρ' w' v' hle R' hv'
def okArgs:Op->Bool
 | .call c=>Nat.beq c.argTypes.size c.args.size
 |_=>true
theorem gop_ok (hG:TabOk P tb) {ih:CH} (hih:CallOk P w0 ih) (F:FrOk ρ n σ a) (Rr:Rel w0 ρ H w) {o:Oper} {k:GV->GH->Option R} {r:R} (hoa:okArgs o.op=true∨∃c f,o.op = .call c∧c.callee = .value f) (h:gop tb ih o.op σ H k=some r):
  ∃g H',k g H'=some r∧OpSem P w0 ρ σ a w o g H H':=by
 obtain⟨d,op,ty,pos,aft,gd⟩:=o
 cases op with
 |move x=>
  obtain⟨v,hv,h⟩:=ob_some.1 (show ob (gev σ x) _=some r from h)
  exact⟨v,H,h,.inl ⟨rfl,rfl,rfl,rfl,_,gev_ok F hv,fun w=>by simp[execOp]⟩⟩
 |assign x=>
  obtain⟨v,hv,h⟩:=ob_some.1 (show ob (gev σ x) _=some r from h)
  exact⟨v,H,h,.inl ⟨rfl,rfl,rfl,rfl,_,gev_ok F hv,fun w=>by simp[execOp]⟩⟩
 |pick c x y=>
  obtain⟨v,hv,h⟩:=ob_some.1 (show ob (gev σ c) _=some r from h)
  obtain⟨u,hu,h⟩:=ob_some.1 h
  obtain⟨t,ht,h⟩:=ob_some.1 h
  obtain⟨g,hg,h⟩:=ob_some.1 h
  obtain⟨b,hb,hg⟩:=ob_some.1 (show ob v.asB _=some g from hg)
  have hc:=gev_ok F hv
  rw[asB_eq hb]at hc
  cases b with
  |true=>cases hg;exact⟨_,H,h,.inl ⟨rfl,rfl,rfl,rfl,_,gev_ok F hu,fun w=>by simp[execOp,hc.bool_inv,asBool]⟩⟩
  |false=>cases hg;exact⟨_,H,h,.inl ⟨rfl,rfl,rfl,rfl,_,gev_ok F ht,fun w=>by simp[execOp,hc.bool_inv,asBool]⟩⟩
 |alloc T=>
  obtain⟨g,H',hg,h⟩:=kOR_some (show kOR (vAlloc tb T H) k=some r from h)
  exact⟨g,H',h,.does rfl (vAlloc_ok hG Rr hg) (fun v w' hr=>by simp[execOp,hr])⟩
 |box T x=>
  obtain⟨v,hv,h⟩:=ob_some.1 (show ob (gev σ x) _=some r from h)
  obtain⟨g,H',hg,h⟩:=kOR_some h
  exact⟨g,H',h,.does rfl (vBox_ok (T:=T) Rr (gev_ok F hv) hg) (fun v w' hr=>by simp[execOp,hr])⟩
 | build T ps =>
  obtain⟨vs,hvs,h⟩:=ob_some.1 (show ob (gparts σ ps.toList) _=some r from h)
  obtain⟨g,hg,h⟩:=ob_some.1 h
  exact⟨g,H,h,.comp rfl (vBuild_ok hG (gparts_ok F hvs) hg) (fun w v hr=>by
   have e:(ps.toList.map fun p=>(p.1,a.eval p.2)).toArray=ps.map fun p=>(p.1,a.eval p.2):=by apply Array.toList_inj.1;simp
   rw[e]at hr
   simp[execOp,hr])⟩
 | buildSlice T m ps =>
  obtain⟨vs,hvs,h⟩:=ob_some.1 (show ob (gparts σ ps.toList) _=some r from h)
  obtain⟨g,H',hg,h⟩:=kOR_some h
  exact⟨g,H',h,.does rfl (vBuildS_ok hG Rr (gparts_ok F hvs) hg) (fun v w' hr=>by
   have e:(ps.toList.map fun p=>(p.1,a.eval p.2)).toArray=ps.map fun p=>(p.1,a.eval p.2):=by apply Array.toList_inj.1;simp
   rw[e]at hr
   simp[execOp,hr])⟩
 |load T x=>
  obtain⟨v,hv,h⟩:=ob_some.1 (show ob (gev σ x) _=some r from h)
  obtain⟨g,hg,h⟩:=ob_some.1 h
  obtain⟨x',p,l,he,hl,hgt,hx',hr⟩:=vLoad_ok (P:=P) hG Rr (gev_ok F hv) hg
  exact⟨g,H,h,.inr (.inl ⟨rfl,rfl,rfl,x',p.1,l,by show ob (gev σ x) _=_;rw[hv,he];rfl,hl,hgt,hx',fun w' hw'=>by have:=hr w' hw';simp[execOp,this]⟩)⟩
 |store T x y=>
  obtain⟨v,hv,h⟩:=ob_some.1 (show ob (gev σ x) _=some r from h)
  obtain⟨u,hu,h⟩:=ob_some.1 h
  obtain⟨g,H',hg,h⟩:=kOR_some h
  exact⟨g,H',h,.act rfl (vStore_ok hG Rr (gev_ok F hv) (gev_ok F hu) hg) (fun w' hr=>by simp[execOp,hr])⟩
 |nilCheck x=>
  obtain⟨v,hv,h⟩:=ob_some.1 (show ob (gev σ x) _=some r from h)
  obtain⟨g,hg,hk⟩:=ob_some.1 h
  obtain⟨rfl,hr⟩:=nilck_ok (P:=P) (gev_ok F hv) hg
  exact⟨_,H,hk,.inl ⟨rfl,rfl,rfl,rfl,_,gev_ok F hv,fun w=>hr _ x a.eval rfl rfl w⟩⟩
 | binOp op T x y T' =>
  obtain⟨v,hv,h⟩:=ob_some.1 (show ob (gev σ x) _=some r from h)
  obtain⟨u,hu,h⟩:=ob_some.1 h
  obtain⟨g,hg,h⟩:=ob_some.1 h
  exact⟨g,H,h,.comp rfl (vBin_ok hG x y (gev_ok F hv) (gev_ok F hu) hg) (fun w v hr=>by
   simp only[execOp]
   simp at hr ⊢
   cases hq:Sem.run P (eqGuard op T x y (a.eval x) (a.eval y)) w with
   |ok u w1=>rw[hq]at hr;simp at hr;simp[hr]
   |halt h1 w1=>rw[hq]at hr;cases hr)⟩
 |unOp op T x=>
  obtain⟨v,hv,h⟩:=ob_some.1 (show ob (gev σ x) _=some r from h)
  obtain⟨g,hg,h⟩:=ob_some.1 h
  exact⟨g,H,h,.comp rfl (vUn_ok (gev_ok F hv) hg) (fun w v hr=>by simp[execOp,hr])⟩
 |convert S D x=>
  obtain⟨v,hv,h⟩:=ob_some.1 (show ob (gev σ x) _=some r from h)
  obtain⟨g,hg,h⟩:=ob_some.1 h
  exact⟨g,H,h,.comp rfl (vConv_ok hG (gev_ok F hv) hg) (fun w v hr=>by simp[execOp,hr])⟩
 | makeFunc fn first caps =>
  cases fn with
  |func f=>
   obtain⟨us,hus,h⟩:=ob_some.1 (show ob (gevs σ first.toList) _=some r from h)
   obtain⟨vs,hvs,h⟩:=ob_some.1 h
   refine⟨_,H,h,.inl ⟨rfl,rfl,rfl,rfl,_,Rl.fn' (gevs_ok F hus) (gevs_ok F hvs),fun w=> ?_⟩⟩
   have e1:(first.toList.map a.eval).toArray=first.map a.eval:=by apply Array.toList_inj.1;simp
   have e2:(caps.toList.map a.eval).toArray=caps.map a.eval:=by apply Array.toList_inj.1;simp
   rw[e1,e2]
   simp[execOp,Instr.makeFunc]
  |_=>cases h
 | makeMap T q =>
  cases q with
  |none=>
   obtain⟨g,H',hg,h⟩:=kOR_some (show kOR (vMakeMap H) k=some r from h)
   exact⟨g,H',h,.does rfl (vMakeMap_ok (T:=T) Rr hg) (fun v w' hr=>by simp[execOp,hr])⟩
  |some x=>cases h
 |makeSlice T x y=>
  obtain⟨v,hv,h⟩:=ob_some.1 (show ob (gev σ x) _=some r from h)
  obtain⟨u,hu,h⟩:=ob_some.1 h
  obtain⟨g,H',hg,h⟩:=kOR_some h
  exact⟨g,H',h,.does rfl (vMake_ok hG Rr (gev_ok F hv) (gev_ok F hu) hg) (fun v w' hr=>by simp[execOp,hr])⟩
 | slice T x lo hi mx =>
  cases mx with
  |none=>
   obtain⟨v,hv,h⟩:=ob_some.1 (show ob (gev σ x) _=some r from h)
   obtain⟨l,hl,h⟩:=ob_some.1 h
   obtain⟨e,he,h⟩:=ob_some.1 h
   obtain⟨g,hg,h⟩:=ob_some.1 h
   exact⟨g,H,h,.comp rfl (vSlice_ok hG (.inl ⟨_,_,Rr⟩) (gev_ok F hv) (gevo_ok F hl) (gevo_ok F he) hg) (fun w v hr=>by simp[execOp,hr])⟩
  |some y=>cases h
 |fieldAddr T x f=>
  obtain⟨v,hv,h⟩:=ob_some.1 (show ob (gev σ x) _=some r from h)
  obtain⟨g,hg,h⟩:=ob_some.1 h
  exact⟨g,H,h,.comp rfl (vField_ok hG (gev_ok F hv) hg) (fun w v hr=>by simp[execOp,hr])⟩
 |field T x f=>
  obtain⟨v,hv,h⟩:=ob_some.1 (show ob (gev σ x) _=some r from h)
  obtain⟨g,hg,h⟩:=ob_some.1 h
  exact⟨g,H,h,.comp rfl (vPart_ok hG (gev_ok F hv) hg) (fun w v hr=>by simp[execOp,hr])⟩
 |indexAddr T x y=>
  obtain⟨v,hv,h⟩:=ob_some.1 (show ob (gev σ x) _=some r from h)
  obtain⟨u,hu,h⟩:=ob_some.1 h
  obtain⟨g,hg,h⟩:=ob_some.1 h
  exact⟨g,H,h,.comp rfl (vIndex_ok hG (gev_ok F hv) (gev_ok F hu) hg) (fun w v hr=>by simp[execOp,hr])⟩
 |index T x y=>
  obtain⟨v,hv,h⟩:=ob_some.1 (show ob (gev σ x) _=some r from h)
  obtain⟨u,hu,h⟩:=ob_some.1 h
  obtain⟨g,hg,h⟩:=ob_some.1 h
  exact⟨g,H,h,.comp rfl (vAt_ok hG (gev_ok F hv) (gev_ok F hu) hg) (fun w v hr=>by simp[execOp,hr])⟩
 |lookup T x y ok=>
  obtain⟨v,hv,h⟩:=ob_some.1 (show ob (gev σ x) _=some r from h)
  obtain⟨u,hu,h⟩:=ob_some.1 h
  obtain⟨g,hg,h⟩:=ob_some.1 h
  exact⟨g,H,h,.read rfl rfl (vLook_ok hG Rr (gev_ok F hv) (gev_ok F hu) hg) (fun v hr=>by simp[execOp,hr])⟩
 |mapUpdate T x y z=>
  obtain⟨v,hv,h⟩:=ob_some.1 (show ob (gev σ x) _=some r from h)
  obtain⟨u,hu,h⟩:=ob_some.1 h
  obtain⟨t,ht,h⟩:=ob_some.1 h
  obtain⟨g,H',hg,h⟩:=kOR_some h
  exact⟨g,H',h,.act rfl (vMapUp_ok hG Rr (gev_ok F hv) (gev_ok F hu) (gev_ok F ht) hg) (fun w' hr=>by simp[execOp,hr])⟩
 |extract x i=>
  obtain⟨v,hv,h⟩:=ob_some.1 (show ob (gev σ x) _=some r from h)
  obtain⟨g,hg,h⟩:=ob_some.1 h
  exact⟨g,H,h,.comp rfl (vExt_ok (gev_ok F hv) hg) (fun w v hr=>by simp[execOp,hr])⟩
 | call c =>
  obtain⟨cal,xs,ts⟩:=c
  cases cal with
  |value f=>exact kCallV_ok hih F Rr h
  |invoke x m=>cases h
  |builtin b=>
   refine kBuB_ok hG F Rr ?_ h
   rcases hoa with hoa|⟨c,f,e1,e2⟩
   ·exact Nat.eq_of_beq_eq_true hoa
   ·cases e1;cases e2
 |_=>cases h
end
end Go.Gx
end
section
namespace Go.Gx
open Go Go.Sx Go.RowKit

theorem unpackL_eq {R:Type}:∀(ks:List Nat) (vs:List GV) (f:GF->Option R),unpackL ks vs f=ob (unpackL ks vs some) f
 | [],[],f=>rfl
 | [],_::_,f=>rfl
 |key::ks,[],f=>rfl
 |key::ks,v::vs,f=>by
  show unpackL ks vs (fun σ=>f ((key,v)::σ))=ob (unpackL ks vs fun σ=>some ((key,v)::σ)) f
  rw[unpackL_eq ks vs (fun σ=>f ((key,v)::σ)),unpackL_eq ks vs (fun σ=>some ((key,v)::σ))]
  cases unpackL ks vs some<;>rfl
theorem unpackL_some {R:Type} {ks:List Nat} {vs:List GV} {f:GF->Option R} {r:R} (h:unpackL ks vs f=some r):∃σ,unpackL ks vs some=some σ∧f σ=some r:=by
 rw[unpackL_eq]at h;exact ob_some.1 h
theorem pack_ok {ρ:Rho} {n:Nat} {σ:GF} {a:Act} (F:FrOk ρ n σ a):∀{ks:List Nat} {σ':GF},unpackL ks (packL σ ks) some=some σ'->FrOk ρ n σ' a
 | [],σ',h=>by cases h;exact⟨F.defers,F.size,fun t g hg=>by cases hg⟩
 | key :: ks, σ', h => by
  have h':unpackL ks (packL σ ks) (fun σ'=>some ((key,Option.casesOn (motive:=fun _=>GV) (glk σ key) .bad (fun v=>v))::σ'))=some σ':=h
  obtain⟨s,h1,h2⟩:=unpackL_some h'
  cases h2
  have ih:=pack_ok F h1
  refine⟨F.defers,F.size,fun t g hg=> ?_⟩
  rw[glk_cons]at hg
  by_cases e:t=key
  ·subst e
   rw[if_pos rfl]at hg
   cases hk:glk σ t with
   |none=>rw[hk]at hg;cases hg;exact .bad _
   |some v=>rw[hk]at hg;cases hg;exact F.slot t v hk
  ·rw[if_neg e]at hg;exact ih.slot t g hg
theorem pack_ex (σ:GF):∀ks:List Nat,∃σ',unpackL ks (packL σ ks) some=some σ'
 | []=>⟨[],rfl⟩
 |key::ks=>by
  obtain⟨σ',h⟩:=pack_ex σ ks
  refine⟨(key,Option.casesOn (motive:=fun _=>GV) (glk σ key) .bad (fun v=>v))::σ',?_⟩
  show unpackL ks (packL σ ks) (fun σ'=>some ((key,Option.casesOn (motive:=fun _=>GV) (glk σ key) .bad (fun v=>v))::σ'))=_
  rw[unpackL_eq,h];rfl
theorem args_len:∀{m i:Nat} {us:List GV} {σ:GF},unpackL (List.range' i m) us some=some σ->us.length=m
 |0,i,[],σ,h=>rfl
 |0,i,_::_,σ,h=>by cases h
 |m+1,i,[],σ,h=>by cases h
 |m+1,i,u::us,σ,h=>by
  obtain⟨s,h3,_⟩:=unpackL_some (show unpackL (List.range' (i+1) m) us (fun σ=>some ((i,u)::σ))=some σ from h)
  simp[args_len h3]
theorem args_ok {ρ:Rho} {n:Nat} {a:Act} (hd:a.defers=[]) (hs:a.tmps.size=n):∀{m i:Nat} {us:List GV} {vs:List Value} {σ:GF},RlL ρ us vs->(∀j v,vs[j]? = some v->a.tmps[i+j]? = some v)->unpackL (List.range' i m) us some=some σ->FrOk ρ n σ a
 |0,i,[],vs,σ,_,_,h=>by cases h;exact⟨hd,hs,fun t g hg=>by cases hg⟩
 |0,i,_::_,vs,σ,_,_,h=>by cases h
 |m+1,i,[],vs,σ,_,_,h=>by cases h
 | m + 1, i, u :: us, vs, σ, hr, ha, h => by
  obtain⟨v,vs,rfl,h1,h2⟩:=hr.of_cons
  have h':unpackL (List.range' (i+1) m) us (fun σ=>some ((i,u)::σ))=some σ:=h
  obtain⟨s,h3,h4⟩:=unpackL_some h'
  cases h4
  have ih:=args_ok hd hs h2 (fun j v hv=>by have:=ha (j+1) v (by simpa using hv);rwa[show i+(j+1)=i+1+j by omega]at this) h3
  refine⟨hd,hs,fun t g hg=> ?_⟩
  rw[glk_cons]at hg
  by_cases e:t=i
  ·subst e;rw[if_pos rfl]at hg;cases hg
   have:=ha 0 v rfl
   simp[Act.eval,show a.tmps[t]? = some v by simpa using this,h1]
  ·rw[if_neg e]at hg;exact ih.slot t g hg

def okOp (n:Nat) (o:Oper):Bool:=noDefer o&&(match o.dst with|none=>true|some d=>Nat.blt d n)&&(okArgs o.op||(match o.op with|.call c=>(match c.callee with|.value _=>true|_=>false)|_=>false))
section
variable {P:Program} {tb:TB} {w0:Base}
theorem okOp_spec {n:Nat} {o:Oper} (h:okOp n o=true):noDefer o=true∧(∀d,o.dst=some d->d<n)∧(okArgs o.op=true∨∃c f,o.op = .call c∧c.callee = .value f):=by
 unfold okOp at h
 simp only[Bool.and_eq_true,Bool.or_eq_true]at h
 obtain⟨⟨h1,h2⟩,h3⟩:=h
 refine⟨h1,fun d hd=> ?_,?_⟩
 ·rw[hd]at h2;simpa [Nat.blt_eq]using h2
 ·rcases h3 with h3|h3
  ·exact .inl h3
  ·right
   cases ho:o.op with
   |call c=>
    rw[ho]at h3
    cases hc:c.callee with
    |value f=>exact⟨c,f,rfl,hc⟩
    |invoke x m=>simp only[hc]at h3;cases h3
    |builtin b=>simp only[hc]at h3;cases h3
   |_=>rw[ho]at h3;cases h3
theorem FrOk.putD {ρ:Rho} {n:Nat} {σ:GF} {a:Act} (F:FrOk ρ n σ a) {d:Option Nat} (hd:∀x,d=some x->x<n) {g:GV} {v:Value} (hv:Rl ρ g v):FrOk ρ n (putD d g σ) (a.put d v):=by
 cases d with
 |none=>exact⟨F.defers,F.size,F.slot⟩
 |some d=>exact F.put (hd d rfl) hv
theorem evOp_ok {ih:CH} (hG:TabOk P tb) (hih:CallOk P w0 ih) {all:List Oper} {n:Nat} {o:Oper} {k:GS->RS} {s:GS} {out:Out} {ρ:Rho} {a:Act} {w:World} (ho:okOp n o=true) (F:FrOk ρ n s.σ a) (R:Rel w0 ρ s.H w) (h:evOp tb ih all o k s=some out):
  (Region.wanted o (yielded all.toArray a.tmps)=true∧∃g H',k ⟨putD o.dst g s.σ,H'⟩=some out∧OpSem P w0 ρ s.σ a w o g s.H H')∨
  (Region.wanted o (yielded all.toArray a.tmps)=false∧k ⟨putD o.dst .un s.σ,s.H⟩=some out):=by
 obtain⟨h1,h2,h3⟩:=okOp_spec ho
 unfold evOp at h
 cases hg:o.guard with
 |none=>
  rw[hg]at h
  obtain⟨g,H',hk,hs⟩:=gop_ok hG hih F R h3 (show gop tb ih o.op s.σ s.H (opK o.dst s k)=some out from h)
  exact .inl ⟨by simp[Region.wanted,hg],g,H',hk,hs⟩
 | some gd =>
  rw[hg]at h
  obtain⟨oj,hoj,h⟩:=ob_some.1 (show ob (nth all gd.1) _=some out from h)
  obtain⟨dj,hdj,h⟩:=ob_some.1 h
  obtain⟨v,hv,h⟩:=ob_some.1 h
  obtain⟨g,H',hgv,hkk⟩:=kOR_some h
  have hslot:=F.slot dj v hv
  rw[nth_eq]at hoj
  have hy:yielded all.toArray a.tmps gd.1=(match a.tmps[dj]? with|some (.bool b)=>some b|_=>none):=by
   unfold yielded
   have:(all.toArray[gd.1]?).bind (·.dst)=some dj:=by simp[hoj,hdj]
   rw[this];rfl
  cases v with
  | bool q =>
   have he:=hslot.bool_inv
   have hq:a.tmps[dj]? = some (.bool q):=by
    simp only[Act.eval,Array.getD_eq_getD_getElem?]at he
    cases hx:a.tmps[dj]? with
    |none=>rw[hx]at he;cases he
    |some z=>rw[hx]at he;simp at he;rw[he]
   rw[hq]at hy
   have hgv':Bool.casesOn (motive:=fun _=>OR) (eqB q gd.2) (some (.un,s.H)) (gop tb ih o.op s.σ s.H orK)=some (g,H'):=hgv
   rw[eqB_eq]at hgv'
   have hw:Region.wanted o (yielded all.toArray a.tmps)=(q==gd.2):=by
    simp only[Region.wanted,hg]
    rw[hy]
    cases q<;>cases gd.2<;>rfl
   cases hqb:(q==gd.2)with
   |true=>
    rw[hqb]at hgv'
    obtain⟨g',H'',hk,hs⟩:=gop_ok hG hih F R h3 (show gop tb ih o.op s.σ s.H orK=some (g,H')from hgv')
    cases hk
    exact .inl ⟨by rw[hw,hqb],g,H',hkk,hs⟩
   |false=>
    rw[hqb]at hgv'
    cases hgv'
    exact .inr ⟨by rw[hw,hqb],hkk⟩
  | un =>
   have he:=hslot.un_inv
   cases hgv
   refine .inr ⟨?_,hkk⟩
   simp only[Region.wanted,hg]
   rw[hy]
   have:(match a.tmps[dj]? with|some (.bool b)=>some b|_=>none)=(none:Option Bool):=by
    simp only[Act.eval,Array.getD_eq_getD_getElem?]at he
    cases hx:a.tmps[dj]? with
    |none=>rfl
    |some z=>rw[hx]at he;simp at he;rw[he];rfl
   rw[this];rfl
  |_=>cases hgv
theorem evOps_ok {ih:CH} (hG:TabOk P tb) (hih:CallOk P w0 ih) {all:List Oper} {n:Nat} {k:GS->RS} {out:Out} {Q:Exit->Act->World->Prop}:∀(l:List Oper) (s:GS) (ρ:Rho) (a:Act) (w:World),l.all (okOp n)=true->FrOk ρ n s.σ a->Rel w0 ρ s.H w->evOps tb ih all k l s=some out->
  (∀s' ρ' a' w',k s'=some out->ρ.le ρ'->FrOk ρ' n s'.σ a'->Rel w0 ρ' s'.H w'->Q .normal a' w')->Sx.wpList P all.toArray Q l a w
 | [],s,ρ,a,w,_,F,R,h,hk=>hk s ρ a w h (Rho.le_refl _) F R
 | o :: l, s, ρ, a, w, hl, F, R, h, hk => by
  simp only[List.all_cons,Bool.and_eq_true]at hl
  obtain⟨_,hdst,_⟩:=okOp_spec hl.1
  rcases evOp_ok hG hih hl.1 F R (show evOp tb ih all o (evOps tb ih all k l) s=some out from h)with⟨hw,g,H',hk',hs⟩|⟨hw,hk'⟩
  ·refine wpList_take hw ?_
   have fin:∀ρ' w' v,ρ.le ρ'->Rel w0 ρ' H' w'->Rl ρ' g v->Sx.wpList P all.toArray Q l (a.put o.dst v) w':=fun ρ' w' v hle R' hv=>
    evOps_ok hG hih l ⟨putD o.dst g s.σ,H'⟩ ρ' _ w' hl.2 ((F.le hle).putD hdst hv) R' hk' (fun s' ρ'' a' w'' h1 h2 h3 h4=>hk s' ρ'' a' w'' h1 (Rho.le_trans hle h2) h3 h4)
   rcases hs with⟨_,_,_,rfl,v,hv,hr⟩|⟨_,_,rfl,v,_,_,_,_,_,hv,hr⟩|⟨_,_,rfl,v,hv,hr⟩|⟨_,hr⟩
   ·simp only[Oper.wp,hr w,Oper.upon];exact fin ρ w v (Rho.le_refl _) R hv
   ·simp only[Oper.wp,hr w rfl,Oper.upon];exact fin ρ w v (Rho.le_refl _) R hv
   ·simp only[Oper.wp,hr,Oper.upon];exact fin ρ w v (Rho.le_refl _) R hv
   ·exact nwp_Q (hr _ fin)
  ·unfold Sx.wpList
   rw[if_neg (by rw[hw];simp)]
   exact evOps_ok hG hih l ⟨putD o.dst .un s.σ,s.H⟩ ρ _ w hl.2 (F.putD hdst .un) R hk' hk
theorem ordered_spec {l:List Oper} {p:Op->Bool} (h:ordered l p=true) {i j:Nat} {oi oj:Oper} (hi:l[i]? = some oi) (hj:l[j]? = some oj) (hr:p oi.op=true) (hl:loudOp oj.op=true):before (masks l) i j=true∨before (masks l) j i=true:=by
 unfold ordered at h
 have h1:=List.all_eq_true.1 h i (List.mem_range.2 (getElem?_lt hi))
 simp only[hi,hr,Bool.not_true,Bool.false_or]at h1
 have h2:=List.all_eq_true.1 h1 j (List.mem_range.2 (getElem?_lt hj))
 simp only[hj,hl,Bool.not_true,Bool.false_or,Bool.or_eq_true]at h2
 exact h2
theorem vck_some {α:Type} {H:GH} {h v:Nat} {k:Option α} {out:α} (x:vck H h v k=some out):H.ver h=some v∧k=some out:=by
 obtain⟨u,hu,x⟩:=ob_some.1 (show ob (H.ver h) _=some out from x)
 cases hb:Nat.beq u v with
 |false=>rw[hb]at x;cases x
 |true=>rw[hb]at x;rw[hu,Nat.eq_of_beq_eq_true hb];exact⟨rfl,x⟩
theorem ckLoud_some {m:List Nat} {i:Nat} {H:GH} {u:Unit}:∀{pr:List (Nat×Option (Nat×Nat))},ckLoud m i H pr=some u->∀p∈pr,before m i p.1=false->∀hv,p.2=some hv->H.ver hv.1=some hv.2
 | [],h=>fun p hp=>by simp at hp
 | p :: pr, h => by
  have h':Bool.casesOn (motive:=fun _=>Option Unit) (before m i p.1) (pck H p.2 (ckLoud m i H pr)) (ckLoud m i H pr)=some u:=h
  intro q hq hbq hv he
  cases hb:before m i p.1 with
  | false =>
   rw[hb]at h'
   have h2:(∀hv,p.2=some hv->H.ver hv.1=some hv.2)∧ckLoud m i H pr=some u:=by
    cases hp2:p.2 with
    |none=>rw[hp2]at h';exact⟨fun _ h=>(by cases h),h'⟩
    |some x=>rw[hp2]at h';obtain⟨h1,h3⟩:=vck_some (show vck H x.1 x.2 _=some u from h');exact⟨fun y hy=>by cases hy;exact h1,h3⟩
   rcases List.mem_cons.1 hq with rfl|hq
   ·exact h2.1 hv he
   ·exact ckLoud_some h2.2 q hq hbq hv he
  |true=>
   rw[hb]at h'
   rcases List.mem_cons.1 hq with rfl|hq
   ·rw[hb]at hbq;cases hbq
   ·exact ckLoud_some h' q hq hbq hv he
theorem ckRead_some {m:List Nat} {i h v:Nat} {e:Option (Nat×Nat)}:∀{hs:List (Nat×GH)},ckRead m i h v hs=some e->e=some (h,v)∧∀q∈hs,before m i q.1=false->q.2.ver h=some v
 | [],x=>by cases x;exact⟨rfl,fun p hp=>by simp at hp⟩
 | q :: hs, x => by
  have x':Bool.casesOn (motive:=fun _=>Option (Option (Nat×Nat))) (before m i q.1) (vck q.2 h v (ckRead m i h v hs)) (ckRead m i h v hs)=some e:=x
  cases hb:before m i q.1 with
  |false=>
   rw[hb]at x'
   obtain⟨h1,h2⟩:=vck_some x'
   obtain⟨h3,h4⟩:=ckRead_some h2
   refine⟨h3,fun p hp hbp=> ?_⟩
   rcases List.mem_cons.1 hp with rfl|hp
   ·exact h1
   ·exact h4 p hp hbp
  |true=>
   rw[hb]at x'
   obtain⟨h3,h4⟩:=ckRead_some x'
   refine⟨h3,fun p hp hbp=> ?_⟩
   rcases List.mem_cons.1 hp with rfl|hp
   ·rw[hb]at hbp;cases hbp
   ·exact h4 p hp hbp
end
end Go.Gx
end
section
namespace Go.Gx
open Go Go.Sx Go.RowKit

section
variable {R α:Type}
theorem kOR_orK (r:OR) (k:GV->GH->Option R):kOR r k=kOR (kOR r orK) k:=by
 cases r with
 |none=>rfl
 |some p=>rfl
theorem ob_kOR (x:Option α) {f:α->Option R} {g:α->OR} {k:GV->GH->Option R} (h:∀a,f a=kOR (g a) k):ob x f=kOR (ob x g) k:=by
 cases x with
 |none=>rfl
 |some a=>exact h a
theorem gop_nat {tb:TB} {ih:CH} {σ:GF} {H:GH} (o:Op) (k:GV->GH->Option R):gop tb ih o σ H k=kOR (gop tb ih o σ H orK) k:=by
 have e1:∀x (f:GV->Option GV),k1 x f σ H k=kOR (k1 x f σ H orK) k:=fun x f=>ob_kOR _ fun x=>ob_kOR _ fun v=>ob_kOR _ fun g=>rfl
 have e2:∀x y (f:GV->GV->Option GV),k2 x y f σ H k=kOR (k2 x y f σ H orK) k:=fun x y f=>ob_kOR _ fun x=>ob_kOR _ fun v=>ob_kOR _ fun u=>ob_kOR _ fun g=>rfl
 have e3:∀x y z (f:GV->GV->GV->Option GV),k3 x y z f σ H k=kOR (k3 x y z f σ H orK) k:=fun x y z f=>ob_kOR _ fun x=>ob_kOR _ fun v=>ob_kOR _ fun u=>ob_kOR _ fun t=>ob_kOR _ fun g=>rfl
 cases o with
 |move x=>exact ob_kOR _ fun v=>rfl
 |assign x=>exact ob_kOR _ fun v=>rfl
 |pick c x y=>exact e3 _ _ _ _
 |alloc T=>exact kOR_orK _ _
 |box T x=>exact ob_kOR _ fun v=>kOR_orK _ _
 |build T ps=>exact ob_kOR _ fun vs=>ob_kOR _ fun g=>rfl
 |buildSlice T m ps=>exact ob_kOR _ fun x=>kOR_orK _ _
 |load T x=>exact ob_kOR _ fun v=>ob_kOR _ fun g=>rfl
 |store T x y=>exact ob_kOR _ fun v=>ob_kOR _ fun u=>kOR_orK _ _
 |nilCheck x=>exact e1 _ _
 |binOp op T x y T'=>exact e2 _ _ _
 |unOp op T x=>exact e1 _ _
 |convert S D x=>exact e1 _ _
 |makeFunc fn first caps=>
  cases fn with
  |func f=>exact ob_kOR _ fun us=>ob_kOR _ fun vs=>rfl
  |_=>rfl
 |makeMap T q=>
  cases q with
  |none=>exact kOR_orK _ _
  |some x=>rfl
 |makeSlice T x y=>exact ob_kOR _ fun v=>ob_kOR _ fun u=>kOR_orK _ _
 |slice T x lo hi mx=>
  cases mx with
  |none=>exact ob_kOR _ fun v=>ob_kOR _ fun l=>ob_kOR _ fun h=>ob_kOR _ fun g=>rfl
  |some y=>rfl
 |fieldAddr T x f=>exact e1 _ _
 |field T x f=>exact e1 _ _
 |indexAddr T x y=>exact e2 _ _ _
 |index T x y=>exact e2 _ _ _
 |lookup T x y ok=>exact ob_kOR _ fun v=>ob_kOR _ fun u=>ob_kOR _ fun g=>rfl
 |mapUpdate T x y z=>exact ob_kOR _ fun v=>ob_kOR _ fun u=>ob_kOR _ fun t=>kOR_orK _ _
 |extract x i=>exact e1 _ _
 | call c =>
  obtain⟨cal,xs,ts⟩:=c
  cases cal with
  |value f=>exact ob_kOR _ fun v=>ob_kOR _ fun g=>ob_kOR _ fun us=>kOR_orK _ _
  |invoke x m=>rfl
  | builtin b =>
   show kBuB tb xs ts b σ H k=kOR (kBuB tb xs ts b σ H orK) k
   obtain⟨xs⟩:=xs
   cases b with
   |len=>
    match xs with
    | []=>rfl
    | [x]=>exact ob_kOR _ fun T=>ob_kOR _ fun v=>ob_kOR _ fun g=>rfl
    |_::_::_=>rfl
   |max=>
    match xs with
    | []=>rfl
    | [x]=>rfl
    | [x,y]=>exact e2 _ _ _
    |_::_::_::_=>rfl
   |min=>
    match xs with
    | []=>rfl
    | [x]=>rfl
    | [x,y]=>exact e2 _ _ _
    |_::_::_::_=>rfl
   |append=>
    match xs with
    | []=>rfl
    | [x]=>rfl
    | [x,y]=>exact ob_kOR _ fun T=>ob_kOR _ fun T'=>ob_kOR _ fun v=>ob_kOR _ fun u=>kOR_orK _ _
    |_::_::_::_=>rfl
   |_=>rfl
 |_=>rfl

theorem gevs_congr {σ σ':GF}:∀{xs:List Operand},(∀x∈xs,gev σ x=gev σ' x)->gevs σ xs=gevs σ' xs
 | [],_=>rfl
 |x::xs,h=>by
  show ob (gev σ x) (fun v=>ob (gevs σ xs) fun vs=>some (v::vs))=ob (gev σ' x) (fun v=>ob (gevs σ' xs) fun vs=>some (v::vs))
  rw[h x List.mem_cons_self,gevs_congr fun y hy=>h y (List.mem_cons_of_mem _ hy)]
theorem gparts_congr {σ σ':GF}:∀{xs:List (Nat×Operand)},(∀x∈xs,gev σ x.2=gev σ' x.2)->gparts σ xs=gparts σ' xs
 | [],_=>rfl
 |x::xs,h=>by
  show ob (gev σ x.2) (fun v=>ob (gparts σ xs) fun vs=>some ((x.1,v)::vs))=ob (gev σ' x.2) (fun v=>ob (gparts σ' xs) fun vs=>some ((x.1,v)::vs))
  rw[h x List.mem_cons_self,gparts_congr fun y hy=>h y (List.mem_cons_of_mem _ hy)]
theorem gevo_congr {σ σ':GF} {o:Option Operand} (h:∀x∈o.toArray,gev σ x=gev σ' x):gevo σ o=gevo σ' o:=by
 cases o with
 |none=>rfl
 |some x=>
  show ob (gev σ x) (fun v=>some (some v))=ob (gev σ' x) (fun v=>some (some v))
  rw[h x (by simp)]
theorem gop_congr {tb:TB} {ih:CH} {σ σ':GF} {H:GH} {o:Op} {k:GV->GH->Option R} (h:∀x∈o.operands,gev σ x=gev σ' x):gop tb ih o σ H k=gop tb ih o σ' H k:=by
 have e1:∀x (f:GV->Option GV),gev σ x=gev σ' x->k1 x f σ H k=k1 x f σ' H k:=fun x f e=>by simp only[k1,ob,e]
 have e2:∀x y (f:GV->GV->Option GV),gev σ x=gev σ' x->gev σ y=gev σ' y->k2 x y f σ H k=k2 x y f σ' H k:=fun x y f e e'=>by simp only[k2,ob,e,e']
 have e3:∀x y z (f:GV->GV->GV->Option GV),gev σ x=gev σ' x->gev σ y=gev σ' y->gev σ z=gev σ' z->k3 x y z f σ H k=k3 x y z f σ' H k:=fun x y z f e e' e''=>by simp only[k3,ob,e,e',e'']
 cases o with
 |move x=>show kMove x σ H k=kMove x σ' H k;simp only[kMove,ob,h x (by simp[Op.operands])]
 |assign x=>show kMove x σ H k=kMove x σ' H k;simp only[kMove,ob,h x (by simp[Op.operands])]
 |pick c x y=>exact e3 _ _ _ _ (h _ (by simp[Op.operands])) (h _ (by simp[Op.operands])) (h _ (by simp[Op.operands]))
 |alloc T=>rfl
 |box T x=>show kBox x σ H k=kBox x σ' H k;simp only[kBox,ob,h x (by simp[Op.operands])]
 | build T ps =>
  show ob (gparts σ ps.toList) _=ob (gparts σ' ps.toList) _
  rw[gparts_congr fun x hx=>h x.2 (by
   have:x∈ps:=by simpa using hx
   simp only[Op.operands,List.mem_toArray,List.mem_map];exact⟨x,hx,rfl⟩)]
 | buildSlice T m ps =>
  show ob (gparts σ ps.toList) _=ob (gparts σ' ps.toList) _
  rw[gparts_congr fun x hx=>h x.2 (by
   simp only[Op.operands,List.mem_toArray,List.mem_map];exact⟨x,hx,rfl⟩)]
 |load T x=>show kLoad tb T x σ H k=kLoad tb T x σ' H k;simp only[kLoad,ob,h x (by simp[Op.operands])]
 |store T x y=>show kStore tb T x y σ H k=kStore tb T x y σ' H k;simp only[kStore,ob,h x (by simp[Op.operands]),h y (by simp[Op.operands])]
 |nilCheck x=>exact e1 _ _ (h _ (by simp[Op.operands]))
 |binOp op T x y T'=>exact e2 _ _ _ (h _ (by simp[Op.operands])) (h _ (by simp[Op.operands]))
 |unOp op T x=>exact e1 _ _ (h _ (by simp[Op.operands]))
 |convert S D x=>exact e1 _ _ (h _ (by simp[Op.operands]))
 | makeFunc fn first caps =>
  cases fn with
  | func f =>
   show ob (gevs σ first.toList) _=ob (gevs σ' first.toList) _
   rw[gevs_congr fun x hx=>h x (by simp only[Op.operands,Array.mem_append];exact .inl (by simpa using hx)),
    gevs_congr (xs:=caps.toList) fun x hx=>h x (by simp only[Op.operands,Array.mem_append];exact .inr (by simpa using hx))]
  |_=>rfl
 |makeMap T q=>
  cases q with
  |none=>rfl
  |some x=>rfl
 |makeSlice T x y=>show kMake tb T x y σ H k=kMake tb T x y σ' H k;simp only[kMake,ob,h x (by simp[Op.operands]),h y (by simp[Op.operands])]
 | slice T x lo hi mx =>
  cases mx with
  |none=>
   show ob (some x) (fun x=>ob (gev σ x) fun v=>ob (gevo σ lo) fun l=>ob (gevo σ hi) fun h=>ob (vSlice tb T v l h H) fun g=>k g H)=ob (some x) (fun x=>ob (gev σ' x) fun v=>ob (gevo σ' lo) fun l=>ob (gevo σ' hi) fun h=>ob (vSlice tb T v l h H) fun g=>k g H)
   have hlo:gevo σ lo=gevo σ' lo:=gevo_congr fun y hy=>h y (by simp only[Op.operands,Array.mem_append];exact .inl (.inl (.inr hy)))
   have hhi:gevo σ hi=gevo σ' hi:=gevo_congr fun y hy=>h y (by simp only[Op.operands,Array.mem_append];exact .inl (.inr hy))
   have hx:gev σ x=gev σ' x:=h x (by simp only[Op.operands,Array.mem_append];exact .inl (.inl (.inl (by simp))))
   simp only[ob,hlo,hhi,hx]
  |some y=>rfl
 |fieldAddr T x f=>exact e1 _ _ (h _ (by simp[Op.operands]))
 |field T x f=>exact e1 _ _ (h _ (by simp[Op.operands]))
 |indexAddr T x y=>exact e2 _ _ _ (h _ (by simp[Op.operands])) (h _ (by simp[Op.operands]))
 |index T x y=>exact e2 _ _ _ (h _ (by simp[Op.operands])) (h _ (by simp[Op.operands]))
 |lookup T x y ok=>show kLook tb T x y ok σ H k=kLook tb T x y ok σ' H k;simp only[kLook,ob,h x (by simp[Op.operands]),h y (by simp[Op.operands])]
 |mapUpdate T x y z=>show kMapUp tb T x y z σ H k=kMapUp tb T x y z σ' H k;simp only[kMapUp,ob,h x (by simp[Op.operands]),h y (by simp[Op.operands]),h z (by simp[Op.operands])]
 |extract x i=>exact e1 _ _ (h _ (by simp[Op.operands]))
 | call c =>
  obtain⟨cal,xs,ts⟩:=c
  cases cal with
  |value f=>
   have hf:gev σ f=gev σ' f:=h f (by simp[Op.operands,Call.operands])
   have hxs:gevs σ xs.toList=gevs σ' xs.toList:=gevs_congr fun x hx=>h x (by simp[Op.operands,Call.operands];exact .inr (by simpa using hx))
   show ob (gev σ f) _=ob (gev σ' f) _
   simp only[ob,hf,hxs]
  |invoke x m=>rfl
  | builtin b =>
   show kBuB tb xs ts b σ H k=kBuB tb xs ts b σ' H k
   have hx:∀x∈xs,gev σ x=gev σ' x:=fun x hx=>h x (by simp[Op.operands,Call.operands];exact hx)
   obtain⟨xs⟩:=xs
   cases b with
   |len=>
    match xs,hx with
    | [],_=>rfl
    | [x],hx=>show kLen tb ts.toList x σ H k=kLen tb ts.toList x σ' H k;simp only[kLen,ob,hx x (by simp)]
    |_::_::_,_=>rfl
   |max=>
    match xs,hx with
    | [],_=>rfl
    | [x],_=>rfl
    | [x,y],hx=>exact e2 _ _ _ (hx _ (by simp)) (hx _ (by simp))
    |_::_::_::_,_=>rfl
   |min=>
    match xs,hx with
    | [],_=>rfl
    | [x],_=>rfl
    | [x,y],hx=>exact e2 _ _ _ (hx _ (by simp)) (hx _ (by simp))
    |_::_::_::_,_=>rfl
   |append=>
    match xs,hx with
    | [],_=>rfl
    | [x],_=>rfl
    | [x,y],hx=>show kApp tb ts.toList x y σ H k=kApp tb ts.toList x y σ' H k;simp only[kApp,ob,hx x (by simp),hx y (by simp)]
    |_::_::_::_,_=>rfl
   |_=>rfl
 |_=>rfl
end
noncomputable def evO1 (tb:TB) (ih:CH) (all:List Oper) (o:Oper) (σ:GF) (H:GH):OR:=Option.casesOn (motive:=fun _=>OR) o.guard (gop tb ih o.op σ H orK) fun g=>ob (nth all g.1) fun oj=>ob oj.dst fun dj=>ob (glk σ dj) fun v=>evG tb ih o ⟨σ,H⟩ g.2 v
theorem evOp_eq {tb:TB} {ih:CH} {all:List Oper} {o:Oper} {k:GS->RS} {s:GS}:evOp tb ih all o k s=kOR (evO1 tb ih all o s.σ s.H) (opK o.dst s k):=by
 unfold evOp evO1
 cases o.guard with
 |none=>exact gop_nat _ _
 |some g=>exact ob_kOR _ fun oj=>ob_kOR _ fun dj=>ob_kOR _ fun v=>rfl
theorem evOp_some {tb:TB} {ih:CH} {all:List Oper} {o:Oper} {k:GS->RS} {s:GS} {out:Out} (h:evOp tb ih all o k s=some out):∃g H',evO1 tb ih all o s.σ s.H=some (g,H')∧k ⟨putD o.dst g s.σ,H'⟩=some out:=by
 rw[evOp_eq]at h
 obtain⟨g,H',h1,h2⟩:=kOR_some h
 exact⟨g,H',h1,h2⟩
theorem evO1_congr {tb:TB} {ih:CH} {all:List Oper} {o:Oper} {σ σ':GF} {H:GH} (h:∀t∈o.looksAt all.toArray,glk σ t=glk σ' t):evO1 tb ih all o σ H=evO1 tb ih all o σ' H:=by
 have hop:gop tb ih o.op σ H orK=gop tb ih o.op σ' H orK:=gop_congr fun x hx=>by
  cases x with
  |tmp t=>exact h t (List.mem_append_left _ (List.mem_filterMap.2 ⟨.tmp t,by simpa using hx,rfl⟩))
  |_=>rfl
 unfold evO1
 cases hg:o.guard with
 |none=>exact hop
 | some g =>
  show ob (nth all g.1) _=ob (nth all g.1) _
  cases hn:nth all g.1 with
  |none=>rfl
  | some oj =>
   show ob oj.dst _=ob oj.dst _
   cases hd:oj.dst with
   |none=>rfl
   | some dj =>
    have ht:dj∈o.looksAt all.toArray:=by
     rw[nth_eq]at hn
     simp[Oper.looksAt,hg,hn,hd]
    show ob (glk σ dj) (fun v=>evG tb ih o ⟨σ,H⟩ g.2 v)=ob (glk σ' dj) (fun v=>evG tb ih o ⟨σ',H⟩ g.2 v)
    rw[h dj ht]
    cases glk σ' dj with
    |none=>rfl
    | some v =>
     show evG tb ih o ⟨σ,H⟩ g.2 v=evG tb ih o ⟨σ',H⟩ g.2 v
     cases v with
     |bool q=>
      show Bool.casesOn (motive:=fun _=>OR) (eqB q g.2) (some (.un,H)) (gop tb ih o.op σ H orK)=Bool.casesOn (motive:=fun _=>OR) (eqB q g.2) (some (.un,H)) (gop tb ih o.op σ' H orK)
      rw[hop]
     |_=>rfl
section
variable {P:Program} {tb:TB} {w0:Base}
theorem evO1_want {ih:CH} {all:List Oper} {n:Nat} {o:Oper} {σ:GF} {H H':GH} {g:GV} {ρ:Rho} {a:Act} (F:FrOk ρ n σ a) (h:evO1 tb ih all o σ H=some (g,H')):
  (Region.wanted o (yielded all.toArray a.tmps)=true∧gop tb ih o.op σ H orK=some (g,H'))∨(Region.wanted o (yielded all.toArray a.tmps)=false∧g = .un∧H'=H):=by
 unfold evO1 at h
 cases hg:o.guard with
 |none=>
  rw[hg]at h
  exact .inl ⟨by simp[Region.wanted,hg],h⟩
 | some gd =>
  rw[hg]at h
  obtain⟨oj,hoj,h⟩:=ob_some.1 (show ob (nth all gd.1) _=some (g,H')from h)
  obtain⟨dj,hdj,h⟩:=ob_some.1 h
  obtain⟨v,hv,hgv⟩:=ob_some.1 h
  have hslot:=F.slot dj v hv
  rw[nth_eq]at hoj
  have hy:yielded all.toArray a.tmps gd.1=(match a.tmps[dj]? with|some (.bool b)=>some b|_=>none):=by
   unfold yielded
   have:(all.toArray[gd.1]?).bind (·.dst)=some dj:=by simp[hoj,hdj]
   rw[this];rfl
  cases v with
  | bool q =>
   have he:=hslot.bool_inv
   have hq:a.tmps[dj]? = some (.bool q):=by
    simp only[Act.eval,Array.getD_eq_getD_getElem?]at he
    cases hx:a.tmps[dj]? with
    |none=>rw[hx]at he;cases he
    |some z=>rw[hx]at he;simp at he;rw[he]
   rw[hq]at hy
   have hgv':Bool.casesOn (motive:=fun _=>OR) (eqB q gd.2) (some (.un,H)) (gop tb ih o.op σ H orK)=some (g,H'):=hgv
   rw[eqB_eq]at hgv'
   have hw:Region.wanted o (yielded all.toArray a.tmps)=(q==gd.2):=by
    simp only[Region.wanted,hg]
    rw[hy]
    cases q<;>cases gd.2<;>rfl
   cases hqb:(q==gd.2)with
   |true=>rw[hqb]at hgv';exact .inl ⟨by rw[hw,hqb],hgv'⟩
   |false=>rw[hqb]at hgv';cases hgv';exact .inr ⟨by rw[hw,hqb],rfl,rfl⟩
  | un =>
   have he:=hslot.un_inv
   cases hgv
   refine .inr ⟨?_,rfl,rfl⟩
   simp only[Region.wanted,hg]
   rw[hy]
   have:(match a.tmps[dj]? with|some (.bool b)=>some b|_=>none)=(none:Option Bool):=by
    simp only[Act.eval,Array.getD_eq_getD_getElem?]at he
    cases hx:a.tmps[dj]? with
    |none=>rfl
    |some z=>rw[hx]at he;simp at he;rw[he];rfl
   rw[this];rfl
  |_=>cases hgv
theorem evO1_ok {ih:CH} (hG:TabOk P tb) (hih:CallOk P w0 ih) {all:List Oper} {n:Nat} {o:Oper} {σ:GF} {H H':GH} {g:GV} {ρ:Rho} {a:Act} {w:World} (ho:okOp n o=true) (F:FrOk ρ n σ a) (R:Rel w0 ρ H w) (h:evO1 tb ih all o σ H=some (g,H')):
  (Region.wanted o (yielded all.toArray a.tmps)=true∧OpSem P w0 ρ σ a w o g H H')∨(Region.wanted o (yielded all.toArray a.tmps)=false∧g = .un∧H'=H):=by
 obtain⟨_,_,h3⟩:=okOp_spec ho
 rcases evO1_want F h with⟨hw,hg⟩|h
 ·obtain⟨g',H'',hk,hs⟩:=gop_ok hG hih F R h3 hg
  cases hk
  exact .inl ⟨hw,hs⟩
 ·exact .inr h

def softT (tb:TB) (T:TypeId):Bool:=match tb T with
 |some t=>(match t.desc with|.array .. => false|_=>true)
 |none=>false
def pureOp (tb:TB):Op->Bool
 | .move _ | .assign _ | .pick .. | .build .. | .nilCheck _ | .binOp .. | .unOp .. | .convert .. | .makeFunc .. | .fieldAddr .. | .field .. | .indexAddr .. | .index .. | .extract .. => true
 | .slice T _ _ _ _=>softT tb T
 | .call ⟨.builtin .len,_,_⟩ | .call ⟨.builtin .max,_,_⟩ | .call ⟨.builtin .min,_,_⟩=>true
 |_=>false
def isFloat:Op->Bool
 | .buildSlice .. => true
 |_=>false
theorem pure_of_comp {ρ:Rho} {g:GV} {s:Sem Value} {a:Act} {o:Oper} (h:Comp P ρ s g) (he:∀w v,s.run P w = .ok v w->(execOp a.eval o).run P w = .ok (.value v) w):∃v,Rl ρ g v∧∀w,(execOp a.eval o).run P w = .ok (.value v) w:=
 let ⟨v,hv,hr⟩:=h;⟨v,hv,fun w=>he w v (hr w)⟩
theorem gop_pure {ih:CH} (hG:TabOk P tb) {ρ:Rho} {n:Nat} {σ:GF} {a:Act} (F:FrOk ρ n σ a) {o:Oper} {H H':GH} {g:GV} (hp:pureOp tb o.op=true) (hoa:okArgs o.op=true) (h:gop tb ih o.op σ H orK=some (g,H')):
  H'=H∧∃v,Rl ρ g v∧∀w,(execOp a.eval o).run P w = .ok (.value v) w:=by
 obtain⟨d,op,ty,pos,aft,gd⟩:=o
 cases op with
 |move x=>
  obtain⟨v,hv,h⟩:=ob_some.1 (show ob (gev σ x) _=some (g,H')from h)
  cases h
  exact⟨rfl,_,gev_ok F hv,fun w=>by simp[execOp]⟩
 |assign x=>
  obtain⟨v,hv,h⟩:=ob_some.1 (show ob (gev σ x) _=some (g,H')from h)
  cases h
  exact⟨rfl,_,gev_ok F hv,fun w=>by simp[execOp]⟩
 |pick c x y=>
  obtain⟨v,hv,h⟩:=ob_some.1 (show ob (gev σ c) _=some (g,H')from h)
  obtain⟨u,hu,h⟩:=ob_some.1 h
  obtain⟨t,ht,h⟩:=ob_some.1 h
  obtain⟨g',hg,h⟩:=ob_some.1 h
  cases h
  obtain⟨b,hb,hg⟩:=ob_some.1 (show ob v.asB _=some g from hg)
  have hc:=gev_ok F hv
  rw[asB_eq hb]at hc
  cases b with
  |true=>cases hg;exact⟨rfl,_,gev_ok F hu,fun w=>by simp[execOp,hc.bool_inv,asBool]⟩
  |false=>cases hg;exact⟨rfl,_,gev_ok F ht,fun w=>by simp[execOp,hc.bool_inv,asBool]⟩
 | build T ps =>
  obtain⟨vs,hvs,h⟩:=ob_some.1 (show ob (gparts σ ps.toList) _=some (g,H')from h)
  obtain⟨g',hg,h⟩:=ob_some.1 h
  cases h
  exact⟨rfl,pure_of_comp (vBuild_ok hG (gparts_ok F hvs) hg) (fun w v hr=>by
   have e:(ps.toList.map fun p=>(p.1,a.eval p.2)).toArray=ps.map fun p=>(p.1,a.eval p.2):=by apply Array.toList_inj.1;simp
   rw[e]at hr
   simp[execOp,hr])⟩
 |nilCheck x=>
  obtain⟨v,hv,h⟩:=ob_some.1 (show ob (gev σ x) _=some (g,H')from h)
  obtain⟨g',hg,h⟩:=ob_some.1 h
  cases h
  obtain⟨rfl,hr⟩:=nilck_ok (P:=P) (gev_ok F hv) hg
  exact⟨rfl,_,gev_ok F hv,fun w=>hr _ x a.eval rfl rfl w⟩
 | binOp op T x y T' =>
  obtain⟨v,hv,h⟩:=ob_some.1 (show ob (gev σ x) _=some (g,H')from h)
  obtain⟨u,hu,h⟩:=ob_some.1 h
  obtain⟨g',hg,h⟩:=ob_some.1 h
  cases h
  exact⟨rfl,pure_of_comp (vBin_ok hG x y (gev_ok F hv) (gev_ok F hu) hg) (fun w v hr=>by
   simp only[execOp]
   simp at hr ⊢
   cases hq:Sem.run P (eqGuard op T x y (a.eval x) (a.eval y)) w with
   |ok u w1=>rw[hq]at hr;simp at hr;simp[hr]
   |halt h1 w1=>rw[hq]at hr;cases hr)⟩
 |unOp op T x=>
  obtain⟨v,hv,h⟩:=ob_some.1 (show ob (gev σ x) _=some (g,H')from h)
  obtain⟨g',hg,h⟩:=ob_some.1 h
  cases h
  exact⟨rfl,pure_of_comp (vUn_ok (gev_ok F hv) hg) (fun w v hr=>by simp[execOp,hr])⟩
 |convert S D x=>
  obtain⟨v,hv,h⟩:=ob_some.1 (show ob (gev σ x) _=some (g,H')from h)
  obtain⟨g',hg,h⟩:=ob_some.1 h
  cases h
  exact⟨rfl,pure_of_comp (vConv_ok hG (gev_ok F hv) hg) (fun w v hr=>by simp[execOp,hr])⟩
 | makeFunc fn first caps =>
  cases fn with
  |func f=>
   obtain⟨us,hus,h⟩:=ob_some.1 (show ob (gevs σ first.toList) _=some (g,H')from h)
   obtain⟨vs,hvs,h⟩:=ob_some.1 h
   cases h
   refine⟨rfl,_,Rl.fn' (gevs_ok F hus) (gevs_ok F hvs),fun w=> ?_⟩
   have e1:(first.toList.map a.eval).toArray=first.map a.eval:=by apply Array.toList_inj.1;simp
   have e2:(caps.toList.map a.eval).toArray=caps.map a.eval:=by apply Array.toList_inj.1;simp
   rw[e1,e2]
   simp[execOp,Instr.makeFunc]
  |_=>cases h
 |fieldAddr T x f=>
  obtain⟨v,hv,h⟩:=ob_some.1 (show ob (gev σ x) _=some (g,H')from h)
  obtain⟨g',hg,h⟩:=ob_some.1 h
  cases h
  exact⟨rfl,pure_of_comp (vField_ok hG (gev_ok F hv) hg) (fun w v hr=>by simp[execOp,hr])⟩
 |field T x f=>
  obtain⟨v,hv,h⟩:=ob_some.1 (show ob (gev σ x) _=some (g,H')from h)
  obtain⟨g',hg,h⟩:=ob_some.1 h
  cases h
  exact⟨rfl,pure_of_comp (vPart_ok hG (gev_ok F hv) hg) (fun w v hr=>by simp[execOp,hr])⟩
 |indexAddr T x y=>
  obtain⟨v,hv,h⟩:=ob_some.1 (show ob (gev σ x) _=some (g,H')from h)
  obtain⟨u,hu,h⟩:=ob_some.1 h
  obtain⟨g',hg,h⟩:=ob_some.1 h
  cases h
  exact⟨rfl,pure_of_comp (vIndex_ok hG (gev_ok F hv) (gev_ok F hu) hg) (fun w v hr=>by simp[execOp,hr])⟩
 |index T x y=>
  obtain⟨v,hv,h⟩:=ob_some.1 (show ob (gev σ x) _=some (g,H')from h)
  obtain⟨u,hu,h⟩:=ob_some.1 h
  obtain⟨g',hg,h⟩:=ob_some.1 h
  cases h
  exact⟨rfl,pure_of_comp (vAt_ok hG (gev_ok F hv) (gev_ok F hu) hg) (fun w v hr=>by simp[execOp,hr])⟩
 | slice T x lo hi mx =>
  cases mx with
  | none =>
   obtain⟨v,hv,h⟩:=ob_some.1 (show ob (gev σ x) _=some (g,H')from h)
   obtain⟨l,hl,h⟩:=ob_some.1 h
   obtain⟨e,he,h⟩:=ob_some.1 h
   obtain⟨g',hg,h⟩:=ob_some.1 h
   cases h
   have hA:∀t,tb T=some t->tdA t.desc=none:=fun t ht=>by
    have hs:softT tb T=true:=hp
    unfold softT at hs
    rw[ht]at hs
    simp only at hs
    cases hq:t.desc<;>rw[hq]at hs<;>first|rfl|cases hs
   exact⟨rfl,pure_of_comp (vSlice_ok hG (.inr hA) (gev_ok F hv) (gevo_ok F hl) (gevo_ok F he) hg) (fun w v hr=>by simp[execOp,hr])⟩
  |some y=>cases h
 |extract x i=>
  obtain⟨v,hv,h⟩:=ob_some.1 (show ob (gev σ x) _=some (g,H')from h)
  obtain⟨g',hg,h⟩:=ob_some.1 h
  cases h
  exact⟨rfl,pure_of_comp (vExt_ok (gev_ok F hv) hg) (fun w v hr=>by simp[execOp,hr])⟩
 | call c =>
  obtain⟨cal,xs,ts⟩:=c
  cases cal with
  |value f=>cases hp
  |invoke x m=>cases hp
  | builtin b =>
   have hlen:ts.size=xs.size:=Nat.eq_of_beq_eq_true hoa
   have h:kBuB tb xs ts b σ H orK=some (g,H'):=h
   cases b with
   | len =>
    obtain⟨x,hx,h⟩:=kArg1_some (show kArg1 xs.toList (kLen tb ts.toList) σ H orK=some (g,H')from h)
    obtain⟨T,hT,h⟩:=ob_some.1 (show ob (nth ts.toList 0) _=some (g,H')from h)
    obtain⟨v,hv,h⟩:=ob_some.1 h
    obtain⟨g',hg,h⟩:=ob_some.1 h
    cases h
    have ex:=toList1 hx
    subst ex
    have et:ts = #[T]:=by
     rw[nth_eq]at hT
     obtain⟨l⟩:=ts
     match l,hlen with
     | [t],_=>simp at hT;subst hT;rfl
    subst et
    exact⟨rfl,pure_of_comp (vLen_ok hG (ty:=ty) (gev_ok F hv) hg) (fun w v hr=>by simp[execOp,resolve,invoke,builtin,hr])⟩
   | max =>
    obtain⟨x,y,hx,h⟩:=kArg2_some (show kArg2 xs.toList (fun x y=>k2 x y vMax) σ H orK=some (g,H')from h)
    obtain⟨v,hv,h⟩:=ob_some.1 (show ob (gev σ x) _=some (g,H')from h)
    obtain⟨u,hu,h⟩:=ob_some.1 h
    obtain⟨g',hg,h⟩:=ob_some.1 h
    cases h
    have ex:=toList2 hx
    subst ex
    obtain⟨t1,t2,et⟩:∃t1 t2,ts = #[t1,t2]:=by
     obtain⟨l⟩:=ts
     match l,hlen with
     | [t,t'],_=>exact⟨t,t',rfl⟩
    subst et
    exact⟨rfl,pure_of_comp (vMax_ok (t1:=t1) (t2:=t2) (ty:=ty) (gev_ok F hv) (gev_ok F hu) hg) (fun w v hr=>by simp[execOp,resolve,invoke,builtin,hr])⟩
   | min =>
    obtain⟨x,y,hx,h⟩:=kArg2_some (show kArg2 xs.toList (fun x y=>k2 x y vMin) σ H orK=some (g,H')from h)
    obtain⟨v,hv,h⟩:=ob_some.1 (show ob (gev σ x) _=some (g,H')from h)
    obtain⟨u,hu,h⟩:=ob_some.1 h
    obtain⟨g',hg,h⟩:=ob_some.1 h
    cases h
    have ex:=toList2 hx
    subst ex
    obtain⟨t1,t2,et⟩:∃t1 t2,ts = #[t1,t2]:=by
     obtain⟨l⟩:=ts
     match l,hlen with
     | [t,t'],_=>exact⟨t,t',rfl⟩
    subst et
    exact⟨rfl,pure_of_comp (vMin_ok (t1:=t1) (t2:=t2) (ty:=ty) (gev_ok F hv) (gev_ok F hu) hg) (fun w v hr=>by simp[execOp,resolve,invoke,builtin,hr])⟩
   |_=>cases hp
 |_=>cases hp
theorem vBuildS_raw (hG:TabOk P tb) {T:TypeId} {n:Nat} {l:List (Nat×GV)} {parts:List (Nat×Value)} {ρ:Rho} {H H':GH} {g:GV} (hp:RlP ρ l parts) (h:vBuildS tb T n l H=some (g,H')):
  ∃cs a' T' len sz,H'=H.new (.cells cs)∧g = .sl H.n 0 len sz∧RlC ρ cs a'∧cs.length=a'.size∧∀w:World,∃V,(Instr.buildSlice T n parts.toArray).run P w = .ok V (w.alloc (.cells a' T'))∧∀ρ':Rho,ρ' H.n=some ⟨w.heap.size,0,a'.size,.cells a' T',.cells cs⟩->Rl ρ' g V:=by
 obtain⟨te,hte,h⟩:=ob_some.1 (show ob (elemOf tb T) _=some (g,H')from h)
 obtain⟨zc,hz,h⟩:=ob_some.1 h
 obtain⟨hlen,h⟩:=bif_some.1 h
 obtain⟨hbig,h⟩:=bif_some.1 h
 obtain⟨h0,h⟩:=bif_some'.1 h
 obtain⟨cs,hfill,h⟩:=ob_some.1 h
 rw[GH.newK_eq]at h;cases h
 obtain⟨⟨d,hd,hde⟩,hE,htab⟩:=elemOf_ok hG hte
 obtain⟨dz,hdz,_,hC⟩:=zeroOf_ok (ρ:=ρ) hG hz
 rw[htab]at hdz;cases hdz
 have hlen:zc.length=te.2.size:=Nat.eq_of_beq_eq_true hlen
 have h0:te.2.size≠0:=fun e=>by rw[e]at h0;cases h0
 have hbig:n*te.2.size<16777216:=by simpa [Nat.blt_eq]using hbig
 have hrep:=rep_rel hC (by omega) n
 rw[hlen]at hrep
 obtain⟨a',f1,f2⟩:=gfillA_ok hp hrep hfill
 have hsz0:cs.length=a'.size:=by have:=f2.r.len;simpa using this
 have hsz:a'.size=n*te.2.size:=by
  have e1:=f2.r.len
  have:cs.length=(rep zc n).length:=gfillA_len hfill
  rw[this,rep_len,hlen]at e1
  simp at e1;omega
 refine⟨cs,a',te.1,n,te.2.size,rfl,rfl,f2,hsz0,fun w=>⟨.slice (some ⟨w.heap.size,0,none⟩) n n,?_,fun ρ' hρ=> .sl (l:=⟨w.heap.size,0,a'.size,.cells a' te.1,.cells cs⟩) hρ (Nat.le_refl _) (.inr ⟨rfl,by simp[hsz]⟩)⟩⟩
 have hu:=hd.run_und w
 rw[hde]at hu
 by_cases hn:n*te.2.size=0
 ·have hz0:n=0:=by rcases Nat.mul_eq_zero.1 hn with h|h;exact h;exact absurd h h0
  subst hz0
  have e0:(Array.range (0*te.2.size)).map (te.2.zero.cells[· % te.2.zero.cells.size]!)=(#[]:Array Value):=by simp
  rw[e0]at f1
  have e1:(Array.range 0).map (fun _=>(default:Value)) = #[]:=by simp
  simp[Instr.buildSlice,hu,hE.run_size w,newRow]
  simp[e1,f1]
 ·simp[Instr.buildSlice,hu,hE.run_size w,hE.run_zero w,hn,f1,newRow,show¬(16777216<n*te.2.size) by omega]

theorem Rl.cut {ρ0 ρ1 ρ2:Rho} (hk:∀h l0 l,ρ0 h=some l0->ρ1 h=some l->ρ2 h=some l) {g:GV} {v:Value} (h1:Rl ρ1 g v):∀{v0:Value},Rl ρ0 g v0->Rl ρ2 g v:=by
 induction h1 with
 |int k n=>exact fun _=> .int k n
 |bool b=>exact fun _=> .bool b
 |str s=>exact fun _=> .str s
 |ptr off hl=>exact fun h0=>by cases h0 with|ptr _ hl0=>exact .ptr off (hk _ _ _ hl0 hl)
 |pnil=>exact fun _=> .pnil
 |sl hl hc ha=>exact fun h0=>by cases h0 with|sl hl0 _ _=>exact .sl (hk _ _ _ hl0 hl) hc ha
 |snil=>exact fun _=> .snil
 |map hl=>exact fun h0=>by cases h0 with|map hl0=>exact .map (hk _ _ _ hl0 hl)
 | fn f a b c d ihb ihd =>
   intro v0 h0
   cases h0 with
   | fn _ a0 b0 c0 d0 =>
    refine .fn f a (fun i g v hg hv=> ?_) c (fun i g v hg hv=> ?_)
    ·have:=getElem?_lt hg
     exact ihb i g v hg hv (b0 i g _ hg (List.getElem?_eq_getElem (by omega)))
    ·have:=getElem?_lt hg
     exact ihd i g v hg hv (d0 i g _ hg (List.getElem?_eq_getElem (by omega)))
 |fnil=>exact fun _=> .fnil
 |inil=>exact fun _=> .inil
 | agg a b c ihb =>
   intro v0 h0
   cases h0 with
   |agg a0 b0 c0=>
    refine .agg a (fun i g v hg hv=> ?_) c
    have:=getElem?_lt hg
    exact ihb i g v hg hv (b0 i g _ hg (List.getElem?_eq_getElem (by omega)))
 | tup a b ihb =>
   intro v0 h0
   cases h0 with
   |tup a0 b0=>
    refine .tup a (fun i g v hg hv=> ?_)
    have:=getElem?_lt hg
    exact ihb i g v hg hv (b0 i g _ hg (List.getElem?_eq_getElem (by omega)))
 |un=>exact fun _=> .un
 |bad v=>exact fun _=> .bad v

structure Trc (tb:TB) (ih:CH) (all l:List Oper) (S:Nat->GF) (HH:Nat->GH) (gg:Nat->GV):Prop where
 st:∀i o,l[i]? = some o->evO1 tb ih all o (S i) (HH i)=some (gg i,HH (i+1))
 up:∀i o,l[i]? = some o->S (i+1)=putD o.dst (gg i) (S i)
theorem evOps_trc {ih:CH} {all:List Oper} {k:GS->RS} {out:Out}:∀(l:List Oper) (s:GS),evOps tb ih all k l s=some out->∃S HH gg,S 0=s.σ∧HH 0=s.H∧Trc tb ih all l S HH gg∧k ⟨S l.length,HH l.length⟩=some out
 | [],s,h=>⟨fun _=>s.σ,fun _=>s.H,fun _=> .un,rfl,rfl,⟨fun i o ho=>by simp at ho,fun i o ho=>by simp at ho⟩,h⟩
 | o :: l, s, h => by
  obtain⟨g,H',h1,h2⟩:=evOp_some (show evOp tb ih all o (evOps tb ih all k l) s=some out from h)
  obtain⟨S,HH,gg,e1,e2,ht,hk⟩:=evOps_trc l _ h2
  refine⟨fun i=>Nat.casesOn i s.σ S,fun i=>Nat.casesOn i s.H HH,fun i=>Nat.casesOn i g gg,rfl,rfl,⟨fun i o' ho=> ?_,fun i o' ho=> ?_⟩,hk⟩
  ·cases i with
   |zero=>simp at ho;subst ho;show evO1 tb ih all o s.σ s.H=some (g,HH 0);rw[h1,e2]
   |succ i=>exact ht.st i o' (by simpa using ho)
  ·cases i with
   |zero=>simp at ho;subst ho;exact e1
   |succ i=>exact ht.up i o' (by simpa using ho)
theorem load_quiet {o:Op} (h:isLoad o=true):loudOp o=false:=by
 cases o<;>first|rfl|cases h
structure Vrs (all l:List Oper) (m:List Nat) (i:Nat) (S:Nat->GF) (HH:Nat->GH) (pr:List (Nat×Option (Nat×Nat))) (hs:List (Nat×GH)):Prop where
 pr:∀q h v,(q,some (h,v))∈pr->∀j oj,l[j]? = some oj->loudOp oj.op=true->before m (i+j) q=false->(HH (j+1)).ver h=some v
 hs:∀k ok h,l[k]? = some ok->isLoad ok.op=true->ldH (S k) ok.op=some h->∃v,(HH k).ver h=some v∧∀q Hq,(q,Hq)∈hs->before m (i+k) q=false->Hq.ver h=some v
 lo:∀k ok h v,l[k]? = some ok->isLoad ok.op=true->ldH (S k) ok.op=some h->(HH k).ver h=some v->
  (∀j oj,j<k->l[j]? = some oj->loudOp oj.op=true->before m (i+k) (i+j)=false->(HH j).ver h=some v)∧(∀j oj,k<j->l[j]? = some oj->loudOp oj.op=true->before m (i+j) (i+k)=false->(HH (j+1)).ver h=some v)
theorem Vrs.cons {all l:List Oper} {m:List Nat} {i:Nat} {S:Nat->GF} {HH:Nat->GH} {pr pr':List (Nat×Option (Nat×Nat))} {hs hs':List (Nat×GH)} {o:Oper} {σ:GF} {H:GH} (V:Vrs all l m (i+1) S HH pr' hs')
  (hpr:∀p∈pr,p∈pr') (hhs:∀p∈hs,p∈hs') (h1:loudOp o.op=true->(i,H)∈hs'∧∀p∈pr,before m i p.1=false->∀hv,p.2=some hv->(HH 0).ver hv.1=some hv.2)
  (h2:isLoad o.op=true->∀h,ldH σ o.op=some h->∃v,H.ver h=some v∧(i,some (h,v))∈pr'∧∀q Hq,(q,Hq)∈hs->before m i q=false->Hq.ver h=some v):
  Vrs all (o::l) m i (fun j=>Nat.casesOn j σ S) (fun j=>Nat.casesOn j H HH) pr hs:=by
 have e:∀j,i+(j+1)=i+1+j:=fun j=>by omega
 refine⟨fun q h v hq j oj hj hl hb=> ?_,fun k ok h hk hl hh=> ?_,fun k ok h v hk hl hh hv=>⟨fun j oj hjk hj hlj hb=> ?_,fun j oj hjk hj hlj hb=> ?_⟩⟩
 ·cases j with
  |zero=>simp at hj;subst hj;exact(h1 hl).2 _ hq (by simpa using hb) _ rfl
  |succ j=>exact V.pr q h v (hpr _ hq) j oj (by simpa using hj) hl (by rw[<-e];exact hb)
 ·cases k with
  |zero=>
   simp at hk;subst hk
   obtain⟨v,a,_,c⟩:=h2 hl h hh
   exact⟨v,a,fun q Hq hq hb=>c q Hq hq (by simpa using hb)⟩
  |succ k=>
   obtain⟨v,a,b⟩:=V.hs k ok h (by simpa using hk) hl hh
   exact⟨v,a,fun q Hq hq hb=>b q Hq (hhs _ hq) (by rw[<-e];exact hb)⟩
 ·cases k with
  |zero=>omega
  | succ k =>
   have hk:l[k]? = some ok:=by simpa using hk
   cases j with
   |zero=>
    simp at hj;subst hj
    obtain⟨v',a,b⟩:=V.hs k ok h hk hl hh
    have a:(HH k).ver h=some v':=a
    have hv:(HH k).ver h=some v:=hv
    rw[a]at hv;cases hv
    exact b i H (h1 hlj).1 (by rw[<-e];simpa using hb)
   |succ j=>exact(V.lo k ok h v hk hl hh hv).1 j oj (by omega) (by simpa using hj) hlj (by rw[<-e,<-e];exact hb)
 ·cases j with
  |zero=>omega
  | succ j =>
   have hj:l[j]? = some oj:=by simpa using hj
   cases k with
   |zero=>
    simp at hk;subst hk
    obtain⟨v',a,b,_⟩:=h2 hl h hh
    have hv:H.ver h=some v:=hv
    rw[a]at hv;cases hv
    exact V.pr i h v b j oj hj hlj (by rw[<-e];simpa using hb)
   |succ k=>exact(V.lo k ok h v (by simpa using hk) hl hh hv).2 j oj (by omega) hj hlj (by rw[<-e,<-e];exact hb)
theorem evW_trc {ih:CH} {all:List Oper} {m:List Nat} {k:GS->RS} {out:Out}:∀(l:List Oper) (i:Nat) (pr:List (Nat×Option (Nat×Nat))) (hs:List (Nat×GH)) (s:GS),evW tb ih all m k l i pr hs s=some out->
  ∃S HH gg,S 0=s.σ∧HH 0=s.H∧Trc tb ih all l S HH gg∧Vrs all l m i S HH pr hs∧k ⟨S l.length,HH l.length⟩=some out
 | [],i,pr,hs,s,h=>⟨fun _=>s.σ,fun _=>s.H,fun _=> .un,rfl,rfl,⟨fun i o ho=>by simp at ho,fun i o ho=>by simp at ho⟩,⟨fun _ _ _ _ j oj hj=>by simp at hj,fun k ok h hk=>by simp at hk,fun k ok h v hk=>by simp at hk⟩,h⟩
 | o :: l, i, pr, hs, s, h => by
  have h':evOpW tb ih all m o (evW tb ih all m k l) i pr hs s=some out:=h
  have trc:∀{g:GV} {H':GH} {S:Nat->GF} {HH:Nat->GH} {gg:Nat->GV},evO1 tb ih all o s.σ s.H=some (g,H')->S 0=putD o.dst g s.σ->HH 0=H'->Trc tb ih all l S HH gg->Trc tb ih all (o::l) (fun j=>Nat.casesOn j s.σ S) (fun j=>Nat.casesOn j s.H HH) (fun j=>Nat.casesOn j g gg):=fun {g H' S HH gg} h1 e1 e2 ht=>⟨fun i o' ho=>by
    cases i with
    |zero=>simp at ho;subst ho;show evO1 tb ih all o s.σ s.H=some (g,HH 0);rw[h1,e2]
    |succ i=>exact ht.st i o' (by simpa using ho),fun i o' ho=>by
    cases i with
    |zero=>simp at ho;subst ho;exact e1
    |succ i=>exact ht.up i o' (by simpa using ho)⟩
  unfold evOpW at h'
  cases hlo:loudOp o.op with
  |true=>
   rw[hlo]at h'
   obtain⟨g,H',h1,h2⟩:=evOp_some h'
   obtain⟨_,h4,h3⟩:=ob_some.1 h2
   have h4:=ckLoud_some h4
   obtain⟨S,HH,gg,e1,e2,ht,hv,hk⟩:=evW_trc l _ _ _ _ h3
   refine⟨_,_,_,rfl,rfl,trc h1 e1 e2 ht,hv.cons (fun _ h=>h) (fun p hp=>List.mem_cons_of_mem _ hp) (fun _=>⟨List.mem_cons_self,fun p hp hb hv' he=>by rw[e2];exact h4 p hp hb hv' he⟩) (fun hld=>by rw[load_quiet hld]at hlo;cases hlo),hk⟩
  | false =>
   rw[hlo]at h'
   cases hld:isLoad o.op with
   |true=>
    simp only[hld]at h'
    obtain⟨g,H',h1,h2⟩:=evOp_some h'
    obtain⟨e,h4,h3⟩:=ob_some.1 h2
    obtain⟨S,HH,gg,e1,e2,ht,hv,hk⟩:=evW_trc l _ _ _ _ h3
    refine⟨_,_,_,rfl,rfl,trc h1 e1 e2 ht,hv.cons (fun p hp=>List.mem_cons_of_mem _ hp) (fun _ h=>h) (fun h=>by rw[hlo]at h;cases h) (fun _ hh hldh=> ?_),hk⟩
    rw[hldh]at h4
    obtain⟨v,hv1,h4⟩:=ob_some.1 (show ob (s.H.ver hh) (fun v=>ckRead m i hh v hs)=some e from h4)
    obtain⟨rfl,h5⟩:=ckRead_some h4
    exact⟨v,hv1,List.mem_cons_self,fun q Hq hq hb=>h5 (q,Hq) hq hb⟩
   |false=>
    simp only[hld]at h'
    obtain⟨g,H',h1,h2⟩:=evOp_some h'
    obtain⟨S,HH,gg,e1,e2,ht,hv,hk⟩:=evW_trc l _ _ _ _ h2
    exact⟨_,_,_,rfl,rfl,trc h1 e1 e2 ht,hv.cons (fun _ h=>h) (fun _ h=>h) (fun h=>by rw[hlo]at h;cases h) (fun h=>by rw[hld]at h;cases h),hk⟩
theorem evO1_run {ih:CH} (hG:TabOk P tb) (hih:CallOk P w0 ih) {all:List Oper} {n:Nat} {o:Oper} {σ:GF} {H H':GH} {g:GV} {ρ:Rho} {a:Act} {w:World} (ho:okOp n o=true) (F:FrOk ρ n σ a) (R:Rel w0 ρ H w) (h:evO1 tb ih all o σ H=some (g,H')):
  ∃ρ' a' w',ρ.le ρ'∧Rel w0 ρ' H' w'∧FrOk ρ' n (putD o.dst g σ) a':=by
 obtain⟨_,hdst,_⟩:=okOp_spec ho
 rcases evO1_ok hG hih ho F R h with⟨_,hs⟩|⟨_,rfl,rfl⟩
 ·rcases hs with⟨_,_,_,rfl,v,hv,_⟩|⟨_,_,rfl,v,_,_,_,_,_,hv,_⟩|⟨_,_,rfl,v,hv,_⟩|⟨_,hr⟩
  ·exact⟨ρ,_,w,Rho.le_refl _,R,F.putD hdst hv⟩
  ·exact⟨ρ,_,w,Rho.le_refl _,R,F.putD hdst hv⟩
  ·exact⟨ρ,_,w,Rho.le_refl _,R,F.putD hdst hv⟩
  ·obtain⟨a',w',ρ',v,h1,h2,h3,rfl⟩:=nwp_some (hr (fun a' w'=>∃ρ' v,ρ.le ρ'∧Rel w0 ρ' H' w'∧Rl ρ' g v∧a'=a.put o.dst v) fun ρ' w' v h1 h2 h3=>⟨ρ',v,h1,h2,h3,rfl⟩)
   exact⟨ρ',_,w',h1,h2,(F.le h1).putD hdst h3⟩
 ·exact⟨ρ,_,w,Rho.le_refl _,R,F.putD hdst .un⟩
theorem trc_ghost {ih:CH} (hG:TabOk P tb) (hih:CallOk P w0 ih) {all:List Oper} {n:Nat} (hall:all.all (okOp n)=true) {S:Nat->GF} {HH:Nat->GH} {gg:Nat->GV} (T:Trc tb ih all all S HH gg) {ρ:Rho} {a:Act} {w:World} (F:FrOk ρ n (S 0) a) (R:Rel w0 ρ (HH 0) w):
    ∀m,m<=all.length->∃ρs:Nat->Rho,(∀i,i<=m->∃a w,Rel w0 (ρs i) (HH i) w∧FrOk (ρs i) n (S i) a)∧∀i,i<m->(ρs i).le (ρs (i+1))
  | 0, _ => ⟨fun _ => ρ, fun i hi => by have : i = 0 := by omega
                                        subst this;exact⟨a,w,R,F⟩,fun i hi=>by omega⟩
  | m + 1, hm => by
    obtain⟨ρs,h1,h2⟩:=trc_ghost hG hih hall T F R m (by omega)
    obtain⟨a1,w1,R1,F1⟩:=h1 m (Nat.le_refl _)
    have hget:all[m]? = some all[m]:=List.getElem?_eq_getElem (by omega)
    obtain⟨ρ2,a2,w2,hle,h3,h4⟩:=evO1_run hG hih (List.all_eq_true.1 hall _ (List.getElem_mem (by omega))) F1 R1 (T.st m _ hget)
    refine⟨fun i=>if i<=m then ρs i else ρ2,fun i hi=> ?_,fun i hi=> ?_⟩
    · by_cases e:i<=m
      · simp only[e,if_true];exact h1 i e
      · have:i=m+1:=by omega
        subst this
        simp only[e,if_false]
        exact⟨a2,w2,h3,by rw[T.up m _ hget];exact h4⟩
    · by_cases e:i+1<=m
      · simp only[e,show i<=m by omega,if_true];exact h2 i (by omega)
      · have:i=m:=by omega
        subst this
        simp only[e,Nat.le_refl,if_true,if_false];exact hle
theorem trc_mono {HH:Nat->GH} {m:Nat} (h1:∀i,i<m->(HH i).n<=(HH (i+1)).n) {i:Nat}:∀{j:Nat},i<=j->j<=m->(HH i).n<=(HH j).n
  | 0, h, _ => by have : i = 0 := by omega
                  subst this;exact Nat.le_refl _
  | j + 1, h, hj => by
    by_cases e:i=j+1
    · subst e;exact Nat.le_refl _
    · exact Nat.le_trans (trc_mono h1 (by omega) (by omega)) (h1 j (by omega))
theorem trc_slot {ih:CH} {all:List Oper} {S:Nat->GF} {HH:Nat->GH} {gg:Nat->GV} (T:Trc tb ih all all S HH gg) {t:Nat} {g:GV}:∀k,k<=all.length->glk (S k) t=some g->
  (∃i o,i<k∧all[i]? = some o∧o.dst=some t∧gg i=g∧∀j oj,i<j->j<k->all[j]? = some oj->oj.dst≠some t)∨((∀j oj,j<k->all[j]? = some oj->oj.dst≠some t)∧glk (S 0) t=some g)
 |0,_,h=> .inr ⟨fun j oj hj=>by omega,h⟩
 | k + 1, hk, h => by
  have hget:all[k]? = some all[k]:=List.getElem?_eq_getElem (by omega)
  rw[T.up k _ hget]at h
  have old:all[k].dst≠some t->glk (S k) t=some g->_:=fun hne h=>
   match trc_slot T k (by omega) h with
   | .inl ⟨i, o, h1, h2, h3, h4, h5⟩ => (.inl ⟨i, o, by omega, h2, h3, h4, fun j oj hij hj hoj => by
     by_cases e:j=k
     ·subst e;rw[hget]at hoj;cases hoj;exact hne
     ·exact h5 j oj hij (by omega) hoj⟩:(∃i o,i<k+1∧all[i]? = some o∧o.dst=some t∧gg i=g∧∀j oj,i<j->j<k+1->all[j]? = some oj->oj.dst≠some t)∨((∀j oj,j<k+1->all[j]? = some oj->oj.dst≠some t)∧glk (S 0) t=some g))
   | .inr ⟨h1, h2⟩ => .inr ⟨fun j oj hj hoj => by
     by_cases e:j=k
     ·subst e;rw[hget]at hoj;cases hoj;exact hne
     ·exact h1 j oj (by omega) hoj,h2⟩
  cases hd:all[k].dst with
  |none=>
   rw[hd]at h
   exact old (by rw[hd];simp) h
  | some d =>
   rw[hd]at h
   have h:glk ((d,gg k)::S k) t=some g:=h
   rw[glk_cons]at h
   by_cases e:t=d
   ·subst e
    rw[if_pos rfl]at h;cases h
    exact .inl ⟨k,_,by omega,hget,hd,rfl,fun j oj h1 h2=>by omega⟩
   ·rw[if_neg e]at h
    exact old (by rw[hd];intro e';cases e';exact e rfl) h

def loudF (o:Op):Bool:=loudOp o && !isFloat o
def loose (tb:TB) (x o:Op):Bool:=pureOp tb x||pureOp tb o||isFloat o||(!loudOp x && !loudOp o)||(isLoad x&&loudOp o)||(loudF x&&isLoad o)
def chkF (tb:TB) (l:List Oper) (m:List Nat):Bool:=
 (List.range l.length).all fun i=>match l[i]? with
  |none=>false
  |some o=>
   (edges o).all (fun e=>Nat.blt e i&&before m i e&&(List.range i).all (fun k=> !before m e k||before m i k)) &&
   (List.range l.length).all (fun k=> !before m i k||(Nat.blt k i&&(edges o).any (fun e=>Nat.beq e k||before m e k))) &&
   !isSelect o.op &&
   (List.range i).all (fun x=>before m i x||(match l[x]? with|none=>false|some ox=>ox.apart l.toArray o&&loose tb ox.op o.op))
structure ChkF (tb:TB) (l:List Oper) (m:List Nat):Prop where
 edge:∀(i:Nat) (o:Oper),l[i]? = some o->∀e∈edges o,e<i∧before m i e=true
 trans:∀(i:Nat) (o:Oper),l[i]? = some o->∀k,before m i k=true->k<l.length->k<i∧∃e∈edges o,e=k∨before m e k=true
 ind:∀(i x:Nat) (oi ox:Oper),l[i]? = some oi->l[x]? = some ox->x<i->before m i x=false->ox.apart l.toArray oi=true∧loose tb ox.op oi.op=true
theorem chkF_spec {l:List Oper} {m:List Nat} (h:chkF tb l m=true):ChkF tb l m:=by
 have key:∀(i:Nat) (o:Oper),l[i]? = some o->
   ((edges o).all (fun e=>Nat.blt e i&&before m i e&&(List.range i).all (fun k=> !before m e k||before m i k))=true)∧
   ((List.range l.length).all (fun k=> !before m i k||(Nat.blt k i&&(edges o).any (fun e=>Nat.beq e k||before m e k)))=true)∧isSelect o.op=false∧
   ((List.range i).all (fun x=>before m i x||(match l[x]? with|none=>false|some ox=>ox.apart l.toArray o&&loose tb ox.op o.op))=true):=by
  intro i o ho
  have:=List.all_eq_true.1 h i (List.mem_range.2 (getElem?_lt ho))
  simp only[ho,Bool.and_eq_true,Bool.not_eq_true']at this
  exact⟨this.1.1.1,this.1.1.2,this.1.2,this.2⟩
 refine⟨?_,?_,?_⟩
 ·intro i o ho e he
  have:=List.all_eq_true.1 (key i o ho).1 e he
  simp only[Bool.and_eq_true,Nat.blt_eq]at this
  exact⟨this.1.1,this.1.2⟩
 ·intro i o ho k hk hlt
  have:=List.all_eq_true.1 (key i o ho).2.1 k (List.mem_range.2 hlt)
  simp only[hk,Bool.not_true,Bool.false_or,Bool.and_eq_true,Nat.blt_eq,List.any_eq_true,Bool.or_eq_true]at this
  obtain⟨h1,e,he,h2⟩:=this
  refine⟨h1,e,he,?_⟩
  rcases h2 with h2|h2
  ·exact .inl (Nat.eq_of_beq_eq_true h2)
  ·exact .inr h2
 ·intro i x oi ox hi hx hlt hb
  have:=(key i oi hi).2.2.2
  have:=List.all_eq_true.1 this x (List.mem_range.2 hlt)
  simp only[hb,Bool.false_or,hx,Bool.and_eq_true]at this
  exact this

theorem float_trc {ih:CH} (hG:TabOk P tb) {all:List Oper} {n:Nat} {o:Oper} {σ:GF} {H H':GH} {g:GV} {ρ:Rho} {a:Act} (hf:isFloat o.op=true) (F:FrOk ρ n σ a) (h:evO1 tb ih all o σ H=some (g,H')):
  (Region.wanted o (yielded all.toArray a.tmps)=false∧g = .un∧H'=H)∨
  (Region.wanted o (yielded all.toArray a.tmps)=true∧∃cs a' T' len sz,H'=H.new (.cells cs)∧g = .sl H.n 0 len sz∧RlC ρ cs a'∧cs.length=a'.size∧∀w:World,∃V,(execOp a.eval o).run P w = .ok (.value V) (w.alloc (.cells a' T'))∧∀ρ':Rho,ρ' H.n=some ⟨w.heap.size,0,a'.size,.cells a' T',.cells cs⟩->Rl ρ' g V):=by
 rcases evO1_want F h with⟨hw,hg⟩|h
 ·refine .inr ⟨hw,?_⟩
  obtain⟨d,op,ty,pos,aft,gd⟩:=o
  cases op with
  |buildSlice T m ps=>
   obtain⟨vs,hvs,hg⟩:=ob_some.1 (show ob (gparts σ ps.toList) _=some (g,H')from hg)
   obtain⟨g',H'',hg,hk⟩:=kOR_some hg
   cases hk
   obtain⟨cs,a',T',len,sz,h1,h2,h3,h4,h5⟩:=vBuildS_raw (P:=P) hG (gparts_ok F hvs) hg
   refine⟨cs,a',T',len,sz,h1,h2,h3,h4,fun w=> ?_⟩
   obtain⟨V,hr,hv⟩:=h5 w
   refine⟨V,?_,hv⟩
   have e:(ps.toList.map fun p=>(p.1,a.eval p.2)).toArray=ps.map fun p=>(p.1,a.eval p.2):=by apply Array.toList_inj.1;simp
   rw[e]at hr
   simp[execOp,hr]
  |_=>cases hf
 ·exact .inl h
end
end Go.Gx
end
section
namespace Go.Gx
open Go Go.Sx Go.RowKit
def jnR (ρ pm:Rho):Rho:=fun h=>match ρ h with
 |some l=>some l
 |none=>pm h
theorem jnR_some {ρ pm:Rho} {h:Nat} {l:Loc} (e:ρ h=some l):jnR ρ pm h=some l:=by simp[jnR,e]
theorem jnR_none {ρ pm:Rho} {h:Nat} (e:ρ h=none):jnR ρ pm h=pm h:=by simp[jnR,e]
theorem jnR_left {ρ pm:Rho}:ρ.le (jnR ρ pm):=fun _ _ e=>jnR_some e
def SlD (all:List Oper) (S0:GF) (gg:Nat->GV) (D:Nat->Bool) (t:Nat) (g:GV):Prop:=
 (∃i o,D i=true∧all[i]? = some o∧o.dst=some t∧gg i=g∧∀j oj,D j=true->all[j]? = some oj->oj.dst=some t->j<=i)∨((∀j oj,D j=true->all[j]? = some oj->oj.dst≠some t)∧glk S0 t=some g)
def ins (D:Nat->Bool) (k:Nat):Nat->Bool:=fun j=>j==k||D j
theorem ins_self (D:Nat->Bool) (k:Nat):ins D k k=true:=by simp[ins]
theorem ins_ne {D:Nat->Bool} {k j:Nat} (h:j≠k):ins D k j=D j:=by simp[ins,h]
theorem ins_of {D:Nat->Bool} {k j:Nat} (h:D j=true):ins D k j=true:=by simp[ins,h]
noncomputable def restr (σ:GF) (L:List Nat):GF:=L.filterMap fun t=>(glk σ t).map fun g=>(t,g)
theorem glk_restr {σ:GF} {t:Nat}:∀{L:List Nat},glk (restr σ L) t=if t∈L then glk σ t else none
 | []=>rfl
 | x :: L => by
  have ih:=glk_restr (σ:=σ) (t:=t) (L:=L)
  cases hx:glk σ x with
  |none=>
   have e:restr σ (x::L)=restr σ L:=by simp[restr,hx]
   rw[e,ih]
   by_cases e1:t=x
   ·subst e1;simp[hx]
   ·simp[e1]
  |some g=>
   have e:restr σ (x::L)=(x,g)::restr σ L:=by simp[restr,hx]
   rw[e,glk_cons,ih]
   by_cases e1:t=x
   ·subst e1;simp[hx]
   ·simp[e1]
section
variable {P:Program} {tb:TB} {w0:Base} {ih:CH} {all:List Oper} {n:Nat} {S:Nat->GF} {HH:Nat->GH} {gg:Nat->GV}
structure FEnv (P:Program) (tb:TB) (w0:Base) (ih:CH) (all:List Oper) (n:Nat) (S:Nat->GF) (HH:Nat->GH) (gg:Nat->GV):Prop where
 tab:TabOk P tb
 call:∀w0,CallOk P w0 ih
 ops:all.all (okOp n)=true
 chk:ChkF tb all (masks all)
 trc:Trc tb ih all all S HH gg
 vrs:∀k ok h v,all[k]? = some ok->isLoad ok.op=true->ldH (S k) ok.op=some h->(HH k).ver h=some v->
  (∀j oj,j<k->all[j]? = some oj->loudOp oj.op=true->before (masks all) k j=false->(HH j).ver h=some v)∧(∀j oj,k<j->all[j]? = some oj->loudOp oj.op=true->before (masks all) j k=false->(HH (j+1)).ver h=some v)
 chain:∃ρs:Nat->Rho,(∀i,i<=all.length->∃a w,Rel w0 (ρs i) (HH i) w∧FrOk (ρs i) n (S i) a)∧∀i,i<all.length->(ρs i).le (ρs (i+1))
theorem FEnv.ghost (E:FEnv P tb w0 ih all n S HH gg) (i:Nat) (hi:i<=all.length):∃ρ a w,Rel w0 ρ (HH i) w∧FrOk ρ n (S i) a:=
 let ⟨ρs,h,_⟩:=E.chain
 ⟨ρs i,h i hi⟩
theorem FEnv.mono (E:FEnv P tb w0 ih all n S HH gg) (i:Nat) (hi:i<all.length):(HH i).n<=(HH (i+1)).n:=by
 obtain⟨ρs,h,hle⟩:=E.chain
 obtain⟨_,_,R1,_⟩:=h i (Nat.le_of_lt hi)
 obtain⟨_,_,R2,_⟩:=h (i+1) hi
 exact R1.mono R2 (hle i hi)
theorem chain_le {ρs:Nat->Rho} {m:Nat} (h:∀i,i<m->(ρs i).le (ρs (i+1))) {i:Nat}:∀{j:Nat},i<=j->j<=m->(ρs i).le (ρs j)
  | 0, h1, _ => by have : i = 0 := by omega
                   subst this;exact Rho.le_refl _
  | j + 1, h1, hj => by
    by_cases e:i=j+1
    · subst e;exact Rho.le_refl _
    · exact Rho.le_trans (chain_le h (by omega) (by omega)) (h j (by omega))
theorem FEnv.same (E:FEnv P tb w0 ih all n S HH gg) {i j:Nat} (hij:i<=j) (hj:j<=all.length) {h v:Nat} (h1:(HH i).ver h=some v) (h2:(HH j).ver h=some v):(HH i).get h=(HH j).get h:=by
 obtain⟨ρs,hg,hle⟩:=E.chain
 have hc:=chain_le hle hij hj
 obtain⟨_,w1,R1,_⟩:=hg i (by omega)
 obtain⟨_,w2,R2,_⟩:=hg j hj
 have live:∀{k:Nat},(HH k).ver h=some v->∃o,(HH k).get h=some o:=fun {k} hv=>by
  obtain⟨p,hp,_⟩:=ob_some.1 (show ob ((HH k).t.get h) _=some v from hv)
  exact⟨p.2,by unfold GH.get;rw[hp];rfl⟩
 obtain⟨o1,ho1⟩:=live h1
 obtain⟨o2,ho2⟩:=live h2
 obtain⟨l1,hl1,_⟩:=R1.live h o1 ho1
 obtain⟨l2,hl2,_⟩:=R2.live h o2 ho2
 obtain⟨lv1,a1,_,b1⟩:=R1.vers h v l1 h1 hl1
 obtain⟨lv2,a2,_,b2⟩:=R2.vers h v l2 h2 hl2
 have:=hc _ _ a1
 rw[a2]at this;cases this
 rw[b1,b2]
theorem FEnv.op (E:FEnv P tb w0 ih all n S HH gg) {k:Nat} {o:Oper} (hk:all[k]? = some o):okOp n o=true:=List.all_eq_true.1 E.ops o (List.mem_of_getElem? hk)
theorem FEnv.quiet (E:FEnv P tb w0 ih all n S HH gg) {k:Nat} {o:Oper} (hk:all[k]? = some o) (hq:loudOp o.op=false):HH (k+1)=HH k:=by
 obtain⟨ρ,a,w,R,F⟩:=E.ghost k (Nat.le_of_lt (getElem?_lt hk))
 rcases evO1_ok E.tab (E.call w0) (E.op hk) F R (E.trc.st k o hk)with⟨_,hs⟩|⟨_,_,h⟩
 ·rcases hs with⟨_,_,_,h,_⟩|⟨_,_,h,_⟩|⟨_,_,h,_⟩|⟨h,_⟩
  ·exact h
  ·exact h
  ·exact h
  ·rw[hq]at h;cases h
 ·exact h
theorem FEnv.floats (E:FEnv P tb w0 ih all n S HH gg) {k:Nat} {o:Oper} (hk:all[k]? = some o) (hf:isFloat o.op=true):HH (k+1)=HH k∨∃cs,HH (k+1)=(HH k).new (.cells cs):=by
 obtain⟨ρ,a,w,R,F⟩:=E.ghost k (Nat.le_of_lt (getElem?_lt hk))
 rcases float_trc (P:=P) E.tab hf F (E.trc.st k o hk)with⟨_,_,h⟩|⟨_,cs,_,_,_,_,h,_⟩
 ·exact .inl h
 ·exact .inr ⟨cs,h⟩
theorem new_ne {H:GH} {o:GO} (h:H=H.new o):False:=by
 have:H.n=H.n+1:=congrArg GH.n h
 omega
theorem new_cells {H:GH} {c c':List GV} (h:H.new (.cells c)=H.new (.cells c')):c=c':=by
 have h1:=GH.get_new H (.cells c) H.n
 have h2:=GH.get_new H (.cells c') H.n
 rw[if_pos rfl]at h1 h2
 rw[h,h2]at h1
 cases h1;rfl
theorem FEnv.mono' (E:FEnv P tb w0 ih all n S HH gg) {i j:Nat} (h:i<=j) (hj:j<=all.length):(HH i).n<=(HH j).n:=trc_mono E.mono h hj
theorem FEnv.apart (E:FEnv P tb w0 ih all n S HH gg) {i j:Nat} {ci cj:List GV} (hi:i<all.length) (hj:j<all.length) (ei:HH (i+1)=(HH i).new (.cells ci)) (ej:HH (j+1)=(HH j).new (.cells cj)) (h:(HH i).n=(HH j).n):i=j:=by
 have ei':(HH (i+1)).n=(HH i).n+1:=by rw[ei];rfl
 have ej':(HH (j+1)).n=(HH j).n+1:=by rw[ej];rfl
 rcases Nat.lt_trichotomy i j with h1|h1|h1
 ·have:=E.mono' (i:=i+1) (j:=j) (by omega) (by omega);omega
 ·exact h1
 ·have:=E.mono' (i:=j+1) (j:=i) (by omega) (by omega);omega
structure FInv (w0:Base) (ρb:Rho) (n:Nat) (all:List Oper) (S0:GF) (HH:Nat->GH) (gg:Nat->GV) (D:Nat->Bool) (a:Act) (w:World) (t:Nat) (ρ pm:Rho):Prop where
 tm:t<=all.length
 lou:∀j o,all[j]? = some o->loudF o.op=true->(D j=true↔j<t)
 flo:∀j o,all[j]? = some o->isFloat o.op=true->j<t->D j=true
 rel:Rel w0 ρ (HH t) w
 up:ρb.le ρ
 defers:a.defers=[]
 size:a.tmps.size=n
 slot:∀s g,SlD all S0 gg D s g->Rl (jnR ρ pm) g (a.eval (.tmp s))
 pend:∀i o cs,all[i]? = some o->isFloat o.op=true->HH (i+1)=(HH i).new (.cells cs)->t<=i->D i=true->∃l,pm (HH i).n=some l∧w0.mine l.b∧¬Held ρ (HH t) l.b∧w.heap[l.b]? = some l.x∧ObjOk (jnR ρ pm) w l (.cells cs)∧l.o = .cells cs
 only:∀h l,pm h=some l->∃i o cs,all[i]? = some o∧isFloat o.op=true∧HH (i+1)=(HH i).new (.cells cs)∧t<=i∧D i=true∧h=(HH i).n
 inj:∀h h' l l',pm h=some l->pm h'=some l'->l.b=l'.b->h=h'
variable {D:Nat->Bool} {a:Act} {w:World} {t:Nat} {ρ pm ρb:Rho}
theorem FInv.low (E:FEnv P tb w0 ih all n S HH gg) (I:FInv w0 ρb n all (S 0) HH gg D a w t ρ pm) {h:Nat} {l:Loc} (hp:pm h=some l):(HH t).n<=h:=by
 obtain⟨i,o,cs,h1,_,_,h4,_,rfl⟩:=I.only h l hp
 exact E.mono' h4 (Nat.le_of_lt (getElem?_lt h1))
theorem FInv.adopt (E:FEnv P tb w0 ih all n S HH gg) (I:FInv w0 ρb n all (S 0) HH gg D a w t ρ pm) {o:Oper} (ho:all[t]? = some o) (hl:loudF o.op=false) (hf:isFloat o.op=true->D t=true):
  ∃ρ' pm',FInv w0 ρb n all (S 0) HH gg D a w (t+1) ρ' pm'∧jnR ρ' pm'=jnR ρ pm:=by
 have ht:=getElem?_lt ho
 have lou':∀j o,all[j]? = some o->loudF o.op=true->(D j=true↔j<t+1):=fun j oj hj hlj=>by
  have hne:j≠t:=fun e=>by subst e;rw[ho]at hj;cases hj;rw[hl]at hlj;cases hlj
  rw[I.lou j oj hj hlj];omega
 have flo':∀j o,all[j]? = some o->isFloat o.op=true->j<t+1->D j=true:=fun j oj hj hfj hlt=>by
  by_cases e:j=t
  ·subst e;rw[ho]at hj;cases hj;exact hf hfj
  ·exact I.flo j oj hj hfj (by omega)
 -- nothing is taken up
 have same:HH (t+1)=HH t->∃ρ' pm',FInv w0 ρb n all (S 0) HH gg D a w (t+1) ρ' pm'∧jnR ρ' pm'=jnR ρ pm:=fun e=>
  ⟨ρ,pm,⟨ht,lou',flo',by rw[e];exact I.rel,I.up,I.defers,I.size,I.slot,fun i oi cs h1 h2 h3 h4 h5=>by rw[e];exact I.pend i oi cs h1 h2 h3 (by omega) h5,fun h l hp=>by
   obtain⟨i,oi,cs,h1,h2,h3,h4,h5,h6⟩:=I.only h l hp
   refine⟨i,oi,cs,h1,h2,h3,?_,h5,h6⟩
   by_cases e':i=t
   ·subst e';rw[e]at h3;exact(new_ne h3).elim
   ·omega,I.inj⟩,rfl⟩
 cases hfl:isFloat o.op with
 |false=>exact same (E.quiet ho (by simpa [loudF,hfl]using hl))
 | true =>
  rcases E.floats ho hfl with e|⟨cs,e⟩
  ·exact same e
  obtain⟨l,hp,hmine,hheld,hx,hobj,hlo⟩:=I.pend t o cs ho hfl e (Nat.le_refl _) (hf hfl)
  have hfresh:ρ (HH t).n=none:=I.rel.fresh _ (Nat.le_refl _)
  let ρ':=ρ.upd (HH t).n l
  let pm':Rho:=fun h=>if h=(HH t).n then none else pm h
  have hself:ρ' (HH t).n=some l:=by simp[ρ',Rho.upd]
  have hoth:∀h,h≠(HH t).n->ρ' h=ρ h:=fun h hh=>by simp[ρ',Rho.upd,hh]
  have hjn:jnR ρ' pm'=jnR ρ pm:=by
   funext h
   by_cases eh:h=(HH t).n
   ·subst eh;rw[jnR_some hself,jnR_none hfresh,hp]
   ·unfold jnR;rw[hoth h eh];simp[pm',eh]
  have hn:(HH (t+1)).n=(HH t).n+1:=by rw[e];rfl
  -- what the object holds is older
  have hcut:∀{g:GV} {v v0:Value} {ρ0:Rho},(∀h l,ρ0 h=some l->h<(HH (t+1)).n)->Rl (jnR ρ pm) g v->Rl ρ0 g v0->Rl ρ' g v:=fun {g v v0 ρ0} hlow h1 h0=>by
   refine Rl.cut (fun h l0 l1 e0 e1=> ?_) h1 h0
   have hlt:=hlow h l0 e0
   by_cases eh:h=(HH t).n
   ·subst eh;rw[jnR_none hfresh,hp]at e1;rw[hself];exact e1
   ·rw[hoth h eh]
    cases hr:ρ h with
    |some l2=>rw[jnR_some hr]at e1;exact e1
    |none=>
     rw[jnR_none hr]at e1
     have:=I.low E e1
     omega
  obtain⟨ρ0,a0,wg,R0,F0⟩:=E.ghost (t+1) ht
  have hlow0:∀h l,ρ0 h=some l->h<(HH (t+1)).n:=fun h l hl=>by
   rcases Nat.lt_or_ge h (HH (t+1)).n with h'|h'
   ·exact h'
   ·rw[R0.fresh h h']at hl;cases hl
  have hgetn:(HH (t+1)).get (HH t).n=some (.cells cs):=by rw[e,GH.get_new,if_pos rfl]
  obtain⟨l0,_,_,hob0⟩:=R0.live _ _ hgetn
  obtain⟨cur0,T0,q1,q2,q3,q4⟩:=hob0
  have hobj':ObjOk ρ' w l (.cells cs):=by
   obtain⟨cur,T,p1,p2,p3,p4⟩:=hobj
   refine⟨cur,T,p1,p2,p3,fun i g hg=> ?_⟩
   obtain⟨v,r1,r2,r3⟩:=p4 i g hg
   obtain⟨v0,_,s2,_⟩:=q4 i g hg
   exact⟨v,r1,hcut hlow0 r2 s2,r3⟩
  obtain⟨hle,R'⟩:=I.rel.new (o:= .cells cs) (l:=l) I.rel.ext (fun h o' l' hg hl'=>⟨rfl,fun eb=>hheld ⟨h,o',l',hg,hl',eb⟩⟩) hmine hobj' hx hlo
  rw[<-e]at R'
  refine⟨ρ',pm',⟨ht,lou',flo',R',Rho.le_trans I.up hle,I.defers,I.size,fun s g hs=>by rw[hjn];exact I.slot s g hs,fun i oi ci h1 h2 h3 h4 h5=> ?_,fun h l1 hp1=> ?_,fun h h' l1 l2 h1 h2 hb=> ?_⟩,hjn⟩
  ·obtain⟨li,a1,a2,a3,a4,a5,a6⟩:=I.pend i oi ci h1 h2 h3 (by omega) h5
   have hne:(HH i).n≠(HH t).n:=fun eh=>by
    have:=E.apart (getElem?_lt h1) ht h3 e eh;omega
   refine⟨li,by simp[pm',hne,a1],a2,?_,a4,by rw[hjn];exact a5,a6⟩
   rintro⟨h,o',l',hg,hl',eb⟩
   rw[e,GH.get_new]at hg
   by_cases eh:h=(HH t).n
   ·subst eh;rw[hself]at hl';cases hl'
    exact hne (I.inj _ _ _ _ a1 hp eb.symm)
   ·rw[if_neg eh]at hg
    rw[hoth h eh]at hl'
    exact a3 ⟨h,o',l',hg,hl',eb⟩
  ·have hne:h≠(HH t).n:=fun eh=>by subst eh;simp[pm']at hp1
   have hp1:pm h=some l1:=by simpa [pm',hne]using hp1
   obtain⟨i,oi,ci,h1,h2,h3,h4,h5,h6⟩:=I.only h l1 hp1
   refine⟨i,oi,ci,h1,h2,h3,?_,h5,h6⟩
   by_cases e':i=t
   ·subst e';exact absurd h6 hne
   ·omega
  ·have h1:pm h=some l1:=by
    by_cases eh:h=(HH t).n
    ·simp[pm',eh]at h1
    ·simpa [pm',eh]using h1
   have h2:pm h'=some l2:=by
    by_cases eh:h'=(HH t).n
    ·simp[pm',eh]at h2
    ·simpa [pm',eh]using h2
   exact I.inj h h' l1 l2 h1 h2 hb
theorem FInv.adoptTo (E:FEnv P tb w0 ih all n S HH gg):∀(d t k:Nat) (ρ pm:Rho),FInv w0 ρb n all (S 0) HH gg D a w t ρ pm->t+d=k->k<=all.length->(∀j o,t<=j->j<k->all[j]? = some o->loudF o.op=false∧(isFloat o.op=true->D j=true))->
  ∃ρ' pm',FInv w0 ρb n all (S 0) HH gg D a w k ρ' pm'∧jnR ρ' pm'=jnR ρ pm
 |0,t,k,ρ,pm,I,hd,hk,_=>by
  have:t=k:=by omega
  subst this
  exact⟨ρ,pm,I,rfl⟩
 |d+1,t,k,ρ,pm,I,hd,hk,h=>by
  have ho:all[t]? = some all[t]:=List.getElem?_eq_getElem (by omega)
  obtain⟨h1,h2⟩:=h t _ (Nat.le_refl _) (by omega) ho
  obtain⟨ρ1,pm1,I1,e1⟩:=I.adopt E ho h1 h2
  obtain⟨ρ2,pm2,I2,e2⟩:=FInv.adoptTo E d (t+1) k ρ1 pm1 I1 (by omega) hk (fun j o h1 h2=>h j o (by omega) h2)
  exact⟨ρ2,pm2,I2,by rw[e2,e1]⟩
def Cl (all:List Oper) (D:Nat->Bool):Prop:=∀j k,D j=true->before (masks all) j k=true->k<all.length->D k=true
structure Rdy (all:List Oper) (D:Nat->Bool) (k:Nat) (o:Oper):Prop where
 get:all[k]? = some o
 undone:D k=false
 past:∀j,before (masks all) k j=true->j<all.length->D j=true
theorem Rdy.behind (C:ChkF tb all (masks all)) (hcl:Cl all D) {k:Nat} {o:Oper} (hr:Rdy all D k o) {j:Nat} {oj:Oper} (hj:all[j]? = some oj) (hD:D j=true) (hlt:k<j):o.apart all.toArray oj=true∧loose tb o.op oj.op=true:=by
 cases hb:before (masks all) j k with
 |false=>exact C.ind j k oj o hj hr.get hlt hb
 |true=>
  have:=hcl j k hD hb (getElem?_lt hr.get)
  rw[hr.undone]at this;cases this
theorem Rdy.ahead (C:ChkF tb all (masks all)) {k:Nat} {o:Oper} (hr:Rdy all D k o) {j:Nat} {oj:Oper} (hj:all[j]? = some oj) (hlt:j<k):D j=true∨oj.apart all.toArray o=true∧loose tb oj.op o.op=true:=by
 cases hb:before (masks all) k j with
 |true=>exact .inl (hr.past j hb (getElem?_lt hj))
 |false=>exact .inr (C.ind k j o oj hr.get hj hlt hb)
theorem Rdy.look (E:FEnv P tb w0 ih all n S HH gg) (hcl:Cl all D) {k:Nat} {o:Oper} (hr:Rdy all D k o) {s:Nat} {g:GV} (hs:s∈o.looksAt all.toArray) (hg:glk (S k) s=some g):SlD all (S 0) gg D s g:=by
 have none_behind:∀j oj,D j=true->all[j]? = some oj->oj.dst=some s->j<k:=fun j oj hD hj hd=>by
  rcases Nat.lt_trichotomy j k with h|h|h
  ·exact h
  ·subst h;rw[hr.undone]at hD;cases hD
  ·obtain⟨h1,_⟩:=hr.behind E.chk hcl hj hD h
   exact absurd hs ((Oper.apart_spec h1).2.2 s hd)
 rcases trc_slot E.trc k (Nat.le_of_lt (getElem?_lt hr.get)) hg with⟨i,oi,h1,h2,h3,h4,h5⟩|⟨h1,h2⟩
 ·refine .inl ⟨i,oi,?_,h2,h3,h4,fun j oj hD hj hd=> ?_⟩
  ·rcases hr.ahead E.chk h2 h1 with h|⟨h,_⟩
   ·exact h
   ·exact absurd hs ((Oper.apart_spec h).1 s h3)
  ·have:=none_behind j oj hD hj hd
   rcases Nat.lt_or_ge i j with h|h
   ·exact absurd hd (h5 j oj h this hj)
   ·exact h
 ·exact .inr ⟨fun j oj hD hj hd=>h1 j oj (none_behind j oj hD hj hd) hj hd,h2⟩
theorem Rdy.slot (C:ChkF tb all (masks all)) (hcl:Cl all D) {S0:GF} {k:Nat} {o:Oper} (hr:Rdy all D k o) (hdst:∀d,o.dst=some d->d<n) (hsz:a.tmps.size=n) {ρ1 ρ2:Rho} (hle:ρ1.le ρ2) (hslot:∀s g,SlD all S0 gg D s g->Rl ρ1 g (a.eval (.tmp s))) {v:Value} (hv:Rl ρ2 (gg k) v):
  ∀s g,SlD all S0 gg (ins D k) s g->Rl ρ2 g ((a.put o.dst v).eval (.tmp s)):=fun s g hs=>by
 have behind:∀j oj,D j=true->all[j]? = some oj->o.dst=some s->oj.dst=some s->j<k:=fun j oj hD hj hd hd'=>by
  rcases Nat.lt_trichotomy j k with h|h|h
  ·exact h
  ·subst h;rw[hr.undone]at hD;cases hD
  ·obtain⟨h1,_⟩:=hr.behind C hcl hj hD h
   exact absurd hd' ((Oper.apart_spec h1).2.1 s hd)
 by_cases hd:o.dst=some s
 ·have hg:gg k=g:=by
   rcases hs with⟨i,oi,h1,h2,h3,h4,h5⟩|⟨h1,_⟩
   ·have hk:=h5 k o (ins_self D k) hr.get hd
    by_cases e:i=k
    ·subst e;exact h4
    ·rw[ins_ne e]at h1
     have:=behind i oi h1 h2 hd h3
     omega
   ·exact absurd hd (h1 k o (ins_self D k) hr.get)
  rw[hd,<-hg]
  have hs':=hdst s hd
  have:(a.put (some s) v).eval (.tmp s)=v:=by simp[Act.put,Act.eval,hsz,hs']
  rw[this];exact hv
 ·have he:(a.put o.dst v).eval (.tmp s)=a.eval (.tmp s):=Act.eval_put fun d hd' e=>by cases e;exact hd hd'
  rw[he]
  refine(hslot s g ?_).le hle
  rcases hs with⟨i,oi,h1,h2,h3,h4,h5⟩|⟨h1,h2⟩
  ·have e:i≠k:=fun e=>by subst e;rw[hr.get]at h2;cases h2;exact hd h3
   rw[ins_ne e]at h1
   exact .inl ⟨i,oi,h1,h2,h3,h4,fun j oj hD=>h5 j oj (ins_of hD)⟩
  ·exact .inr ⟨fun j oj hD=>h1 j oj (ins_of hD),h2⟩
theorem put_parts (a:Act) (d:Option Tmp) (v:Value):(a.put d v).defers=a.defers∧(a.put d v).tmps.size=a.tmps.size:=by
 cases d with
 |none=>exact⟨rfl,rfl⟩
 |some d=>exact⟨rfl,by simp[Act.put]⟩
theorem FInv.plain (E:FEnv P tb w0 ih all n S HH gg) (hcl:Cl all D) (I:FInv w0 ρb n all (S 0) HH gg D a w t ρ pm) {k:Nat} {o:Oper} (hr:Rdy all D k o) (hl:loudF o.op=false) (hf:isFloat o.op=true->HH (k+1)=HH k) {v:Value} (hv:Rl (jnR ρ pm) (gg k) v):
  FInv w0 ρb n all (S 0) HH gg (ins D k) (a.put o.dst v) w t ρ pm:=by
 obtain⟨_,hdst,_⟩:=okOp_spec (E.op hr.get)
 obtain⟨p1,p2⟩:=put_parts a o.dst v
 refine⟨I.tm,fun j oj hj hlj=> ?_,fun j oj hj hfj hlt=>ins_of (I.flo j oj hj hfj hlt),I.rel,I.up,by rw[p1];exact I.defers,by rw[p2];exact I.size,hr.slot E.chk hcl hdst I.size (Rho.le_refl _) I.slot hv,fun i oi cs h1 h2 h3 h4 h5=> ?_,fun h l hp=> ?_,I.inj⟩
 ·have e:j≠k:=fun e=>by subst e;rw[hr.get]at hj;cases hj;rw[hl]at hlj;cases hlj
  rw[ins_ne e];exact I.lou j oj hj hlj
 ·have e:i≠k:=fun e=>by
   subst e;rw[hr.get]at h1;cases h1;rw[hf h2]at h3;exact new_ne h3
  rw[ins_ne e]at h5
  exact I.pend i oi cs h1 h2 h3 h4 h5
 ·obtain⟨i,oi,cs,h1,h2,h3,h4,h5,h6⟩:=I.only h l hp
  exact⟨i,oi,cs,h1,h2,h3,h4,ins_of h5,h6⟩
def Last (all:List Oper) (D:Nat->Bool) (t:Nat):Prop:=t=0∨∃o,all[t - 1]? = some o∧loudF o.op=true∧D (t - 1)=true
theorem Last.ins {k:Nat} (h:Last all D t):Last all (ins D k) t:=by
 rcases h with h|⟨o,h1,h2,h3⟩
 ·exact .inl h
 ·exact .inr ⟨o,h1,h2,ins_of h3⟩
theorem pure_loud {o:Op} (h:pureOp tb o=true):loudOp o=false:=by
 unfold pureOp at h
 split at h<;>first|rfl|cases h
theorem float_loud {o:Op} (h:isFloat o=true):loudOp o=true:=by
 unfold isFloat at h
 split at h
 ·rfl
 ·cases h
theorem float_pure {o:Op} (h:isFloat o=true):pureOp tb o=false:=by
 cases hp:pureOp tb o with
 |false=>rfl
 |true=>have:=pure_loud hp;rw[float_loud h]at this;cases this
theorem FInv.reach (E:FEnv P tb w0 ih all n S HH gg) (hcl:Cl all D) (I:FInv w0 ρb n all (S 0) HH gg D a w t ρ pm) (hlast:Last all D t) {k:Nat} {o:Oper} (hr:Rdy all D k o) (hp:pureOp tb o.op=false) (hf:isFloat o.op=false) (hld:isLoad o.op=false):
  ∃ρ' pm',FInv w0 ρb n all (S 0) HH gg D a w k ρ' pm'∧jnR ρ' pm'=jnR ρ pm:=by
 have hk:=getElem?_lt hr.get
 have htk:t<=k:=by
  rcases hlast with h|⟨oj,h1,h2,h3⟩
  ·omega
  ·rcases Nat.lt_or_ge (t - 1) k with h|h
   ·omega
   ·exfalso
    by_cases e:t - 1=k
    ·rw[e,hr.undone]at h3;cases h3
    ·obtain⟨_,h4⟩:=hr.behind E.chk hcl h1 h3 (by omega)
     simp only[loudF,Bool.and_eq_true,Bool.not_eq_true']at h2
     have:pureOp tb oj.op=false:=by
      cases hq:pureOp tb oj.op with
      |false=>rfl
      |true=>have:=pure_loud hq;rw[h2.1]at this;cases this
     have hlj:isLoad oj.op=false:=by
      cases hq:isLoad oj.op with
      |false=>rfl
      |true=>rw[load_quiet hq]at h2;cases h2.1
     simp[loose,hp,this,h2.1,h2.2,hld,hlj]at h4
 refine I.adoptTo E (k - t) t k ρ pm (by omega) (by omega) fun j oj h1 h2 hj=> ?_
 have hnot:D j=true∨loudOp oj.op=false∨pureOp tb oj.op=true:=by
  rcases hr.ahead E.chk hj h2 with h|⟨_,h⟩
  ·exact .inl h
  ·simp only[loose,hp,hf,hld,Bool.or_false,Bool.and_false,Bool.or_eq_true,Bool.and_eq_true,Bool.not_eq_true']at h
   rcases h with(h|h)|h
   ·exact .inr (.inr h)
   ·exact .inr (.inl h.1)
   ·exact .inr (.inl (load_quiet h.1))
 refine⟨?_,fun hfj=> ?_⟩
 ·cases hlj:loudF oj.op with
  |false=>rfl
  |true=>
   exfalso
   have hlj':=hlj
   simp only[loudF,Bool.and_eq_true,Bool.not_eq_true']at hlj'
   rcases hnot with h|h|h
   ·have:=(I.lou j oj hj hlj).1 h;omega
   ·rw[hlj'.1]at h;cases h
   ·have:=pure_loud h;rw[hlj'.1]at this;cases this
 ·rcases hnot with h|h|h
  ·exact h
  ·rw[float_loud hfj]at h;cases h
  ·rw[float_pure hfj]at h;cases h
theorem FInv.frame (E:FEnv P tb w0 ih all n S HH gg) (hcl:Cl all D) (I:FInv w0 ρb n all (S 0) HH gg D a w t ρ pm) {k:Nat} {o:Oper} (hr:Rdy all D k o):FrOk (jnR ρ pm) n (restr (S k) (o.looksAt all.toArray)) a:=
 ⟨I.defers,I.size,fun s g hg=>by
  rw[glk_restr]at hg
  by_cases hs:s∈o.looksAt all.toArray
  ·rw[if_pos hs]at hg;exact I.slot s g (hr.look E hcl hs hg)
  ·rw[if_neg hs]at hg;cases hg⟩
theorem FInv.frame' (E:FEnv P tb w0 ih all n S HH gg) (hcl:Cl all D) {k:Nat} (I:FInv w0 ρb n all (S 0) HH gg D a w k ρ pm) {o:Oper} (hr:Rdy all D k o):FrOk ρ n (restr (S k) (o.looksAt all.toArray)) a:=by
 have F:=I.frame E hcl hr
 obtain⟨ρ0,a0,wg,R0,F0⟩:=E.ghost k (Nat.le_of_lt (getElem?_lt hr.get))
 refine⟨F.defers,F.size,fun s g hg=> ?_⟩
 have h1:=F.slot s g hg
 rw[glk_restr]at hg
 by_cases hs:s∈o.looksAt all.toArray
 ·rw[if_pos hs]at hg
  refine Rl.cut (fun h l0 l e0 e1=> ?_) h1 (F0.slot s g hg)
  cases hrr:ρ h with
  |some l2=>rw[jnR_some hrr]at e1;exact e1
  |none=>
   rw[jnR_none hrr]at e1
   have h2:=I.low E e1
   rw[R0.fresh h h2]at e0;cases e0
 ·rw[if_neg hs]at hg;cases hg
theorem FEnv.st (E:FEnv P tb w0 ih all n S HH gg) {k:Nat} {o:Oper} (hk:all[k]? = some o):evO1 tb ih all o (restr (S k) (o.looksAt all.toArray)) (HH k)=some (gg k,HH (k+1)):=by
 rw[<-E.trc.st k o hk]
 exact evO1_congr fun s hs=>by rw[glk_restr,if_pos hs]
theorem FInv.loads (E:FEnv P tb w0 ih all n S HH gg) (hcl:Cl all D) (I:FInv w0 ρb n all (S 0) HH gg D a w t ρ pm) (hlast:Last all D t) {k:Nat} {o:Oper} (hr:Rdy all D k o) (hld:isLoad o.op=true) {h:Nat} {ob:GO} (hh:ldH (S k) o.op=some h) (hob:(HH k).get h=some ob):
  ∃p ρ' pm',FInv w0 ρb n all (S 0) HH gg D a w p ρ' pm'∧jnR ρ' pm'=jnR ρ pm∧(HH p).get h=some ob:=by
 have hk:=getElem?_lt hr.get
 have hq:=load_quiet hld
 have hpu:pureOp tb o.op=false:=by cases ho:o.op<;>rw[ho]at hld<;>first|rfl|cases hld
 have hfl:isFloat o.op=false:=by cases ho:o.op<;>rw[ho]at hld<;>first|rfl|cases hld
 obtain⟨v,hv⟩:∃v,(HH k).ver h=some v:=by
  obtain⟨p,hp,_⟩:=ob_some.1 (show Gx.ob ((HH k).t.get h) _=some ob from hob)
  exact⟨p.1,by unfold GH.ver;rw[hp];rfl⟩
 obtain⟨v1,v2⟩:=E.vrs k o h v hr.get hld hh hv
 rcases Nat.lt_or_ge k t with htk|htk
 ·
  rcases hlast with e|⟨oj,h1,h2,h3⟩
  ·omega
  have hlj:=h2
  simp only[loudF,Bool.and_eq_true]at hlj
  have hb:before (masks all) (t - 1) k=false:=by
   cases hb:before (masks all) (t - 1) k with
   |false=>rfl
   |true=>have:=hcl _ _ h3 hb hk;rw[hr.undone]at this;cases this
  have hne:t - 1≠k:=fun e=>by rw[e,hr.undone]at h3;cases h3
  have:=v2 (t - 1) oj (by omega) h1 hlj.1 hb
  rw[show t - 1+1=t by omega]at this
  exact⟨t,ρ,pm,I,rfl,by rw[<-E.same (Nat.le_of_lt htk) I.tm hv this];exact hob⟩
 ·
  have first:∀d t',t'+d=k->t<=t'->(∀j oj,t<=j->j<t'->all[j]? = some oj->loudF oj.op=false)->∃p,t<=p∧p<=k∧(∀j oj,t<=j->j<p->all[j]? = some oj->loudF oj.op=false)∧(p=k∨∃op,all[p]? = some op∧loudF op.op=true):=by
   intro d
   induction d with
   |zero=>exact fun t' e ht h=>⟨t',ht,by omega,h,.inl (by omega)⟩
   | succ d ihd =>
    intro t' e ht h
    have hget:all[t']? = some all[t']:=List.getElem?_eq_getElem (by omega)
    cases hl:loudF all[t'].op with
    |true=>exact⟨t',ht,by omega,h,.inr ⟨_,hget,hl⟩⟩
    |false=>
     refine ihd (t'+1) (by omega) (by omega) fun j oj h1 h2 hj=> ?_
     by_cases e:j=t'
     ·subst e;rw[hget]at hj;cases hj;exact hl
     ·exact h j oj h1 (by omega) hj
  obtain⟨p,hp1,hp2,hp3,hp4⟩:=first (k - t) t (by omega) (Nat.le_refl _) (fun j oj h1 h2=>by omega)
  obtain⟨ρ1,pm1,I1,e1⟩:=I.adoptTo E (p - t) t p ρ pm (by omega) (by omega) fun j oj h1 h2 hj=>by
   refine⟨hp3 j oj h1 h2 hj,fun hfj=> ?_⟩
   rcases hr.ahead E.chk hj (by omega)with h|⟨_,h⟩
   ·exact h
   ·have a1:=float_pure (tb:=tb) hfj
    have a2:=float_loud hfj
    have a3:isLoad oj.op=false:=by
     cases hq2:isLoad oj.op with
     |false=>rfl
     |true=>rw[load_quiet hq2]at a2;cases a2
    have a4:loudF oj.op=false:=by simp[loudF,hfj]
    simp[loose,a1,a2,a3,a4,hpu,hfl]at h
  refine⟨p,ρ1,pm1,I1,e1,?_⟩
  rcases hp4 with e|⟨op,hop,hlp⟩
  ·rw[e];exact hob
  ·have hlj:=hlp
   simp only[loudF,Bool.and_eq_true]at hlj
   have hpk:p<k:=by
    rcases Nat.lt_or_ge p k with h|h
    ·exact h
    ·have:p=k:=by omega
     subst this;rw[hr.get]at hop;cases hop;rw[hq]at hlj;cases hlj.1
   have hb:before (masks all) k p=false:=by
    cases hb:before (masks all) k p with
    |false=>rfl
    |true=>have:=hr.past p hb (by omega);rw[I.lou p op hop hlp]at this;omega
   rw[E.same (Nat.le_of_lt hpk) (Nat.le_of_lt hk) (v1 p op hpk hop hlj.1 hb) hv];exact hob
theorem FInv.step (E:FEnv P tb w0 ih all n S HH gg) (hcl:Cl all D) (I:FInv w0 ρb n all (S 0) HH gg D a w t ρ pm) (hlast:Last all D t) {k:Nat} {o:Oper} (hr:Rdy all D k o) {Q:Exit->Act->World->Prop} {K:Act->World->Prop}
  (hK:∀a' w' t' ρ' pm',FInv w0 ρb n all (S 0) HH gg (ins D k) a' w' t' ρ' pm'->Last all (ins D k) t'->K a' w'):Sx.wpOp P all.toArray Q k K a w:=by
 have hk:=getElem?_lt hr.get
 obtain⟨_,hdst,hoa⟩:=okOp_spec (E.op hr.get)
 have hst:=E.st hr.get
 unfold Sx.wpOp
 simp only[List.getElem?_toArray,hr.get]
 cases hp:pureOp tb o.op with
 | true =>
  have hl:loudF o.op=false:=by simp[loudF,pure_loud hp]
  have hnf:isFloat o.op=false:=by
   cases hf:isFloat o.op with
   |false=>rfl
   |true=>rw[float_pure hf]at hp;cases hp
  have F:=I.frame E hcl hr
  rcases evO1_want F hst with⟨hw,hg⟩|⟨hw,hg,hH⟩
  ·rw[if_pos hw]
   have hoa':okArgs o.op=true:=by
    rcases hoa with h|⟨c,f,h1,h2⟩
    ·exact h
    ·obtain⟨cal,xs,ts⟩:=c
     simp only at h2
     rw[h1,h2]at hp;cases hp
   obtain⟨_,v,hv,hrun⟩:=gop_pure (P:=P) E.tab F hp hoa' hg
   left
   simp only[Oper.wp,hrun w,Oper.upon]
   exact hK _ _ t ρ pm (I.plain E hcl hr hl (fun h=>by rw[hnf]at h;cases h) hv) hlast.ins
  ·rw[if_neg (by rw[hw];simp)]
   exact hK _ _ t ρ pm (I.plain E hcl hr hl (fun h=>by rw[hnf]at h;cases h) (by rw[hg];exact .un)) hlast.ins
 | false =>
  cases hf:isFloat o.op with
  | true =>
   have hl:loudF o.op=false:=by simp[loudF,hf]
   have F:=I.frame E hcl hr
   rcases float_trc (P:=P) E.tab hf F hst with⟨hw,hg,hH⟩|⟨hw,cs,a',T',len,sz,hH,hg,hC,hlen,hrun⟩
   ·rw[if_neg (by rw[hw];simp)]
    exact hK _ _ t ρ pm (I.plain E hcl hr hl (fun _=>hH) (by rw[hg];exact .un)) hlast.ins
   ·rw[if_pos hw]
    obtain⟨V,hV,hrel⟩:=hrun w
    left
    simp only[Oper.wp,hV,Oper.upon]
    have htk:t<=k:=by
     rcases Nat.lt_or_ge k t with h|h
     ·have:=I.flo k o hr.get hf h;rw[hr.undone]at this;cases this
     ·exact h
    let l:Loc:=⟨w.heap.size,0,a'.size,.cells a' T',.cells cs⟩
    have e:Ext w (w.alloc (.cells a' T')):=(Below.refl _ _).alloc (Nat.le_refl _) _
    have hρ:ρ (HH k).n=none:=I.rel.fresh _ (E.mono' htk (by omega))
    have hpm:pm (HH k).n=none:=by
     cases hq:pm (HH k).n with
     |none=>rfl
     |some l1=>
      obtain⟨i,oi,ci,h1,h2,h3,h4,h5,h6⟩:=I.only _ _ hq
      have:=E.apart (getElem?_lt h1) hk h3 hH h6.symm
      subst this
      rw[hr.undone]at h5;cases h5
    let pm':=pm.upd (HH k).n l
    have hself:pm' (HH k).n=some l:=by simp[pm',Rho.upd]
    have hoth:∀h,h≠(HH k).n->pm' h=pm h:=fun h hh=>by simp[pm',Rho.upd,hh]
    have hle:(jnR ρ pm).le (jnR ρ pm'):=fun h l1 h1=>by
     cases hr1:ρ h with
     |some l2=>rw[jnR_some hr1]at h1;rw[jnR_some hr1];exact h1
     |none=>
      rw[jnR_none hr1]at h1;rw[jnR_none hr1,hoth h (fun eh=>by subst eh;rw[hpm]at h1;cases h1)];exact h1
    have hjl:jnR ρ pm' (HH k).n=some l:=by rw[jnR_none hρ,hself]
    obtain⟨p1,p2⟩:=put_parts a o.dst V
    have old:∀h l1,pm h=some l1->l1.b<w.heap.size:=fun h l1 h1=>by
     obtain⟨i,oi,ci,q1,q2,q3,q4,q5,rfl⟩:=I.only _ _ h1
     obtain⟨l2,r1,_,_,r4,_⟩:=I.pend i oi ci q1 q2 q3 q4 q5
     rw[h1]at r1;cases r1
     exact(Array.getElem?_eq_some_iff.1 r4).1
    refine hK _ _ t ρ pm' ⟨I.tm,fun j oj hj hlj=> ?_,fun j oj hj hfj hlt=>ins_of (I.flo j oj hj hfj hlt),I.rel.ext' e,I.up,by rw[p1];exact I.defers,by rw[p2];exact I.size,hr.slot E.chk hcl hdst I.size hle I.slot (hrel _ hjl),fun i oi ci h1 h2 h3 h4 h5=> ?_,fun h l1 hp1=> ?_,fun h h' l1 l2 h1 h2 hb=> ?_⟩ hlast.ins
    ·have e:j≠k:=fun e=>by subst e;rw[hr.get]at hj;cases hj;rw[hl]at hlj;cases hlj
     rw[ins_ne e];exact I.lou j oj hj hlj
    ·by_cases ei:i=k
     ·subst ei
      rw[hH]at h3
      have:=new_cells h3
      subst this
      refine⟨l,hself,.inl I.rel.ext.size,?_,heap_alloc_new w _,⟨a',T',heap_alloc_new w _,rfl,by show 0+cs.length<=a'.size;omega,fun j g hg=> ?_⟩,rfl⟩
      ·rintro⟨h,o',l',hg,hl',eb⟩
       obtain⟨l2,r1,_,r3⟩:=I.rel.live h o' hg
       rw[hl']at r1;cases r1
       have:=r3.lt
       rw[eb]at this
       exact absurd this (Nat.lt_irrefl _)
      ·obtain⟨x,hx,hrx⟩:=hC.r.get hg
       rw[Array.getElem?_toList]at hx
       exact⟨x,by show a'[0+j]? = some x;simpa using hx,hrx.le hle,getOne hC.one hx⟩
     ·rw[ins_ne ei]at h5
      obtain⟨l1,a1,a2,a3,a4,a5,a6⟩:=I.pend i oi ci h1 h2 h3 h4 h5
      have hne:(HH i).n≠(HH k).n:=fun eh=>ei (E.apart (getElem?_lt h1) hk h3 hH eh)
      have hb:=old _ _ a1
      exact⟨l1,by rw[hoth _ hne];exact a1,a2,a3,by rw[e.block _ hb];exact a4,a5.move hle (e.block _ hb),a6⟩
    ·by_cases eh:h=(HH k).n
     ·exact⟨k,o,cs,hr.get,hf,hH,htk,ins_self D k,eh⟩
     ·rw[hoth h eh]at hp1
      obtain⟨i,oi,ci,q1,q2,q3,q4,q5,q6⟩:=I.only h l1 hp1
      exact⟨i,oi,ci,q1,q2,q3,q4,ins_of q5,q6⟩
    ·by_cases eh:h=(HH k).n
     ·by_cases eh':h'=(HH k).n
      ·rw[eh,eh']
      ·rw[hoth h' eh']at h2
       subst eh;rw[hself]at h1;cases h1
       have:=old _ _ h2
       rw[<-hb]at this
       exact absurd this (Nat.lt_irrefl _)
     ·rw[hoth h eh]at h1
      by_cases eh':h'=(HH k).n
      ·subst eh';rw[hself]at h2;cases h2
       have:=old _ _ h1
       rw[hb]at this
       exact absurd this (Nat.lt_irrefl _)
      ·rw[hoth h' eh']at h2
       exact I.inj h h' l1 l2 h1 h2 hb
  | false =>
   cases hld:isLoad o.op with
   | true =>
    have hl:loudF o.op=false:=by simp[loudF,load_quiet hld]
    have F0:=I.frame E hcl hr
    rcases evO1_want F0 hst with⟨hw,hg⟩|⟨hw,hg,hH⟩
    ·rw[if_pos hw]
     have hopl:∃T x,o.op = .load T x:=by
      cases ho:o.op<;>rw[ho]at hld<;>first|exact⟨_,_,rfl⟩|cases hld
     obtain⟨T,x,hox⟩:=hopl
     rw[hox]at hg
     obtain⟨va,hva,hg⟩:=ob_some.1 (show ob (gev (restr (S k) (o.looksAt all.toArray)) x) _=some (gg k,HH (k+1))from hg)
     obtain⟨g',hld',hk'⟩:=ob_some.1 hg
     have eg:g'=gg k:=by
      have:=congrArg (fun o=>o.map Prod.fst) (show some (g',HH k)=some (gg k,HH (k+1))from hk')
      simpa using this
     rw[eg]at hld'
     obtain⟨q,hq,hc⟩:=ob_some.1 (show ob va.asP _=some (gg k)from hld')
     obtain⟨cs,hcs,hc⟩:=ob_some.1 hc
     have hget:=GH.cells_eq.1 hcs
     have hxt:∀s,x = .tmp s->s∈o.looksAt all.toArray:=fun s e=>List.mem_append_left _ (List.mem_filterMap.2 ⟨.tmp s,by rw[hox,e];simp[Op.operands],rfl⟩)
     have hva':gev (S k) x=some va:=by
      rw[<-hva]
      cases x with
      |tmp s=>
       show glk (S k) s=glk (restr (S k) (o.looksAt all.toArray)) s
       rw[glk_restr,if_pos (hxt s rfl)]
      |_=>rfl
     have hh:ldH (S k) o.op=some q.1:=by
      rw[hox]
      show ob (gev (S k) x) _=_
      rw[hva']
      show ob va.asP _=_
      rw[hq];rfl
     obtain⟨p,ρ1,pm1,I1,hj1,hgp⟩:=I.loads E hcl hlast hr hld hh hget
     have hv0:=gev_ok F0 hva
     have hv1:Rl ρ1 va (a.eval x):=by
      rw[asP_eq hq]at hv0 ⊢
      obtain⟨l,hl,e⟩:=hv0.ptr_inv
      obtain⟨l1,hl1,_⟩:=I1.rel.live _ _ hgp
      rw[<-hj1,jnR_some hl1]at hl
      cases hl
      rw[e];exact .ptr _ hl1
     have hload:vLoad tb T va (HH p)=some (gg k):=by
      show ob va.asP _=_
      rw[hq]
      show ob ((HH p).cells q.1) _=_
      rw[GH.cells_eq.2 hgp]
      exact hc
     obtain⟨X,_,l,_,_,_,hX,hrun⟩:=vLoad_ok (P:=P) E.tab I1.rel hv1 hload
     left
     have hr1:(execOp a.eval o).run P w = .ok (.value X) w:=by
      have:=hrun w rfl
      obtain⟨d,op,ty,pos,aft,gd⟩:=o
      simp only at hox
      subst hox
      simp[execOp,this]
     simp only[Oper.wp,hr1,Oper.upon]
     exact hK _ _ t ρ pm (I.plain E hcl hr hl (fun h=>by rw[hf]at h;cases h) (by rw[<-hj1];exact hX.le jnR_left)) hlast.ins
    ·rw[if_neg (by rw[hw];simp)]
     exact hK _ _ t ρ pm (I.plain E hcl hr hl (fun h=>by rw[hf]at h;cases h) (by rw[hg];exact .un)) hlast.ins
   |false=>
   obtain⟨ρ1,pm1,I1,hj1⟩:=I.reach E hcl hlast hr hp hf hld
   have F:=I1.frame' E hcl hr
   cases hlo:loudOp o.op with
   | false =>
    have hl:loudF o.op=false:=by simp[loudF,hlo]
    have fin:∀v,Rl ρ1 (gg k) v->FInv w0 ρb n all (S 0) HH gg (ins D k) (a.put o.dst v) w t ρ pm:=fun v hv=>
     I.plain E hcl hr hl (fun h=>by rw[hf]at h;cases h) (by rw[<-hj1];exact hv.le jnR_left)
    rcases evO1_ok E.tab (E.call w0) (E.op hr.get) F I1.rel hst with⟨hw,hs⟩|⟨hw,hg,hH⟩
    ·rw[if_pos hw]
     left
     rcases hs with⟨_,_,_,_,v,hv,hrun⟩|⟨_,_,_,v,_,_,_,_,_,hv,hrun⟩|⟨_,_,_,v,hv,hrun⟩|⟨hq,_⟩
     ·simp only[Oper.wp,hrun w,Oper.upon];exact hK _ _ t ρ pm (fin v hv) hlast.ins
     ·simp only[Oper.wp,hrun w rfl,Oper.upon];exact hK _ _ t ρ pm (fin v hv) hlast.ins
     ·simp only[Oper.wp,hrun,Oper.upon];exact hK _ _ t ρ pm (fin v hv) hlast.ins
     ·rw[hlo]at hq;cases hq
    ·rw[if_neg (by rw[hw];simp)]
     exact hK _ _ t ρ pm (fin undef (by rw[hg];exact .un)) hlast.ins
   | true =>
    have hl:loudF o.op=true:=by simp[loudF,hlo,hf]
    have hkn:∀(i:Nat) (oi:Oper) (ci:List GV),all[i]? = some oi->isFloat oi.op=true->i≠k:=fun i oi ci h1 h2 e=>by
     subst e;rw[hr.get]at h1;cases h1;rw[hf]at h2;cases h2
    have lou':∀j o,all[j]? = some o->loudF o.op=true->(ins D k j=true↔j<k+1):=fun j oj hj hlj=>by
     by_cases e:j=k
     ·subst e;simp[ins_self]
     ·rw[ins_ne e,I1.lou j oj hj hlj];omega
    have flo':∀j o,all[j]? = some o->isFloat o.op=true->j<k+1->ins D k j=true:=fun j oj hj hfj hlt=>by
     have:=hkn j oj [] hj hfj
     exact ins_of (I1.flo j oj hj hfj (by omega))
    have only':∀h l,pm1 h=some l->∃i o cs,all[i]? = some o∧isFloat o.op=true∧HH (i+1)=(HH i).new (.cells cs)∧k+1<=i∧ins D k i=true∧h=(HH i).n:=fun h l hp1=>by
     obtain⟨i,oi,ci,q1,q2,q3,q4,q5,q6⟩:=I1.only h l hp1
     have:=hkn i oi ci q1 q2
     exact⟨i,oi,ci,q1,q2,q3,by omega,ins_of q5,q6⟩
    have hlast':Last all (ins D k) (k+1):= .inr ⟨o,by simpa using hr.get,hl,by simp[ins_self]⟩
    rcases evO1_ok E.tab (E.call ⟨w,Held ρ1 (HH k)⟩) (E.op hr.get) F I1.rel.rebase hst with⟨hw,hs⟩|⟨hw,hg,hH⟩
    ·rw[if_pos hw]
     left
     rcases hs with⟨hq,_⟩|⟨hq,_⟩|⟨hq,_⟩|⟨_,hrun⟩
     ·rw[hlo]at hq;cases hq
     ·rw[hlo]at hq;cases hq
     ·rw[hlo]at hq;cases hq
     refine nwp_Q (hrun _ fun ρ2 w2 v hle R2 hv=>hK _ _ (k+1) ρ2 pm1 ?_ hlast')
     obtain⟨R3,hframe⟩:=I1.rel.back R2
     have hj:(jnR ρ1 pm1).le (jnR ρ2 pm1):=fun h l h1=>by
      cases hr1:ρ1 h with
      |some l2=>rw[jnR_some hr1]at h1;cases h1;exact jnR_some (hle _ _ hr1)
      |none=>
       rw[jnR_none hr1]at h1
       obtain⟨i,oi,ci,q1,q2,q3,q4,q5,rfl⟩:=only' h l h1
       rw[jnR_none (R2.fresh _ (E.mono' q4 (Nat.le_of_lt (getElem?_lt q1))))];exact h1
     obtain⟨p1,p2⟩:=put_parts a o.dst v
     refine⟨hk,lou',flo',R3,Rho.le_trans I1.up hle,by rw[p1];exact I1.defers,by rw[p2];exact I1.size,hr.slot E.chk hcl hdst I1.size hj I1.slot (hv.le jnR_left),fun i oi ci h1 h2 h3 h4 h5=> ?_,only',I1.inj⟩
     rw[ins_ne (hkn i oi ci h1 h2)]at h5
     obtain⟨l1,a1,a2,a3,a4,a5,a6⟩:=I1.pend i oi ci h1 h2 h3 (by omega) h5
     have hb:l1.b<w.heap.size:=(Array.getElem?_eq_some_iff.1 a4).1
     refine⟨l1,a1,a2,?_,by rw[hframe _ hb a3];exact a4,a5.move hj (hframe _ hb a3),a6⟩
     rintro⟨h,o',l',hg,hl',eb⟩
     obtain⟨l2,r1,r2,_⟩:=R2.live h o' hg
     rw[hl']at r1;cases r1
     rw[eb]at r2
     rcases r2 with r2|r2
     ·have:w.heap.size<=l1.b:=r2
      omega
     ·exact a3 r2
    ·rw[if_neg (by rw[hw];simp)]
     obtain⟨p1,p2⟩:=put_parts a o.dst undef
     refine hK _ _ (k+1) ρ1 pm1 ⟨hk,lou',flo',by rw[hH];exact I1.rel,I1.up,by rw[p1];exact I1.defers,by rw[p2];exact I1.size,hr.slot E.chk hcl hdst I1.size (Rho.le_refl _) I1.slot (by rw[hg];exact .un),fun i oi ci h1 h2 h3 h4 h5=> ?_,only',I1.inj⟩ hlast'
     rw[ins_ne (hkn i oi ci h1 h2)]at h5
     rw[hH]
     exact I1.pend i oi ci h1 h2 h3 (by omega) h5
theorem FInv.done (E:FEnv P tb w0 ih all n S HH gg) (I:FInv w0 ρb n all (S 0) HH gg D a w t ρ pm) (hall:∀i,i<all.length->D i=true):∃ρ',ρb.le ρ'∧Rel w0 ρ' (HH all.length) w∧FrOk ρ' n (S all.length) a:=by
 obtain⟨ρ1,pm1,I1,_⟩:=I.adoptTo E (all.length - t) t all.length ρ pm (by have:=I.tm;omega) (Nat.le_refl _) fun j oj h1 h2 hj=>by
  refine⟨?_,fun _=>hall j h2⟩
  cases hl:loudF oj.op with
  |false=>rfl
  |true=>have:=(I.lou j oj hj hl).1 (hall j h2);omega
 refine⟨ρ1,I1.up,I1.rel,I1.defers,I1.size,fun s g hg=> ?_⟩
 have hpm:∀h,pm1 h=none:=fun h=>by
  cases hq:pm1 h with
  |none=>rfl
  |some l=>
   obtain⟨i,oi,ci,h1,_,_,h4,_⟩:=I1.only h l hq
   have:=getElem?_lt h1;omega
 have hj:jnR ρ1 pm1=ρ1:=by
  funext h
  unfold jnR
  rw[hpm]
  cases ρ1 h<;>rfl
 have hs:SlD all (S 0) gg D s g:=by
  rcases trc_slot E.trc all.length (Nat.le_refl _) hg with⟨i,o,h1,h2,h3,h4,h5⟩|⟨h1,h2⟩
  ·refine .inl ⟨i,o,hall i h1,h2,h3,h4,fun j oj hD hj hd=> ?_⟩
   rcases Nat.lt_or_ge i j with h|h
   ·exact absurd hd (h5 j oj h (getElem?_lt hj) hj)
   ·exact h
  ·exact .inr ⟨fun j oj hD hj=>h1 j oj (getElem?_lt hj) hj,h2⟩
 have:=I1.slot s g hs
 rwa[hj]at this
theorem float_any (E:FEnv P tb w0 ih all n S HH gg) {Q:Exit->Act->World->Prop} (hQ:∀ρ' a' w',ρb.le ρ'->Rel w0 ρ' (HH all.length) w'->FrOk ρ' n (S all.length) a'->Q .normal a' w'):
  ∀(fuel:Nat) (L:List Nat) (listed:Array Bool) (a:Act) (w:World) (t:Nat) (ρ pm:Rho),L.length<=fuel->listed.size=all.length->(∀i,i<all.length->listed.getD i false=false->i∈L)->Cl all (fun j=>listed.getD j false)->
  FInv w0 ρb n all (S 0) HH gg (fun j=>listed.getD j false) a w t ρ pm->Last all (fun j=>listed.getD j false) t->Sx.wpAny P .any all.toArray Q fuel listed a w:=by
 intro fuel
 induction fuel with
 | zero =>
  intro L listed a w t ρ pm hlen hsz hmem hcl I hlast
  have hL:L=[]:=List.eq_nil_of_length_eq_zero (by omega)
  subst hL
  have hall:∀i,i<all.length->listed.getD i false=true:=fun i hi=>by
   cases hq:listed.getD i false with
   |true=>rfl
   |false=>have:=hmem i hi hq;simp at this
  refine⟨?_,?_⟩
  ·rw[List.eq_nil_iff_forall_not_mem]
   intro i hi
   obtain⟨h0,o,ho,_⟩:=mem_ready.1 hi
   have hlt:i<all.length:=by have:=(Array.getElem?_eq_some_iff.1 ho).1;simpa using this
   have:=hall i hlt
   have hs:i<listed.size:=by omega
   simp[hs]at this h0
   rw[h0]at this;cases this
  ·obtain⟨ρ',h0,h1,h2⟩:=I.done E hall
   exact hQ ρ' a w h0 h1 h2
 | succ fuel ihf =>
  intro L listed a w t ρ pm hlen hsz hmem hcl I hlast
  refine⟨fun hrd=> ?_,fun k hk=> ?_⟩
  ·have hall:∀i,i<all.length->listed.getD i false=true:=by
    intro i
    induction i using Nat.strongRecOn with
    | ind i ihi =>
     intro hi
     cases hq:listed.getD i false with
     |true=>rfl
     | false =>
      exfalso
      have ho:all[i]? = some all[i]:=List.getElem?_eq_getElem hi
      have hmr:i∈Region.ready .any all.toArray listed:=by
       refine mem_ready.2 ⟨?_,all[i],by simp,fun e he hb=> ?_⟩
       ·have hs:i<listed.size:=by omega
        simp[hs]at hq ⊢;exact hq
       ·have hee:e.on∈edges all[i]:=List.mem_map.2 ⟨e,List.mem_filter.2 ⟨by simpa using he,hb⟩,rfl⟩
        have:=(E.chk.edge i _ ho e.on hee).1
        exact ihi e.on this (by omega)
      rw[hrd]at hmr
      simp at hmr
   obtain⟨ρ',h0,h1,h2⟩:=I.done E hall
   exact hQ ρ' a w h0 h1 h2
  ·obtain⟨h0,o,ho',hedge⟩:=mem_ready.1 hk
   have ho:all[k]? = some o:=by simpa using ho'
   have hkl:k<all.length:=getElem?_lt ho
   have hks:k<listed.size:=by omega
   have h0':listed.getD k false=false:=by simp[hks]at h0 ⊢;exact h0
   have hr:Rdy all (fun j=>listed.getD j false) k o:=by
    refine⟨ho,h0',fun j hb hj=> ?_⟩
    obtain⟨_,e,he,hej⟩:=E.chk.trans k o ho j hb hj
    obtain⟨ed,hed,rfl⟩:=List.mem_map.1 he
    obtain⟨hed1,hed2⟩:=List.mem_filter.1 hed
    have hl:=hedge ed (by simpa using hed1) hed2
    rcases hej with rfl|hej
    ·exact hl
    ·exact hcl _ _ hl hej hj
   have hD:(fun j=>(listed.setIfInBounds k true).getD j false)=ins (fun j=>listed.getD j false) k:=by
    funext j
    by_cases e:j=k
    ·subst e;rw[ins_self];simp[hks]
    ·rw[ins_ne e]
     exact getD_set_ne false (Ne.symm e)
   refine I.step E hcl hlast hr fun a' w' t' ρ' pm' I' hlast'=> ?_
   refine ihf (L.erase k) _ a' w' t' ρ' pm' ?_ (by simp[hsz]) (fun i hi hq=> ?_) ?_ (by rw[hD];exact I') (by rw[hD];exact hlast')
   ·have hm:=hmem k hkl h0'
    rw[List.length_erase_of_mem hm]
    omega
   ·have e:i≠k:=fun e=>by
     subst e
     have:=congrFun hD i
     rw[ins_self]at this
     rw[hq]at this;cases this
    have:listed.getD i false=false:=by
     have:=congrFun hD i
     rw[ins_ne e]at this
     rw[<-this];exact hq
    exact(List.mem_erase_of_ne e).2 (hmem i hi this)
   ·rw[hD]
    intro j k' hj hb hk'
    by_cases e:j=k
    ·subst e;exact ins_of (hr.past k' hb hk')
    ·rw[ins_ne e]at hj
     exact ins_of (hcl j k' hj hb hk')
theorem float_region (hG:TabOk P tb) (hcall:∀w0,CallOk P w0 ih) (hm:P.follows .mixedOrders=true) {ops:List Oper} {id:Nat} (hops:ops.all (okOp n)=true) (hc:chkF tb ops (masks ops)=true) {k:GS->RS} {s:GS} {out:Out} {ρ:Rho} {a:Act} {w:World} {Q:Exit->Act->World->Prop} (F:FrOk ρ n s.σ a) (R:Rel w0 ρ s.H w) (h:(evOps tb ih ops k ops s=some out∧ordered ops isLoad=true)∨evW tb ih ops (masks ops) k ops 0 [] [] s=some out)
  (hk:∀s' ρ' a' w',k s'=some out->ρ.le ρ'->FrOk ρ' n s'.σ a'->Rel w0 ρ' s'.H w'->Q .normal a' w'):(Code.region id ops.toArray true).wpr none P Q a w:=by
 have hnd:ops.all noDefer=true:=List.all_eq_true.2 fun o hmo=>(okOp_spec (List.all_eq_true.1 hops o hmo)).1
 obtain⟨S,HH,gg,e1,e2,T,hvrs,hout⟩:∃S HH gg,S 0=s.σ∧HH 0=s.H∧Trc tb ih ops ops S HH gg∧(∀k ok h v,ops[k]? = some ok->isLoad ok.op=true->ldH (S k) ok.op=some h->(HH k).ver h=some v->
   (∀j oj,j<k->ops[j]? = some oj->loudOp oj.op=true->before (masks ops) k j=false->(HH j).ver h=some v)∧(∀j oj,k<j->ops[j]? = some oj->loudOp oj.op=true->before (masks ops) j k=false->(HH (j+1)).ver h=some v))∧k ⟨S ops.length,HH ops.length⟩=some out:=by
  rcases h with⟨h,ho⟩|h
  ·obtain⟨S,HH,gg,e1,e2,T,hout⟩:=evOps_trc ops s h
   refine⟨S,HH,gg,e1,e2,T,fun k ok h v hk hl _ _=>⟨fun j oj hjk hj hlj hb=> ?_,fun j oj hjk hj hlj hb=> ?_⟩,hout⟩
   ·rcases ordered_spec ho hk hj hl hlj with h1|h1
    ·rw[h1]at hb;cases hb
    ·have:=((chkF_spec hc).trans j oj hj k h1 (getElem?_lt hk)).1;omega
   ·rcases ordered_spec ho hk hj hl hlj with h1|h1
    ·have:=((chkF_spec hc).trans k ok hk j h1 (getElem?_lt hj)).1;omega
    ·rw[h1]at hb;cases hb
  ·obtain⟨S,HH,gg,e1,e2,T,V,hout⟩:=evW_trc ops 0 [] [] s h
   exact⟨S,HH,gg,e1,e2,T,fun k ok h v hk hl hh hv=>by have:=V.lo k ok h v hk hl hh hv;simpa using this,hout⟩
 rw[<-e1]at F
 rw[<-e2]at R
 have E:FEnv P tb w0 ih ops n S HH gg:=⟨hG,hcall,hops,chkF_spec hc,T,hvrs,trc_ghost hG (hcall w0) hops T F R _ (Nat.le_refl _)⟩
 have hD:∀j,(Array.replicate ops.length false).getD j false=false:=fun j=>by
  by_cases h:j<ops.length<;>simp[h]
 refine wpr_region_any hnd hm ?_
 have hsz:ops.toArray.size=ops.length:=by simp
 rw[hsz]
 refine float_any (ρb:=ρ) E (fun ρ' a' w' h0 h1 h2=>hk ⟨S ops.length,HH ops.length⟩ ρ' a' w' hout h0 h2 h1) ops.length (List.range ops.length) _ a _ 0 ρ (fun _=>none) (by simp) (by simp) (fun i hi _=>List.mem_range.2 hi) (fun j k' hj=>by simp only[hD]at hj;cases hj) ?_ (.inl rfl)
 refine⟨Nat.zero_le _,fun j o _ _=>by simp only[hD];simp,fun j o _ _ h=>absurd h (Nat.not_lt_zero j),R.ext' ((Below.refl _ _).drew),Rho.le_refl _,F.defers,F.size,fun s' g hs=> ?_,fun i o cs _ _ _ _ h5=>(by simp only[hD]at h5;cases h5),fun h l hp=>(by cases hp),fun h h' l l' hp=>(by cases hp)⟩
 rcases hs with⟨i,o,h1,_⟩|⟨_,h2⟩
 ·simp only[hD]at h1;cases h1
 ·exact(F.slot s' g h2).le jnR_left
end
end Go.Gx
end
section
namespace Go.Gx
open Go Go.Sx Go.RowKit

def okC (tb:TB) (n:Nat):Code->Bool
 | .skip | .exit _ | .ret=>true
 | .region _ ops dr=>ops.toList.all (okOp n)&&(!dr||chkF tb ops.toList (masks ops.toList))
 | .seq a b=>okC tb n a&&okC tb n b
 | .cond _ a b=>okC tb n a&&okC tb n b
 | .block _ b=>okC tb n b
 | .loop b=>okC tb n b
 |_=>false
section
variable {P:Program} {G:GP} {tb:TB} {Fs:FT} {w0:Base}

def LoopWp (P:Program) (body:Code) (Q:Exit->Act->World->Prop) (a:Act) (w:World):Prop:=
 ∀(b:Frame) (k:List Item) (cs:List Frame),b.roundOf=(FR none).round->(FR none).fn b.fn->(FR none).room (cs.length+1+0)->
  ∃e a' w',Q e a' w'∧ArrivesIn (Machine.fenced P (FR none)) P (lone (b.atR a (.code body :: .inLoop body::k)) cs w) b k cs e a' w'
theorem LoopWp.loop {body:Code} {Q:Exit->Act->World->Prop} {a:Act} {w:World} (h:LoopWp P body Q a w):(Code.loop body).wpr none P Q a w:=by
 intro b k cs hro hb hr
 obtain⟨e,a',w',hq,harr⟩:=h b k cs hro hb hr
 exact⟨e,a',w',hq,.of_steps (.one (fenced_calm hb hr rfl) stepR_loop) harr⟩
theorem LoopWp.round {body:Code} {Q:Exit->Act->World->Prop} {a:Act} {w:World} (h:body.wpr none P (Exit.then (LoopWp P body Q) Q) a w):LoopWp P body Q a w:=by
 intro b k cs hro hb hr
 obtain⟨e,a₁,w₁,hq,harr⟩:=h b (.inLoop body::k) cs hro hb hr
 cases e with
 |normal=>
  obtain⟨e₂,a₂,w₂,hq₂,harr₂⟩:=hq b k cs hro hb hr
  exact⟨e₂,a₂,w₂,hq₂,.of_steps (StepsIn.trans harr (.one (fenced_calm hb hr rfl) stepR_inLoop)) harr₂⟩
 |exit id=>exact⟨_,a₁,w₁,hq,.pass (x:= .inLoop body) rfl (fun _ _=> .inl (by simp)) harr⟩
 |goto l=>exact⟨_,a₁,w₁,hq,.pass (x:= .inLoop body) rfl (fun _ _=> .inl (by simp)) harr⟩
 |ret=>exact⟨_,a₁,w₁,hq,.pass (x:= .inLoop body) rfl (fun _ _=> .inl (by simp)) harr⟩
 |panic ch=>exact⟨_,a₁,w₁,hq,.pass (x:= .inLoop body) rfl (fun _ _=> .inl (by simp)) harr⟩
 |outgrown=>exact⟨_,a₁,w₁,hq,.pass (x:= .inLoop body) rfl (fun _ _=> .inl (by simp)) harr⟩

noncomputable def exitOut (cx:Cx) (id:Nat) (s:GS):RS:=some ⟨.exit id,packL s.σ (keysOf (envGet cx.env id)),s.H⟩
structure Leads (w0:Base) (tb:TB) (n:Nat) (cx:Cx) (k:GS->RS) (out:Out) (ρ:Rho) (Q:Exit->Act->World->Prop):Prop where
 k:∀s' ρ' a' w',k s'=some out->ρ.le ρ'->FrOk ρ' n s'.σ a'->Rel w0 ρ' s'.H w'->Q .normal a' w'
 x:∀id s' ρ' a' w',exitOut cx id s'=some out->ρ.le ρ'->FrOk ρ' n s'.σ a'->Rel w0 ρ' s'.H w'->Q (.exit id) a' w'
 r:∀s' ρ' a' w',retR tb cx s'=some out->ρ.le ρ'->FrOk ρ' n s'.σ a'->Rel w0 ρ' s'.H w'->Q .ret a' w'
def LoopOk (P:Program) (w0:Base) (tb:TB) (lp:LH):Prop:=∀b cx vs H out,lp b cx vs H=some out->∀n σ ρ a w Q,okC tb n b=true->unpackL (keysOf (live (.loop b) 0 cx)) vs some=some σ->FrOk ρ n σ a->Rel w0 ρ H w->
 (∀id s' ρ' a' w',exitOut cx id s'=some out->ρ.le ρ'->FrOk ρ' n s'.σ a'->Rel w0 ρ' s'.H w'->Q (.exit id) a' w')->
 (∀s' ρ' a' w',retR tb cx s'=some out->ρ.le ρ'->FrOk ρ' n s'.σ a'->Rel w0 ρ' s'.H w'->Q .ret a' w')->LoopWp P b Q a w
theorem retR_e {cx:Cx} {s:GS} {out:Out} (h:retR tb cx s=some out):out.e = .ret:=by
 obtain⟨vs,_,h⟩:=ob_some.1 (show ob (resvs tb s cx.res) _=some out from h)
 cases h;rfl
theorem exitOut_e {cx:Cx} {id:Nat} {s:GS} {out:Out} (h:exitOut cx id s=some out):out.e = .exit id:=by cases h;rfl
theorem retN_e {ks:List Nat} {s:GS} {out:Out} (h:retN ks s=some out):out.e = .normal∧out.vs=packL s.σ ks∧out.H=s.H:=by cases h;exact⟨rfl,rfl,rfl⟩
theorem join_k {n:Nat} {cx:Cx} {ks:List Nat} {k:GS->RS} {o out:Out} {ρ:Rho} {Q:Exit->Act->World->Prop} (L:Leads w0 tb n cx k out ρ Q) (h:unpackL ks o.vs (fun σ=>k ⟨σ,o.H⟩)=some out) {s':GS} {ρ':Rho} {a':Act} {w':World}
  (hv:o.vs=packL s'.σ ks) (hH:o.H=s'.H) (hle:ρ.le ρ') (F:FrOk ρ' n s'.σ a') (R:Rel w0 ρ' s'.H w'):Q .normal a' w':=by
 obtain⟨σ,h1,h2⟩:=unpackL_some h
 rw[hv]at h1
 exact L.k ⟨σ,o.H⟩ ρ' a' w' h2 hle (pack_ok F h1) (by rw[hH];exact R)
theorem evC_ok {ch:CH} {lp:LH} (hG:TabOk P tb) (hm:P.follows .mixedOrders=true) (hcall:∀w0,CallOk P w0 ch) (hloop:LoopOk P w0 tb lp) {n:Nat}:∀(c:Code) (m:Nat) (cx:Cx) (k:GS->RS) (s:GS) (out:Out) (ρ:Rho) (a:Act) (w:World) (Q:Exit->Act->World->Prop),
  okC tb n c=true->evC tb ch lp c m cx k s=some out->FrOk ρ n s.σ a->Rel w0 ρ s.H w->Leads w0 tb n cx k out ρ Q->c.wpr none P Q a w
 | .skip,m,cx,k,s,out,ρ,a,w,Q,_,h,F,R,L=>wpr_skip (L.k s ρ a w h (Rho.le_refl _) F R)
 | .region id ops dr, m, cx, k, s, out, ρ, a, w, Q, ho, h, F, R, L => by
  have ho':ops.toList.all (okOp n)=true∧(!dr||chkF tb ops.toList (masks ops.toList))=true:=by simpa [okC]using ho
  have hnd:ops.toList.all noDefer=true:=List.all_eq_true.2 fun o hmo=>(okOp_spec (List.all_eq_true.1 ho'.1 o hmo)).1
  have h':Bool.casesOn (motive:=fun _=>RS) (wild dr ops.toList) (evOps tb ch ops.toList k ops.toList s) (evW tb ch ops.toList (masks ops.toList) k ops.toList 0 [] [] s)=some out:=h
  have e:ops=ops.toList.toArray:=by simp
  cases dr with
  |false=>
   rw[e]
   exact wpr_region_lit hnd (evOps_ok hG (hcall w0) ops.toList s ρ a w ho'.1 F R h' L.k)
  | true =>
   rw[e]
   have hF:chkF tb ops.toList (masks ops.toList)=true:=by simpa using ho'.2
   have h2:(evOps tb ch ops.toList k ops.toList s=some out∧ordered ops.toList isLoad=true)∨evW tb ch ops.toList (masks ops.toList) k ops.toList 0 [] [] s=some out:=by
    cases hwl:wild true ops.toList with
    |true=>rw[hwl]at h';exact .inr h'
    |false=>
     rw[hwl]at h'
     have:(!ordered ops.toList isLoad)=false:=hwl
     exact .inl ⟨h',by simpa using this⟩
   exact float_region hG hcall hm ho'.1 hF F R h2 L.k
 | .seq x y,m,cx,k,s,out,ρ,a,w,Q,ho,h,F,R,L=>by
  have ho':okC tb n x=true∧okC tb n y=true:=by simpa [okC]using ho
  refine wpr_seq (evC_ok hG hm hcall hloop x (live y m cx) cx (evC tb ch lp y m cx k) s out ρ a w _ ho'.1 h F R ⟨fun s' ρ' a' w' hk hle F' R'=> ?_,L.x,L.r⟩)
  exact evC_ok hG hm hcall hloop y m cx k s' out ρ' a' w' Q ho'.2 hk F' R' ⟨fun s2 ρ2 a2 w2 h1 h2=>L.k s2 ρ2 a2 w2 h1 (Rho.le_trans hle h2),fun id s2 ρ2 a2 w2 h1 h2=>L.x id s2 ρ2 a2 w2 h1 (Rho.le_trans hle h2),fun s2 ρ2 a2 w2 h1 h2=>L.r s2 ρ2 a2 w2 h1 (Rho.le_trans hle h2)⟩
 | .cond x thn els, m, cx, k, s, out, ρ, a, w, Q, ho, h, F, R, L => by
  have ho':okC tb n thn=true∧okC tb n els=true:=by simpa [okC]using ho
  obtain⟨v,hv,h⟩:=ob_some.1 (show ob (gev s.σ x) _=some out from h)
  obtain⟨b,hb,h⟩:=ob_some.1 h
  obtain⟨o,h1,h⟩:=ob_some.1 (show ob _ (fun o=>Ex.casesOn (motive:=fun _=>RS) o.e (unpackL (keysOf m) o.vs fun σ=>k ⟨σ,o.H⟩) (fun _=>some o) (some o))=some out from h)
  have hx:=gev_ok F hv
  rw[asB_eq hb]at hx
  have L':Leads w0 tb n cx (retN (keysOf m)) o ρ Q:=by
   refine⟨fun s' ρ' a' w' hk hle F' R'=> ?_,fun id s' ρ' a' w' hk hle F' R'=> ?_,fun s' ρ' a' w' hk hle F' R'=> ?_⟩
   ·obtain⟨e1,e2,e3⟩:=retN_e hk
    rw[e1]at h
    exact join_k L h e2 e3 hle F' R'
   ·have e1:=exitOut_e hk
    rw[e1]at h;cases h
    exact L.x id s' ρ' a' w' hk hle F' R'
   ·have e1:=retR_e hk
    rw[e1]at h;cases h
    exact L.r s' ρ' a' w' hk hle F' R'
  refine wpr_cond_split hx.bool_inv (fun hbt=> ?_) (fun hbf=> ?_)
  ·rw[hbt]at h1
   exact evC_ok hG hm hcall hloop thn m cx (retN (keysOf m)) s o ρ a w Q ho'.1 h1 F R L'
  ·rw[hbf]at h1
   exact evC_ok hG hm hcall hloop els m cx (retN (keysOf m)) s o ρ a w Q ho'.2 h1 F R L'
 | .block id b, m, cx, k, s, out, ρ, a, w, Q, ho, h, F, R, L => by
  have ho':okC tb n b=true:=by simpa [okC]using ho
  obtain⟨o2,h2,h⟩:=ob_some.1 (show ob (nB id (evC tb ch lp b m ⟨cx.res,cx.retm,(id,m)::cx.env⟩ (retN (keysOf m)) s)) (fun o=>Ex.casesOn (motive:=fun _=>RS) o.e (unpackL (keysOf m) o.vs fun σ=>k ⟨σ,o.H⟩) (fun _=>some o) (some o))=some out from h)
  obtain⟨o,h1,h2⟩:=ob_some.1 (show ob (evC tb ch lp b m ⟨cx.res,cx.retm,(id,m)::cx.env⟩ (retN (keysOf m)) s) (fun o=>Ex.casesOn (motive:=fun _=>RS) o.e (some o) (fun i=>Bool.casesOn (motive:=fun _=>RS) (Nat.beq i id) (some o) (some ⟨.normal,o.vs,o.H⟩)) (some o))=some o2 from h2)
  refine wpr_block (evC_ok hG hm hcall hloop b m _ (retN (keysOf m)) s o ρ a w _ ho' h1 F R ⟨fun s' ρ' a' w' hk hle F' R'=> ?_,fun i s' ρ' a' w' hk hle F' R'=> ?_,fun s' ρ' a' w' hk hle F' R'=> ?_⟩)
  ·obtain⟨e1,e2,e3⟩:=retN_e hk
   rw[e1]at h2;cases h2
   rw[e1]at h
   exact join_k L h e2 e3 hle F' R'
  ·have e1:=exitOut_e hk
   rw[e1]at h2
   by_cases hi:i=id
   ·subst hi
    have hb:Nat.beq i i=true:=by simp
    simp only[hb]at h2
    cases h2
    show Exit.inBlock i Q (.exit i) a' w'
    simp only[Exit.inBlock,if_true]
    have hk':o=⟨.exit i,packL s'.σ (keysOf (envGet ((i,m)::cx.env) i)),s'.H⟩:=by cases hk;rfl
    have he:envGet ((i,m)::cx.env) i=m:=by
     show(bif Nat.beq i i then m else envGet cx.env i)=m
     rw[hb];rfl
    rw[he]at hk'
    exact join_k (o:=⟨.normal,o.vs,o.H⟩) L h (by rw[hk']) (by rw[hk']) hle F' R'
   ·have hb:Nat.beq i id=false:=beq_ne hi
    simp only[hb]at h2
    cases h2
    rw[e1]at h
    cases h
    show Exit.inBlock id Q (.exit i) a' w'
    simp only[Exit.inBlock,if_neg hi]
    refine L.x i s' ρ' a' w' ?_ hle F' R'
    have he:envGet ((id,m)::cx.env) i=envGet cx.env i:=by
     show(bif Nat.beq id i then m else envGet cx.env i)=_
     rw[beq_ne (Ne.symm hi)];rfl
    rw[<-hk]
    show exitOut cx i s'=some ⟨.exit i,packL s'.σ (keysOf (envGet ((id,m)::cx.env) i)),s'.H⟩
    rw[he];rfl
  ·have e1:=retR_e hk
   rw[e1]at h2;cases h2
   rw[e1]at h;cases h
   exact L.r s' ρ' a' w' hk hle F' R'
 | .loop b,m,cx,k,s,out,ρ,a,w,Q,ho,h,F,R,L=>by
  have ho':okC tb n b=true:=by simpa [okC]using ho
  have h':lp b cx (packL s.σ (keysOf (live (.loop b) 0 cx))) s.H=some out:=h
  have hun:=pack_ex s.σ (keysOf (live (.loop b) 0 cx))
  obtain⟨σ,hσ⟩:=hun
  exact LoopWp.loop (hloop b cx _ s.H out h' n σ ρ a w Q ho' hσ (pack_ok F hσ) R L.x L.r)
 | .exit id,m,cx,k,s,out,ρ,a,w,Q,_,h,F,R,L=>wpr_exit (L.x id s ρ a w h (Rho.le_refl _) F R)
 | .ret,m,cx,k,s,out,ρ,a,w,Q,_,h,F,R,L=>wpr_ret (L.r s ρ a w h (Rho.le_refl _) F R)
 | .rangeFunc _ _ _ _,m,cx,k,s,out,ρ,a,w,Q,ho,_,_,_,_=>by simp[okC]at ho
 | .scope _,m,cx,k,s,out,ρ,a,w,Q,ho,_,_,_,_=>by simp[okC]at ho
 | .label _,m,cx,k,s,out,ρ,a,w,Q,ho,_,_,_,_=>by simp[okC]at ho
 | .goto _,m,cx,k,s,out,ρ,a,w,Q,ho,_,_,_,_=>by simp[okC]at ho
 | .refuse _,m,cx,k,s,out,ρ,a,w,Q,ho,_,_,_,_=>by simp[okC]at ho

theorem resv_ok (hG:TabOk P tb) {n:Nat} {s:GS} {ρ:Rho} {a:Act} {w:World} (F:FrOk ρ n s.σ a) (R:Rel w0 ρ s.H w) {r:ResultVar} {g:GV} (h:resv tb s r=some g):∃v,Rl ρ g v∧(rvSem a.tmps r).run P w = .ok v w:=by
 cases r with
 |tmp t=>exact⟨_,F.slot t g h,by simp[rvSem,Act.eval]⟩
 |cell q T=>
  obtain⟨v,hv,h⟩:=ob_some.1 (show ob (glk s.σ q) _=some g from h)
  have hs:=F.slot q v hv
  obtain⟨x,_,_,_,_,_,hx,hr⟩:=vLoad_ok (P:=P) hG R hs h
  have hr:=hr w rfl
  refine⟨x,hx,?_⟩
  obtain⟨p,hp,_⟩:=ob_some.1 (show ob v.asP _=some g from h)
  rw[asP_eq hp]at hs
  obtain⟨l,hl,e⟩:=hs.ptr_inv
  have e':a.tmps.getD q undef = .pointer (some ⟨l.b,l.off+p.2,none⟩):=e
  rw[e]at hr
  simp only[Instr.loadAt,Instr.sureAddr]at hr
  simp only[rvSem,e',asAddr]
  simpa using hr
theorem resvs_ok (hG:TabOk P tb) {n:Nat} {s:GS} {ρ:Rho} {a:Act} {w:World} (F:FrOk ρ n s.σ a) (R:Rel w0 ρ s.H w):∀{l:List ResultVar} {gs:List GV},resvs tb s l=some gs->∃vs,RlL ρ gs vs∧(l.mapM (rvSem a.tmps)).run P w = .ok vs w
 | [],gs,h=>by cases h;exact⟨[],.nil,by simp⟩
 |r::l,gs,h=>by
  obtain⟨g,hg,h⟩:=ob_some.1 (show ob (resv tb s r) (fun v=>ob (resvs tb s l) fun vs=>some (v::vs))=some gs from h)
  obtain⟨gs',hgs,h⟩:=ob_some.1 h
  cases h
  obtain⟨v,hv,h1⟩:=resv_ok (P:=P) hG F R hg
  obtain⟨vs,hvs,h2⟩:=resvs_ok hG F R hgs
  exact⟨v::vs,.cons hv hvs,by simp[List.mapM_cons,h1,h2]⟩
theorem pack_rel {ρ:Rho} {gs:List GV} {vs:List Value} (h:RlL ρ gs vs):Rl ρ (pack gs) (if h:vs.toArray.size=1 then vs.toArray[0]else .tuple vs.toArray):=by
 cases gs with
 |nil=>rw[h.of_nil];exact Rl.tup' .nil
 | cons g gs =>
  obtain⟨v,vs,rfl,h1,h2⟩:=h.of_cons
  cases gs with
  |nil=>rw[h2.of_nil];show Rl ρ g _;simpa using h1
  |cons g' gs=>
   obtain⟨v',vs',rfl,h3,h4⟩:=h2.of_cons
   rw[dif_neg (by simp)]
   exact Rl.tup' (.cons h1 (.cons h3 h4))
theorem retR_ok (hG:TabOk P tb) {fn:Func} {cx:Cx} (hcx:cx.res=fn.results.toList) {n:Nat} {s:GS} {ρ:Rho} {a:Act} {w:World} {out:Out} (F:FrOk ρ n s.σ a) (R:Rel w0 ρ s.H w) (h:retR tb cx s=some out):out.H=s.H∧∃v,Rl ρ (pack out.vs) v∧(results fn a.tmps).run P w = .ok v w:=by
 obtain⟨gs,hgs,h⟩:=ob_some.1 (show ob (resvs tb s cx.res) _=some out from h)
 cases h
 obtain⟨vs,hvs,hr⟩:=resvs_ok (P:=P) hG F R hgs
 rw[hcx]at hr
 refine⟨rfl,_,pack_rel hvs,?_⟩
 rw[results_rv]
 have hm:(fn.results.mapM (rvSem a.tmps)).run P w = .ok vs.toArray w:=by
  rw[Array.mapM_eq_mapM_toList]
  simp[hr]
 simp[hm]
structure GOk (P:Program) (G:GP) (Fs:FT) (w0:Base):Prop where
 tab:TabOk P G.tab
 mixed:P.follows .mixedOrders=true
 fns:∀{f fn},Fs f=some fn->P.funcs[f]? = some fn∧HasBody P f∧(∀c,fn.body=some c->okC G.tab fn.ntmps c=true)∧fn.params.size+fn.nfree<=fn.ntmps
 ext:∀{f us H g H'},G.ext f us H=some (g,H')->∀ρ w vs,Rel w0 ρ H w->RlL ρ us vs->CallSem P w0 ρ f vs w g H'
 exn:∀{f us g},G.exn f us=some g->∀ρ w vs H,Rel w0 ρ H w->RlL ρ us vs->CallSem P w0 ρ f vs w g H
 /-- the function that catches returns 0 and 0 if its argument returns;its two variables are new objects -/
 cat:∀{ρ:Rho} {g us cs w H H' c1 c2},Rel w0 ρ H w->(∀ρ' w',ρ.le ρ'->Rel w0 ρ' ((H.new (.cells [z64])).new (.cells [z64])) w'->∃x,CallSem P w0 ρ' g (us++cs) w' x H')->H'.cells H.n=some [c1]->H'.cells (H.n+1)=some [c2]->
  CallSem P w0 ρ G.cat [.func (.func g) us.toArray cs.toArray] w (.tup [z64,z64]) ((((H'.set H.n (.cells [z64])).set (H.n+1) (.cells [z64])).del H.n).del (H.n+1))
def FnOk (P:Program) (w0:Base) (ih:IH):Prop:=∀f us H out,ih (.fn f) us H=some out->out.e = .ret->∀ρ w vs,Rel w0 ρ H w->RlL ρ us vs->
 HasBody P f∧Calls P f vs.toArray w fun e w'=>∃v ρ',e = .returned v∧ρ.le ρ'∧Rel w0 ρ' out.H w'∧Rl ρ' (pack out.vs) v
theorem callB_ok {ih:IH} (h:FnOk P w0 ih):CallOk P w0 (callB ih):=fun f us H g H' hc ρ w vs R hr=>by
 obtain⟨o,h1,h2⟩:=ob_some.1 (show ob (ih (.fn f) us H) _=some (g,H')from hc)
 cases he:o.e with
 |normal=>rw[he]at h2;cases h2
 |exit id=>rw[he]at h2;cases h2
 |ret=>
  rw[he]at h2;cases h2
  obtain⟨hb,hcalls⟩:=h f us H o h1 he ρ w vs R hr
  exact .inr ⟨hb _ w,hcalls⟩
theorem callG_ok {ih:IH} (hG:GOk P G Fs w0) (h:FnOk P w0 ih):CallOk P w0 (callG G ih):=fun f us H g H' hc ρ w vs R hr=>by
 unfold callG callQ at hc
 cases hf:Nat.beq f G.cat with
 | false =>
  rw[hf]at hc
  cases he:G.ext f us H with
  |some r=>
   simp only[he]at hc
   cases hc
   exact hG.ext he ρ w vs R hr
  | none =>
   simp only[he]at hc
   cases hn:G.exn f us with
   |some r=>
    simp only[hn]at hc
    cases hc
    exact hG.exn hn ρ w vs _ R hr
   |none=>
    simp only[hn]at hc
    exact callB_ok h f us H g H' hc ρ w vs R hr
 | true =>
  rw[hf]at hc
  have hf:=Nat.eq_of_beq_eq_true hf
  subst hf
  cases us with
  |nil=>cases hc
  | cons u us =>
   cases us with
   |cons _ _=>cases hc
   |nil=>
    obtain⟨p,hp,hc⟩:=ob_some.1 (show ob u.asF _=some (g,H')from hc)
    rw[GH.newK_eq,GH.newK_eq]at hc
    obtain⟨x,hx,hc⟩:=ob_some.1 hc
    obtain⟨c1,hc1,hc⟩:=ob_some.1 hc
    obtain⟨c2,hc2,hc⟩:=ob_some.1 hc
    obtain⟨hl1,hc⟩:=bif_some.1 hc
    obtain⟨hl2,hc⟩:=bif_some.1 hc
    rw[GH.setK_eq,GH.setK_eq,GH.delK_eq,GH.delK_eq]at hc
    cases hc
    obtain⟨a1,rfl⟩:=List.length_eq_one_iff.1 (Nat.eq_of_beq_eq_true hl1)
    obtain⟨a2,rfl⟩:=List.length_eq_one_iff.1 (Nat.eq_of_beq_eq_true hl2)
    obtain⟨v,vs,rfl,h1,h2⟩:=hr.of_cons
    rw[h2.of_nil]
    rw[asF_eq hp]at h1
    obtain⟨us',cs',rfl,hu,hcs⟩:=h1.fn_inv
    exact hG.cat R (fun ρ' w' hle R'=>⟨x.1,callB_ok h p.1 _ _ x.1 x.2 hx ρ' w' _ R' ((hu.le hle).append (hcs.le hle))⟩) hc1 hc2
theorem evF_ok {ih:IH} (hG:∀w0,GOk P G Fs w0) (hfn:∀w0,FnOk P w0 ih) (hloop:LoopOk P w0 G.tab fun b cx=>ih (.loop b cx)) {f:Nat} {fn:Func} {us:List GV} {H:GH} {out:Out} (hf:Fs f=some fn) (h:evF G.tab (callG G ih) (fun b cx=>ih (.loop b cx)) fn us H=some out) (he:out.e = .ret) {ρ:Rho} {w:World} {vs:List Value} (R:Rel w0 ρ H w) (hr:RlL ρ us vs):
  HasBody P f∧Calls P f vs.toArray w fun e w'=>∃v ρ',e = .returned v∧ρ.le ρ'∧Rel w0 ρ' out.H w'∧Rl ρ' (pack out.vs) v:=by
 obtain⟨h1,h2,h3,h4⟩:=(hG w0).fns hf
 refine⟨h2,?_⟩
 obtain⟨body,hb,h⟩:=ob_some.1 (show ob fn.body _=some out from h)
 obtain⟨σ,hσ,h⟩:=unpackL_some h
 rw[List.range_eq_range']at hσ
 have hlen:=args_len hσ
 have hvl:vs.length<=fn.ntmps:=by rw[<-hr.len,hlen];exact h4
 refine calls_of_wpr h1 hb ?_
 have F:FrOk ρ fn.ntmps σ {tmps:=vs.toArray++Array.replicate (fn.ntmps - vs.toArray.size) undef,defers:=[]}:=by
  refine args_ok rfl (by simp;omega) hr (fun j v hv=> ?_) hσ
  have hlt:=getElem?_lt hv
  rw[Nat.zero_add,Array.getElem?_append_left (by simpa using hlt)]
  simpa using hv
 refine evC_ok (hG w0).tab (hG w0).mixed (fun w0=>callG_ok (hG w0) (hfn w0)) hloop body _ _ _ ⟨σ,H⟩ out ρ _ w _ (h3 body hb) h F R ⟨fun s' ρ' a' w' hk hle' F' R'=> ?_,fun id s' ρ' a' w' hk hle' F' R'=> ?_,fun s' ρ' a' w' hk hle' F' R'=> ?_⟩
 ·obtain⟨e1,v,hv,hres⟩:=retR_ok (fn:=fn) (hG w0).tab rfl F' R' hk
  exact Sx.body_end (.inr rfl) F'.defers hres ⟨v,ρ',rfl,hle',by rw[e1];exact R',hv⟩
 ·have:=exitOut_e hk
  rw[he]at this;cases this
 ·obtain⟨e1,v,hv,hres⟩:=retR_ok (fn:=fn) (hG w0).tab rfl F' R' hk
  exact Sx.body_end (.inl rfl) F'.defers hres ⟨v,ρ',rfl,hle',by rw[e1];exact R',hv⟩
theorem run_ok (hG:∀w0,GOk P G Fs w0):∀fuel w0,FnOk P w0 (run G Fs fuel)∧LoopOk P w0 G.tab fun b cx=>run G Fs fuel (.loop b cx):=by
 intro fuel
 induction fuel with
 |zero=>exact fun w0=>⟨fun f us H out h=>(by cases h),fun b cx vs H out h=>(by cases h)⟩
 | succ fuel ih =>
  have ihf:∀w0,FnOk P w0 (run G Fs fuel):=fun w0=>(ih w0).1
  intro w0
  have ihl:=(ih w0).2
  refine⟨fun f us H out h he ρ w vs R hr=> ?_,fun b cx vs H out h n σ ρ a w Q ho hσ F R hx hret=> ?_⟩
  ·obtain⟨fn,hfn,h⟩:=ob_some.1 (show ob (Fs f) _=some out from h)
   exact evF_ok hG ihf ihl hfn h he R hr
  ·have h':unpackL (keysOf (live (.loop b) 0 cx)) vs (fun σ=>ob (evC G.tab (callG G (run G Fs fuel)) (fun b cx=>run G Fs fuel (.loop b cx)) b (live (.loop b) 0 cx) cx (retN (keysOf (live (.loop b) 0 cx))) ⟨σ,H⟩) fun o=>Ex.casesOn (motive:=fun _=>RS) o.e (run G Fs fuel (.loop b cx) o.vs o.H) (fun _=>some o) (some o))=some out:=h
   obtain⟨σ',hσ',h'⟩:=unpackL_some h'
   rw[hσ]at hσ';cases hσ'
   obtain⟨o,h1,h2⟩:=ob_some.1 h'
   refine LoopWp.round (evC_ok (hG w0).tab (hG w0).mixed (fun w0=>callG_ok (hG w0) (ihf w0)) ihl b _ cx _ ⟨σ,H⟩ o ρ a w _ ho h1 F R ⟨fun s' ρ' a' w' hk hle F' R'=> ?_,fun id s' ρ' a' w' hk hle F' R'=> ?_,fun s' ρ' a' w' hk hle F' R'=> ?_⟩)
   ·obtain⟨e1,e2,e3⟩:=retN_e hk
    rw[e1,e2,e3]at h2
    obtain⟨σ2,hσ2⟩:=pack_ex s'.σ (keysOf (live (.loop b) 0 cx))
    exact ihl b cx _ s'.H out h2 n σ2 ρ' a' w' Q ho hσ2 (pack_ok F' hσ2) R' (fun id s2 ρ2 a2 w2 x1 x2=>hx id s2 ρ2 a2 w2 x1 (Rho.le_trans hle x2)) (fun s2 ρ2 a2 w2 x1 x2=>hret s2 ρ2 a2 w2 x1 (Rho.le_trans hle x2))
   ·have e1:=exitOut_e hk
    rw[e1]at h2;cases h2
    exact hx id s' ρ' a' w' hk hle F' R'
   ·have e1:=retR_e hk
    rw[e1]at h2;cases h2
    exact hret s' ρ' a' w' hk hle F' R'
theorem callF_ok (hG:∀w0,GOk P G Fs w0) {fuel f:Nat} {us:List GV} {H H':GH} {g:GV} (h:callF G Fs fuel f us H=some (g,H')) {ρ:Rho} {w:World} {vs:List Value} (R:Rel w0 ρ H w) (hr:RlL ρ us vs):CallSem P w0 ρ f vs w g H':=
 callG_ok (hG w0) (run_ok hG fuel w0).1 f us H g H' h ρ w vs R hr
theorem Rel.start (w:World) (O:Nat->Prop):Rel ⟨w,O⟩ (fun _=>none) H0 w:=⟨Kept.refl _,fun h o hg=>(by cases hg),fun h h' o o' l l' hg=>(by cases hg),fun _ _=>rfl,fun h hh=>absurd hh (Nat.not_lt_zero h),fun h v l hv=>(by cases hv)⟩
end
end Go.Gx
end
section
namespace Go.Gx
open Go Go.Sx
noncomputable section
def oN (vs:List GV) (H:GH):RS:=some ⟨.normal,vs,H⟩
def oX (id:Nat) (vs:List GV) (H:GH):RS:=some ⟨.exit id,vs,H⟩
def oR (vs:List GV) (H:GH):RS:=some ⟨.ret,vs,H⟩
def jn (r:RS) (k:List GV->GH->RS):RS:=ob r fun o=>Ex.casesOn (motive:=fun _=>RS) o.e (k o.vs o.H) (fun _=>some o) (some o)
def rG (v:GV) (b:Bool) (H:GH) (X:OR):OR:=GV.casesOn (motive_1:=fun _=>OR) v (fun _ _=>none) (fun q=>Bool.casesOn (motive:=fun _=>OR) (eqB q b) (some (.un,H)) X) (fun _ _=>none) (fun _ _=>none) none (fun _ _ _ _=>none) none (fun _=>none) (fun _ _ _=>none) none none (fun _=>none) (fun _=>none) (some (.un,H)) none
def U0 {R:Type} (r0:List GV) (f:Option R):Option R:=List.casesOn (motive:=fun _=>Option R) r0 (f) fun _ _=>none
def U1 {R:Type} (r0:List GV) (f:GV->Option R):Option R:=List.casesOn (motive:=fun _=>Option R) r0 none fun a0 r1=>List.casesOn (motive:=fun _=>Option R) r1 (f a0) fun _ _=>none
def U2 {R:Type} (r0:List GV) (f:GV->GV->Option R):Option R:=List.casesOn (motive:=fun _=>Option R) r0 none fun a0 r1=>List.casesOn (motive:=fun _=>Option R) r1 none fun a1 r2=>List.casesOn (motive:=fun _=>Option R) r2 (f a0 a1) fun _ _=>none
def U3 {R:Type} (r0:List GV) (f:GV->GV->GV->Option R):Option R:=List.casesOn (motive:=fun _=>Option R) r0 none fun a0 r1=>List.casesOn (motive:=fun _=>Option R) r1 none fun a1 r2=>List.casesOn (motive:=fun _=>Option R) r2 none fun a2 r3=>List.casesOn (motive:=fun _=>Option R) r3 (f a0 a1 a2) fun _ _=>none
def U4 {R:Type} (r0:List GV) (f:GV->GV->GV->GV->Option R):Option R:=List.casesOn (motive:=fun _=>Option R) r0 none fun a0 r1=>List.casesOn (motive:=fun _=>Option R) r1 none fun a1 r2=>List.casesOn (motive:=fun _=>Option R) r2 none fun a2 r3=>List.casesOn (motive:=fun _=>Option R) r3 none fun a3 r4=>List.casesOn (motive:=fun _=>Option R) r4 (f a0 a1 a2 a3) fun _ _=>none
def U5 {R:Type} (r0:List GV) (f:GV->GV->GV->GV->GV->Option R):Option R:=List.casesOn (motive:=fun _=>Option R) r0 none fun a0 r1=>List.casesOn (motive:=fun _=>Option R) r1 none fun a1 r2=>List.casesOn (motive:=fun _=>Option R) r2 none fun a2 r3=>List.casesOn (motive:=fun _=>Option R) r3 none fun a3 r4=>List.casesOn (motive:=fun _=>Option R) r4 none fun a4 r5=>List.casesOn (motive:=fun _=>Option R) r5 (f a0 a1 a2 a3 a4) fun _ _=>none
def U6 {R:Type} (r0:List GV) (f:GV->GV->GV->GV->GV->GV->Option R):Option R:=List.casesOn (motive:=fun _=>Option R) r0 none fun a0 r1=>List.casesOn (motive:=fun _=>Option R) r1 none fun a1 r2=>List.casesOn (motive:=fun _=>Option R) r2 none fun a2 r3=>List.casesOn (motive:=fun _=>Option R) r3 none fun a3 r4=>List.casesOn (motive:=fun _=>Option R) r4 none fun a4 r5=>List.casesOn (motive:=fun _=>Option R) r5 none fun a5 r6=>List.casesOn (motive:=fun _=>Option R) r6 (f a0 a1 a2 a3 a4 a5) fun _ _=>none
def U7 {R:Type} (r0:List GV) (f:GV->GV->GV->GV->GV->GV->GV->Option R):Option R:=List.casesOn (motive:=fun _=>Option R) r0 none fun a0 r1=>List.casesOn (motive:=fun _=>Option R) r1 none fun a1 r2=>List.casesOn (motive:=fun _=>Option R) r2 none fun a2 r3=>List.casesOn (motive:=fun _=>Option R) r3 none fun a3 r4=>List.casesOn (motive:=fun _=>Option R) r4 none fun a4 r5=>List.casesOn (motive:=fun _=>Option R) r5 none fun a5 r6=>List.casesOn (motive:=fun _=>Option R) r6 none fun a6 r7=>List.casesOn (motive:=fun _=>Option R) r7 (f a0 a1 a2 a3 a4 a5 a6) fun _ _=>none
def U8 {R:Type} (r0:List GV) (f:GV->GV->GV->GV->GV->GV->GV->GV->Option R):Option R:=List.casesOn (motive:=fun _=>Option R) r0 none fun a0 r1=>List.casesOn (motive:=fun _=>Option R) r1 none fun a1 r2=>List.casesOn (motive:=fun _=>Option R) r2 none fun a2 r3=>List.casesOn (motive:=fun _=>Option R) r3 none fun a3 r4=>List.casesOn (motive:=fun _=>Option R) r4 none fun a4 r5=>List.casesOn (motive:=fun _=>Option R) r5 none fun a5 r6=>List.casesOn (motive:=fun _=>Option R) r6 none fun a6 r7=>List.casesOn (motive:=fun _=>Option R) r7 none fun a7 r8=>List.casesOn (motive:=fun _=>Option R) r8 (f a0 a1 a2 a3 a4 a5 a6 a7) fun _ _=>none
def U9 {R:Type} (r0:List GV) (f:GV->GV->GV->GV->GV->GV->GV->GV->GV->Option R):Option R:=List.casesOn (motive:=fun _=>Option R) r0 none fun a0 r1=>List.casesOn (motive:=fun _=>Option R) r1 none fun a1 r2=>List.casesOn (motive:=fun _=>Option R) r2 none fun a2 r3=>List.casesOn (motive:=fun _=>Option R) r3 none fun a3 r4=>List.casesOn (motive:=fun _=>Option R) r4 none fun a4 r5=>List.casesOn (motive:=fun _=>Option R) r5 none fun a5 r6=>List.casesOn (motive:=fun _=>Option R) r6 none fun a6 r7=>List.casesOn (motive:=fun _=>Option R) r7 none fun a7 r8=>List.casesOn (motive:=fun _=>Option R) r8 none fun a8 r9=>List.casesOn (motive:=fun _=>Option R) r9 (f a0 a1 a2 a3 a4 a5 a6 a7 a8) fun _ _=>none
def subC:List Nat->Code->Code
 | [],c=>c
 |0::p,.seq a _=>subC p a
 |1::p,.seq _ b=>subC p b
 |0::p,.cond _ a _=>subC p a
 |1::p,.cond _ _ b=>subC p b
 |0::p,.block _ b=>subC p b
 |0::p,.loop b=>subC p b
 |_,c=>c
def codeOf (fn:Func) (p:List Nat):Code:=match fn.body with
 |some c=>subC p c
 |none=> .skip
def cxOf (fn:Func) (env:List (Nat×Nat)):Cx:=⟨fn.results.toList,resMask fn.results.toList,env⟩
abbrev Body:=CH->QH->List GV->GH->RS
structure Tabs where
 fn:Nat->Option (Func×Body)
 lp:Nat->Option ((Code×Cx)×Body)
def Tabs.fns (T:Tabs) (f:Nat):Option Func:=ob (T.fn f) fun e=>some e.1
def Tabs.loop (T:Tabs) (lp:LH):QH:=fun i vs H=>ob (T.lp i) fun e=>lp e.1.1 e.1.2 vs H
def rr (T:Tabs) (G:GP) (n:Nat):Bool->QH:=Nat.rec (motive:=fun _=>Bool->QH) (fun _ _ _ _=>none) (fun _ ih b t vs H=>Bool.casesOn (motive:=fun _=>RS) b (ob (T.fn t) fun e=>e.2 (callQ G (ih false)) (ih true) vs H) (ob (T.lp t) fun e=>e.2 (callQ G (ih false)) (ih true) vs H)) n
structure TabsOk (T:Tabs) (tb:TB):Prop where
 fn:∀{f e},T.fn f=some e->∀(c:CH) (lp:LH) us H,e.2 c (T.loop lp) us H=evF tb c lp e.1 us H
 lp:∀{i e},T.lp i=some e->∀(c:CH) (lp:LH) us H,e.2 c (T.loop lp) us H=evL tb c lp e.1.1 e.1.2 us H
theorem rr_eq {T:Tabs} {G:GP} (h:TabsOk T G.tab):∀n,rr T G n false=(fun f us H=>run G T.fns n (.fn f) us H)∧rr T G n true=T.loop (fun b cx=>run G T.fns n (.loop b cx)):=by
 intro n
 induction n with
 |zero=>
  refine⟨rfl,?_⟩
  funext i vs H
  show none=ob (T.lp i) fun e=>none
  cases T.lp i<;>rfl
 | succ n ih =>
  obtain⟨ih1,ih2⟩:=ih
  constructor
  ·funext f us H
   show ob (T.fn f) (fun e=>e.2 (callQ G (rr T G n false)) (rr T G n true) us H)=ob (T.fns f) fun fn=>evF G.tab (callG G (run G T.fns n)) (fun b cx=>run G T.fns n (.loop b cx)) fn us H
   unfold Tabs.fns
   cases hf:T.fn f with
   |none=>rfl
   |some e=>
    show e.2 (callQ G (rr T G n false)) (rr T G n true) us H=evF G.tab (callG G (run G T.fns n)) (fun b cx=>run G T.fns n (.loop b cx)) e.1 us H
    rw[ih1,ih2]
    exact h.fn hf _ _ us H
  ·funext i vs H
   show ob (T.lp i) (fun e=>e.2 (callQ G (rr T G n false)) (rr T G n true) vs H)=ob (T.lp i) fun e=>run G T.fns (n+1) (.loop e.1.1 e.1.2) vs H
   cases hf:T.lp i with
   |none=>rfl
   |some e=>
    show e.2 (callQ G (rr T G n false)) (rr T G n true) vs H=evL G.tab (callG G (run G T.fns n)) (fun b cx=>run G T.fns n (.loop b cx)) e.1.1 e.1.2 vs H
    rw[ih1,ih2]
    exact h.lp hf _ _ vs H
def okF (tb:TB) (fn:Func):Bool:=match fn.body with
 |some c=>okC tb fn.ntmps c&&Nat.ble (fn.params.size+fn.nfree) fn.ntmps
 |none=>false
theorem okF_spec {tb:TB} {fn:Func} (h:okF tb fn=true):(∀c,fn.body=some c->okC tb fn.ntmps c=true)∧fn.params.size+fn.nfree<=fn.ntmps:=by
 unfold okF at h
 cases hb:fn.body with
 |none=>rw[hb]at h;cases h
 |some c=>
  rw[hb]at h
  simp only[Bool.and_eq_true]at h
  exact⟨fun c' hc=>by cases hc;exact h.1,by simpa using h.2⟩
def callR (T:Tabs) (G:GP) (fuel:Nat) (f:FuncId) (args:List GV) (H:GH):OR:=callQ G (rr T G fuel false) f args H
theorem callR_eq {T:Tabs} {G:GP} (h:TabsOk T G.tab) (fuel:Nat) (f:FuncId) (args:List GV) (H:GH):callR T G fuel f args H=callF G T.fns fuel f args H:=by
 unfold callR callF callG
 rw[(rr_eq h fuel).1]
end
end Go.Gx
end
