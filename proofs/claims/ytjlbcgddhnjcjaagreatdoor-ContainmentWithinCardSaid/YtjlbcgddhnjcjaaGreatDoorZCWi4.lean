/- Models and proofs. Conditions: none. -/
import Derived.Test.YtjlbcgddhnjcjaaGreatDoorZCWi3
import Derived.Test.YtjlbcgddhnjcjaaGreatDoorZCWi1
import Derived.RecoverIn
import Derived.DefersIn
import Derived.Lib.Bytealg
import Derived.Test.YtjlbcgddhnjcjaaGreatDoorZCWi2
set_option linter.unusedVariables false
set_option linter.unusedSimpArgs false
set_option maxHeartbeats 4000000
set_option maxRecDepth 20000
section
namespace Go.Gx
open Go Go.Sx Go.RowKit
section

section
variable {R α:Type}
theorem tK (r:OR) (k:GV->GH->Option R):fQ r k=fQ (fQ r DW) k:=by
 cases r with
 |none=>rfl
 |some p=>rfl
theorem cC (x:Option α) {f:α->Option R} {g:α->OR} {k:GV->GH->Option R} (h:∀a,f a=fQ (g a) k):ob x f=fQ (ob x g) k:=by
 cases x with
 |none=>rfl
 |some a=>exact h a
theorem Uj {tb:TB} {ih:CH} {σ:GF} {H:GH} (o:Op) (k:GV->GH->Option R):IE tb ih o σ H k=fQ (IE tb ih o σ H DW) k:=by
 have e1:∀x (f:GV->Option GV),k1 x f σ H k=fQ (k1 x f σ H DW) k:=fun x f=>cC _ fun x=>cC _ fun v=>cC _ fun g=>rfl
 have e2:∀x y (f:GV->GV->Option GV),k2 x y f σ H k=fQ (k2 x y f σ H DW) k:=fun x y f=>cC _ fun x=>cC _ fun v=>cC _ fun u=>cC _ fun g=>rfl
 have e3:∀x y z (f:GV->GV->GV->Option GV),k3 x y z f σ H k=fQ (k3 x y z f σ H DW) k:=fun x y z f=>cC _ fun x=>cC _ fun v=>cC _ fun u=>cC _ fun t=>cC _ fun g=>rfl
 cases o with
 |move x=>exact cC _ fun v=>rfl
 |assign x=>exact cC _ fun v=>rfl
 |pick c x y=>exact e3 _ _ _ _
 |alloc T=>exact tK _ _
 |box T x=>exact cC _ fun v=>tK _ _
 |build T ps=>exact cC _ fun vs=>cC _ fun g=>rfl
 |buildSlice T m ps=>exact cC _ fun x=>tK _ _
 |load T x=>exact cC _ fun v=>cC _ fun g=>rfl
 |store T x y=>exact cC _ fun v=>cC _ fun u=>tK _ _
 |nilCheck x=>exact e1 _ _
 |binOp op T x y T'=>exact e2 _ _ _
 |unOp op T x=>exact e1 _ _
 |convert S D x=>exact e1 _ _
 |makeFunc fn first caps=>
  cases fn with
  |func f=>exact cC _ fun us=>cC _ fun vs=>rfl
  |_=>rfl
 |makeMap T q=>
  cases q with
  |none=>exact tK _ _
  |some x=>rfl
 |makeSlice T x y=>exact cC _ fun v=>cC _ fun u=>tK _ _
 |slice T x lo hi mx=>
  cases mx with
  |none=>exact cC _ fun v=>cC _ fun l=>cC _ fun h=>cC _ fun g=>rfl
  |some y=>rfl
 |fieldAddr T x f=>exact e1 _ _
 |field T x f=>exact e1 _ _
 |indexAddr T x y=>exact e2 _ _ _
 |index T x y=>exact e2 _ _ _
 |lookup T x y ok=>exact cC _ fun v=>cC _ fun u=>cC _ fun g=>rfl
 |mapUpdate T x y z=>exact cC _ fun v=>cC _ fun u=>cC _ fun t=>tK _ _
 |extract x i=>exact e1 _ _
 | call c =>
  obtain⟨cal,xs,ts⟩:=c
  cases cal with
  |value f=>exact cC _ fun v=>cC _ fun g=>cC _ fun us=>tK _ _
  |invoke x m=>rfl
  | builtin b =>
   show LB tb xs ts b σ H k=fQ (LB tb xs ts b σ H DW) k
   obtain⟨xs⟩:=xs
   cases b with
   |len=>
    match xs with
    | []=>rfl
    | [x]=>exact cC _ fun T=>cC _ fun v=>cC _ fun g=>rfl
    |_::_::_=>rfl
   |max=>
    match xs with
    | []=>rfl
    | [x]=>rfl
    | [x,y]=>exact e2 _ _ _
    |_::_::_::_=>rfl
   |min=>
    match xs with
    | []=>rfl
    | [x]=>rfl
    | [x,y]=>exact e2 _ _ _
    |_::_::_::_=>rfl
   |append=>
    match xs with
    | []=>rfl
    | [x]=>rfl
    | [x,y]=>exact cC _ fun T=>cC _ fun T'=>cC _ fun v=>cC _ fun u=>tK _ _
    |_::_::_::_=>rfl
   |copy=>
    match xs with
    | []=>rfl
    | [x]=>rfl
    | [x,y]=>exact cC _ fun T=>cC _ fun v=>cC _ fun u=>tK _ _
    |_::_::_::_=>rfl
   |cap=>
    match xs with
    | []=>rfl
    | [x]=>exact cC _ fun T=>cC _ fun v=>cC _ fun g=>rfl
    |_::_::_=>rfl
   |_=>rfl
 |_=>rfl

theorem yQ {σ σ':GF}:∀{xs:List Operand},(∀x∈xs,gW σ x=gW σ' x)->BI σ xs=BI σ' xs
 | [],_=>rfl
 |x::xs,h=>by
  show ob (gW σ x) (fun v=>ob (BI σ xs) fun vs=>some (v::vs))=ob (gW σ' x) (fun v=>ob (BI σ' xs) fun vs=>some (v::vs))
  rw[h x List.mem_cons_self,yQ fun y hy=>h y (List.mem_cons_of_mem _ hy)]
theorem yR {σ σ':GF}:∀{xs:List (Nat×Operand)},(∀x∈xs,gW σ x.2=gW σ' x.2)->pS σ xs=pS σ' xs
 | [],_=>rfl
 |x::xs,h=>by
  show ob (gW σ x.2) (fun v=>ob (pS σ xs) fun vs=>some ((x.1,v)::vs))=ob (gW σ' x.2) (fun v=>ob (pS σ' xs) fun vs=>some ((x.1,v)::vs))
  rw[h x List.mem_cons_self,yR fun y hy=>h y (List.mem_cons_of_mem _ hy)]
theorem Fv {σ σ':GF} {o:Option Operand} (h:∀x∈o.toArray,gW σ x=gW σ' x):Di σ o=Di σ' o:=by
 cases o with
 |none=>rfl
 |some x=>
  show ob (gW σ x) (fun v=>some (some v))=ob (gW σ' x) (fun v=>some (some v))
  rw[h x (by simp)]
theorem Oo {tb:TB} {ih:CH} {σ σ':GF} {H:GH} {o:Op} {k:GV->GH->Option R} (h:∀x∈o.operands,gW σ x=gW σ' x):IE tb ih o σ H k=IE tb ih o σ' H k:=by
 have e1:∀x (f:GV->Option GV),gW σ x=gW σ' x->k1 x f σ H k=k1 x f σ' H k:=fun x f e=>by simp only[k1,ob,e]
 have e2:∀x y (f:GV->GV->Option GV),gW σ x=gW σ' x->gW σ y=gW σ' y->k2 x y f σ H k=k2 x y f σ' H k:=fun x y f e e'=>by simp only[k2,ob,e,e']
 have e3:∀x y z (f:GV->GV->GV->Option GV),gW σ x=gW σ' x->gW σ y=gW σ' y->gW σ z=gW σ' z->k3 x y z f σ H k=k3 x y z f σ' H k:=fun x y z f e e' e''=>by simp only[k3,ob,e,e',e'']
 cases o with
 |move x=>show DO x σ H k=DO x σ' H k;simp only[DO,ob,h x (by simp[Op.operands])]
 |assign x=>show DO x σ H k=DO x σ' H k;simp only[DO,ob,h x (by simp[Op.operands])]
 |pick c x y=>exact e3 _ _ _ _ (h _ (by simp[Op.operands])) (h _ (by simp[Op.operands])) (h _ (by simp[Op.operands]))
 |alloc T=>rfl
 |box T x=>show Up x σ H k=Up x σ' H k;simp only[Up,ob,h x (by simp[Op.operands])]
 | build T ps =>
  show ob (pS σ ps.toList) _=ob (pS σ' ps.toList) _
  rw[yR fun x hx=>h x.2 (by
   have:x∈ps:=by simpa using hx
   simp only[Op.operands,List.mem_toArray,List.mem_map];exact⟨x,hx,rfl⟩)]
 | buildSlice T m ps =>
  show ob (pS σ ps.toList) _=ob (pS σ' ps.toList) _
  rw[yR fun x hx=>h x.2 (by
   simp only[Op.operands,List.mem_toArray,List.mem_map];exact⟨x,hx,rfl⟩)]
 |load T x=>show MU tb T x σ H k=MU tb T x σ' H k;simp only[MU,ob,h x (by simp[Op.operands])]
 |store T x y=>show Ia tb T x y σ H k=Ia tb T x y σ' H k;simp only[Ia,ob,h x (by simp[Op.operands]),h y (by simp[Op.operands])]
 |nilCheck x=>exact e1 _ _ (h _ (by simp[Op.operands]))
 |binOp op T x y T'=>exact e2 _ _ _ (h _ (by simp[Op.operands])) (h _ (by simp[Op.operands]))
 |unOp op T x=>exact e1 _ _ (h _ (by simp[Op.operands]))
 |convert S D x=>exact e1 _ _ (h _ (by simp[Op.operands]))
 | makeFunc fn first caps =>
  cases fn with
  | func f =>
   show ob (BI σ first.toList) _=ob (BI σ' first.toList) _
   rw[yQ fun x hx=>h x (by simp only[Op.operands,Array.mem_append];exact .inl (by simpa using hx)),
    yQ (xs:=caps.toList) fun x hx=>h x (by simp only[Op.operands,Array.mem_append];exact .inr (by simpa using hx))]
  |_=>rfl
 |makeMap T q=>
  cases q with
  |none=>rfl
  |some x=>rfl
 |makeSlice T x y=>show MW tb T x y σ H k=MW tb T x y σ' H k;simp only[MW,ob,h x (by simp[Op.operands]),h y (by simp[Op.operands])]
 | slice T x lo hi mx =>
  cases mx with
  |none=>
   show ob (some x) (fun x=>ob (gW σ x) fun v=>ob (Di σ lo) fun l=>ob (Di σ hi) fun h=>ob (zD tb T v l h H) fun g=>k g H)=ob (some x) (fun x=>ob (gW σ' x) fun v=>ob (Di σ' lo) fun l=>ob (Di σ' hi) fun h=>ob (zD tb T v l h H) fun g=>k g H)
   have hlo:Di σ lo=Di σ' lo:=Fv fun y hy=>h y (by simp only[Op.operands,Array.mem_append];exact .inl (.inl (.inr hy)))
   have hhi:Di σ hi=Di σ' hi:=Fv fun y hy=>h y (by simp only[Op.operands,Array.mem_append];exact .inl (.inr hy))
   have hx:gW σ x=gW σ' x:=h x (by simp only[Op.operands,Array.mem_append];exact .inl (.inl (.inl (by simp))))
   simp only[ob,hlo,hhi,hx]
  |some y=>rfl
 |fieldAddr T x f=>exact e1 _ _ (h _ (by simp[Op.operands]))
 |field T x f=>exact e1 _ _ (h _ (by simp[Op.operands]))
 |indexAddr T x y=>exact e2 _ _ _ (h _ (by simp[Op.operands])) (h _ (by simp[Op.operands]))
 |index T x y=>exact e2 _ _ _ (h _ (by simp[Op.operands])) (h _ (by simp[Op.operands]))
 |lookup T x y ok=>show MV tb T x y ok σ H k=MV tb T x y ok σ' H k;simp only[MV,ob,h x (by simp[Op.operands]),h y (by simp[Op.operands])]
 |mapUpdate T x y z=>show H_ tb T x y z σ H k=H_ tb T x y z σ' H k;simp only[H_,ob,h x (by simp[Op.operands]),h y (by simp[Op.operands]),h z (by simp[Op.operands])]
 |extract x i=>exact e1 _ _ (h _ (by simp[Op.operands]))
 | call c =>
  obtain⟨cal,xs,ts⟩:=c
  cases cal with
  |value f=>
   have hf:gW σ f=gW σ' f:=h f (by simp[Op.operands,Call.operands])
   have hxs:BI σ xs.toList=BI σ' xs.toList:=yQ fun x hx=>h x (by simp[Op.operands,Call.operands];exact .inr (by simpa using hx))
   show ob (gW σ f) _=ob (gW σ' f) _
   simp only[ob,hf,hxs]
  |invoke x m=>rfl
  | builtin b =>
   show LB tb xs ts b σ H k=LB tb xs ts b σ' H k
   have hx:∀x∈xs,gW σ x=gW σ' x:=fun x hx=>h x (by simp[Op.operands,Call.operands];exact hx)
   obtain⟨xs⟩:=xs
   cases b with
   |len=>
    match xs,hx with
    | [],_=>rfl
    | [x],hx=>show Oy tb ts.toList x σ H k=Oy tb ts.toList x σ' H k;simp only[Oy,ob,hx x (by simp)]
    |_::_::_,_=>rfl
   |max=>
    match xs,hx with
    | [],_=>rfl
    | [x],_=>rfl
    | [x,y],hx=>exact e2 _ _ _ (hx _ (by simp)) (hx _ (by simp))
    |_::_::_::_,_=>rfl
   |min=>
    match xs,hx with
    | [],_=>rfl
    | [x],_=>rfl
    | [x,y],hx=>exact e2 _ _ _ (hx _ (by simp)) (hx _ (by simp))
    |_::_::_::_,_=>rfl
   |append=>
    match xs,hx with
    | [],_=>rfl
    | [x],_=>rfl
    | [x,y],hx=>show QY tb ts.toList x y σ H k=QY tb ts.toList x y σ' H k;simp only[QY,ob,hx x (by simp),hx y (by simp)]
    |_::_::_::_,_=>rfl
   |copy=>
    match xs,hx with
    | [],_=>rfl
    | [x],_=>rfl
    | [x,y],hx=>show JA tb ts.toList x y σ H k=JA tb ts.toList x y σ' H k;simp only[JA,ob,hx x (by simp),hx y (by simp)]
    |_::_::_::_,_=>rfl
   |cap=>
    match xs,hx with
    | [],_=>rfl
    | [x],hx=>show Ox tb ts.toList x σ H k=Ox tb ts.toList x σ' H k;simp only[Ox,ob,hx x (by simp)]
    |_::_::_,_=>rfl
   |_=>rfl
 |_=>rfl
end
noncomputable def AY (tb:TB) (ih:CH) (all:List Oper) (o:Oper) (σ:GF) (H:GH):OR:=Option.casesOn (motive:=fun _=>OR) o.guard (IE tb ih o.op σ H DW) fun g=>ob (CV all g.1) fun oj=>ob oj.dst fun dj=>ob (AZ σ dj) fun v=>Xk tb ih o ⟨σ,H⟩ g.2 v
theorem Ud {tb:TB} {ih:CH} {all:List Oper} {o:Oper} {k:GS->RS} {s:GS}:Fp tb ih all o k s=fQ (AY tb ih all o s.σ s.H) (YM o.dst s k):=by
 unfold Fp AY
 cases o.guard with
 |none=>exact Uj _ _
 |some g=>exact cC _ fun oj=>cC _ fun dj=>cC _ fun v=>rfl
theorem AM {tb:TB} {ih:CH} {all:List Oper} {o:Oper} {k:GS->RS} {s:GS} {out:IU} (h:Fp tb ih all o k s=some out):∃g H',AY tb ih all o s.σ s.H=some (g,H')∧k ⟨putD o.dst g s.σ,H'⟩=some out:=by
 rw[Ud]at h
 obtain⟨g,H',h1,h2⟩:=kC h
 exact⟨g,H',h1,h2⟩
theorem Ln {tb:TB} {ih:CH} {all:List Oper} {o:Oper} {σ σ':GF} {H:GH} (h:∀t∈o.looksAt all.toArray,AZ σ t=AZ σ' t):AY tb ih all o σ H=AY tb ih all o σ' H:=by
 have hop:IE tb ih o.op σ H DW=IE tb ih o.op σ' H DW:=Oo fun x hx=>by
  cases x with
  |tmp t=>exact h t (List.mem_append_left _ (List.mem_filterMap.2 ⟨.tmp t,by simpa using hx,rfl⟩))
  |_=>rfl
 unfold AY
 cases hg:o.guard with
 |none=>exact hop
 | some g =>
  show ob (CV all g.1) _=ob (CV all g.1) _
  cases hn:CV all g.1 with
  |none=>rfl
  | some oj =>
   show ob oj.dst _=ob oj.dst _
   cases hd:oj.dst with
   |none=>rfl
   | some dj =>
    have ht:dj∈o.looksAt all.toArray:=by
     rw[pT]at hn
     simp[Oper.looksAt,hg,hn,hd]
    show ob (AZ σ dj) (fun v=>Xk tb ih o ⟨σ,H⟩ g.2 v)=ob (AZ σ' dj) (fun v=>Xk tb ih o ⟨σ',H⟩ g.2 v)
    rw[h dj ht]
    cases AZ σ' dj with
    |none=>rfl
    | some v =>
     show Xk tb ih o ⟨σ,H⟩ g.2 v=Xk tb ih o ⟨σ',H⟩ g.2 v
     cases v with
     |bool q=>
      show Bool.casesOn (motive:=fun _=>OR) (MM q g.2) (some (.un,H)) (IE tb ih o.op σ H DW)=Bool.casesOn (motive:=fun _=>OR) (MM q g.2) (some (.un,H)) (IE tb ih o.op σ' H DW)
      rw[hop]
     |_=>rfl
section
variable {P:Program} {tb:TB} {gs:tX} {w0:cV gs}
theorem AL {ih:CH} {all:List Oper} {n:Nat} {o:Oper} {σ:GF} {H H':GH} {g:GV} {ρ:cK} {a:Act} (F:iQ ρ n σ a) (h:AY tb ih all o σ H=some (g,H')):
  (Region.wanted o (yielded all.toArray a.tmps)=true∧IE tb ih o.op σ H DW=some (g,H'))∨(Region.wanted o (yielded all.toArray a.tmps)=false∧g = .un∧H'=H):=by
 unfold AY at h
 cases hg:o.guard with
 |none=>
  rw[hg]at h
  exact .inl ⟨by simp[Region.wanted,hg],h⟩
 | some gd =>
  rw[hg]at h
  obtain⟨oj,hoj,h⟩:=aA.1 (show ob (CV all gd.1) _=some (g,H')from h)
  obtain⟨dj,hdj,h⟩:=aA.1 h
  obtain⟨v,hv,hgv⟩:=aA.1 h
  have hslot:=F.slot dj v hv
  rw[pT]at hoj
  have hy:yielded all.toArray a.tmps gd.1=(match a.tmps[dj]? with|some (.bool b)=>some b|_=>none):=by
   unfold yielded
   have:(all.toArray[gd.1]?).bind (·.dst)=some dj:=by simp[hoj,hdj]
   rw[this];rfl
  cases v with
  | bool q =>
   have he:=hslot.bool_inv
   have hq:a.tmps[dj]? = some (.bool q):=by
    simp only[Act.eval,Array.getD_eq_getD_getElem?]at he
    cases hx:a.tmps[dj]? with
    |none=>rw[hx]at he;cases he
    |some z=>rw[hx]at he;simp at he;rw[he]
   rw[hq]at hy
   have hgv':Bool.casesOn (motive:=fun _=>OR) (MM q gd.2) (some (.un,H)) (IE tb ih o.op σ H DW)=some (g,H'):=hgv
   rw[BF]at hgv'
   have hw:Region.wanted o (yielded all.toArray a.tmps)=(q==gd.2):=by
    simp only[Region.wanted,hg]
    rw[hy]
    cases q<;>cases gd.2<;>rfl
   cases hqb:(q==gd.2)with
   |true=>rw[hqb]at hgv';exact .inl ⟨by rw[hw,hqb],hgv'⟩
   |false=>rw[hqb]at hgv';cases hgv';exact .inr ⟨by rw[hw,hqb],rfl,rfl⟩
  | un =>
   have he:=hslot.un_inv
   cases hgv
   refine .inr ⟨?_,rfl,rfl⟩
   simp only[Region.wanted,hg]
   rw[hy]
   have:(match a.tmps[dj]? with|some (.bool b)=>some b|_=>none)=(none:Option Bool):=by
    simp only[Act.eval,Array.getD_eq_getD_getElem?]at he
    cases hx:a.tmps[dj]? with
    |none=>rfl
    |some z=>rw[hx]at he;simp at he;rw[he];rfl
   rw[this];rfl
  |_=>cases hgv
theorem Ev {ih:CH} (hG:dK P tb) (hih:oB P w0 ih) {all:List Oper} {n:Nat} {o:Oper} {σ:GF} {H H':GH} {g:GV} {ρ:cK} {a:Act} {w:World} (ho:Dp n o=true) (F:iQ ρ n σ a) (R:dR w0 ρ H w) (h:AY tb ih all o σ H=some (g,H')):
  (Region.wanted o (yielded all.toArray a.tmps)=true∧xM P w0 ρ σ a w o g H H')∨(Region.wanted o (yielded all.toArray a.tmps)=false∧g = .un∧H'=H):=by
 obtain⟨_,_,h3⟩:=pH ho
 rcases AL F h with⟨hw,hg⟩|h
 ·obtain⟨g',H'',hk,hs⟩:=Lu hG hih F R h3 hg
  cases hk
  exact .inl ⟨hw,hs⟩
 ·exact .inr h

def R_ (tb:TB) (T:TypeId):Bool:=match tb T with
 |some t=>(match t.desc with|.array .. => false|_=>true)
 |none=>false
def pureOp (tb:TB):Op->Bool
 | .move _ | .assign _ | .pick .. | .build .. | .nilCheck _ | .binOp .. | .unOp .. | .convert .. | .makeFunc .. | .fieldAddr .. | .field .. | .indexAddr .. | .index .. | .extract .. => true
 | .slice T _ _ _ _=>R_ tb T
 | .call ⟨.builtin .len,_,_⟩ | .call ⟨.builtin .max,_,_⟩ | .call ⟨.builtin .min,_,_⟩=>true
 |_=>false
def isFloat:Op->Bool
 | .buildSlice .. | .alloc .. | .box .. => true
 |_=>false
theorem eR {ρ:cK} {g:GV} {s:Sem Value} {a:Act} {o:Oper} (h:yC P ρ s g) (he:∀w v,s.run P w = .ok v w->(execOp a.eval o).run P w = .ok (.value v) w):∃v,Rl ρ g v∧∀w,(execOp a.eval o).run P w = .ok (.value v) w:=
 let ⟨v,hv,hr⟩:=h;⟨v,hv,fun w=>he w v (hr w)⟩
theorem QR {ih:CH} (hG:dK P tb) {ρ:cK} {n:Nat} {σ:GF} {a:Act} (F:iQ ρ n σ a) {o:Oper} {H H':GH} {g:GV} (hp:pureOp tb o.op=true) (hoa:FN o.op=true) (h:IE tb ih o.op σ H DW=some (g,H')):
  H'=H∧∃v,Rl ρ g v∧∀w,(execOp a.eval o).run P w = .ok (.value v) w:=by
 obtain⟨d,op,ty,pos,aft,gd⟩:=o
 cases op with
 |move x=>
  obtain⟨v,hv,h⟩:=aA.1 (show ob (gW σ x) _=some (g,H')from h)
  cases h
  exact⟨rfl,_,bM F hv,fun w=>by simp[execOp]⟩
 |assign x=>
  obtain⟨v,hv,h⟩:=aA.1 (show ob (gW σ x) _=some (g,H')from h)
  cases h
  exact⟨rfl,_,bM F hv,fun w=>by simp[execOp]⟩
 |pick c x y=>
  obtain⟨v,hv,h⟩:=aA.1 (show ob (gW σ c) _=some (g,H')from h)
  obtain⟨u,hu,h⟩:=aA.1 h
  obtain⟨t,ht,h⟩:=aA.1 h
  obtain⟨g',hg,h⟩:=aA.1 h
  cases h
  obtain⟨b,hb,hg⟩:=aA.1 (show ob v.asB _=some g from hg)
  have hc:=bM F hv
  rw[w_ hb]at hc
  cases b with
  |true=>cases hg;exact⟨rfl,_,bM F hu,fun w=>by simp[execOp,hc.bool_inv,asBool]⟩
  |false=>cases hg;exact⟨rfl,_,bM F ht,fun w=>by simp[execOp,hc.bool_inv,asBool]⟩
 | build T ps =>
  obtain⟨vs,hvs,h⟩:=aA.1 (show ob (pS σ ps.toList) _=some (g,H')from h)
  obtain⟨g',hg,h⟩:=aA.1 h
  cases h
  exact⟨rfl,eR (Hm hG (xS F hvs) hg) (fun w v hr=>by
   have e:(ps.toList.map fun p=>(p.1,a.eval p.2)).toArray=ps.map fun p=>(p.1,a.eval p.2):=by apply Array.toList_inj.1;simp
   rw[e]at hr
   simp[execOp,hr])⟩
 |nilCheck x=>
  obtain⟨v,hv,h⟩:=aA.1 (show ob (gW σ x) _=some (g,H')from h)
  obtain⟨g',hg,h⟩:=aA.1 h
  cases h
  obtain⟨rfl,hr⟩:=JK (P:=P) (bM F hv) hg
  exact⟨rfl,_,bM F hv,fun w=>hr _ x a.eval rfl rfl w⟩
 | binOp op T x y T' =>
  obtain⟨v,hv,h⟩:=aA.1 (show ob (gW σ x) _=some (g,H')from h)
  obtain⟨u,hu,h⟩:=aA.1 h
  obtain⟨g',hg,h⟩:=aA.1 h
  cases h
  exact⟨rfl,eR (Nx hG x y (bM F hv) (bM F hu) hg) (fun w v hr=>by
   simp only[execOp]
   simp at hr ⊢
   cases hq:Sem.run P (eqGuard op T x y (a.eval x) (a.eval y)) w with
   |ok u w1=>rw[hq]at hr;simp at hr;simp[hr]
   |halt h1 w1=>rw[hq]at hr;cases hr)⟩
 |unOp op T x=>
  obtain⟨v,hv,h⟩:=aA.1 (show ob (gW σ x) _=some (g,H')from h)
  obtain⟨g',hg,h⟩:=aA.1 h
  cases h
  exact⟨rfl,eR (Sv (bM F hv) hg) (fun w v hr=>by simp[execOp,hr])⟩
 |convert S D x=>
  obtain⟨v,hv,h⟩:=aA.1 (show ob (gW σ x) _=some (g,H')from h)
  obtain⟨g',hg,h⟩:=aA.1 h
  cases h
  exact⟨rfl,eR (Ku hG (bM F hv) hg) (fun w v hr=>by simp[execOp,hr])⟩
 | makeFunc fn first caps =>
  cases fn with
  |func f=>
   obtain⟨us,hus,h⟩:=aA.1 (show ob (BI σ first.toList) _=some (g,H')from h)
   obtain⟨vs,hvs,h⟩:=aA.1 h
   cases h
   refine⟨rfl,_,Rl.fn' (AN F hus) (AN F hvs),fun w=> ?_⟩
   have e1:(first.toList.map a.eval).toArray=first.map a.eval:=by apply Array.toList_inj.1;simp
   have e2:(caps.toList.map a.eval).toArray=caps.map a.eval:=by apply Array.toList_inj.1;simp
   rw[e1,e2]
   simp[execOp,Instr.makeFunc]
  |_=>cases h
 |fieldAddr T x f=>
  obtain⟨v,hv,h⟩:=aA.1 (show ob (gW σ x) _=some (g,H')from h)
  obtain⟨g',hg,h⟩:=aA.1 h
  cases h
  exact⟨rfl,eR (Hn hG (bM F hv) hg) (fun w v hr=>by simp[execOp,hr])⟩
 |field T x f=>
  obtain⟨v,hv,h⟩:=aA.1 (show ob (gW σ x) _=some (g,H')from h)
  obtain⟨g',hg,h⟩:=aA.1 h
  cases h
  exact⟨rfl,eR (Kx hG (bM F hv) hg) (fun w v hr=>by simp[execOp,hr])⟩
 |indexAddr T x y=>
  obtain⟨v,hv,h⟩:=aA.1 (show ob (gW σ x) _=some (g,H')from h)
  obtain⟨u,hu,h⟩:=aA.1 h
  obtain⟨g',hg,h⟩:=aA.1 h
  cases h
  exact⟨rfl,eR (Ho hG (bM F hv) (bM F hu) hg) (fun w v hr=>by simp[execOp,hr])⟩
 |index T x y=>
  obtain⟨v,hv,h⟩:=aA.1 (show ob (gW σ x) _=some (g,H')from h)
  obtain⟨u,hu,h⟩:=aA.1 h
  obtain⟨g',hg,h⟩:=aA.1 h
  cases h
  exact⟨rfl,eR (Si hG (bM F hv) (bM F hu) hg) (fun w v hr=>by simp[execOp,hr])⟩
 | slice T x lo hi mx =>
  cases mx with
  | none =>
   obtain⟨v,hv,h⟩:=aA.1 (show ob (gW σ x) _=some (g,H')from h)
   obtain⟨l,hl,h⟩:=aA.1 h
   obtain⟨e,he,h⟩:=aA.1 h
   obtain⟨g',hg,h⟩:=aA.1 h
   cases h
   have hA:∀t,tb T=some t->W_ t.desc=none:=fun t ht=>by
    have hs:R_ tb T=true:=hp
    unfold R_ at hs
    rw[ht]at hs
    simp only at hs
    cases hq:t.desc<;>rw[hq]at hs<;>first|rfl|cases hs
   exact⟨rfl,eR (Hp (gs:=WN) hG (.inr hA) (bM F hv) (Ez F hl) (Ez F he) hg) (fun w v hr=>by simp[execOp,hr])⟩
  |some y=>cases h
 |extract x i=>
  obtain⟨v,hv,h⟩:=aA.1 (show ob (gW σ x) _=some (g,H')from h)
  obtain⟨g',hg,h⟩:=aA.1 h
  cases h
  exact⟨rfl,eR (Nz (bM F hv) hg) (fun w v hr=>by simp[execOp,hr])⟩
 | call c =>
  obtain⟨cal,xs,ts⟩:=c
  cases cal with
  |value f=>cases hp
  |invoke x m=>cases hp
  | builtin b =>
   have hlen:ts.size=xs.size:=Nat.eq_of_beq_eq_true hoa
   have h:LB tb xs ts b σ H DW=some (g,H'):=h
   cases b with
   | len =>
    obtain⟨x,hx,h⟩:=yS (show FA xs.toList (Oy tb ts.toList) σ H DW=some (g,H')from h)
    obtain⟨T,hT,h⟩:=aA.1 (show ob (CV ts.toList 0) _=some (g,H')from h)
    obtain⟨v,hv,h⟩:=aA.1 h
    obtain⟨g',hg,h⟩:=aA.1 h
    cases h
    have ex:=EH hx
    subst ex
    have et:ts = #[T]:=by
     rw[pT]at hT
     obtain⟨l⟩:=ts
     match l,hlen with
     | [t],_=>simp at hT;subst hT;rfl
    subst et
    exact⟨rfl,eR (NA hG (ty:=ty) (bM F hv) hg) (fun w v hr=>by simp[execOp,resolve,invoke,builtin,hr])⟩
   | cap =>
    obtain⟨x,hx,h⟩:=yS (show FA xs.toList (Ox tb ts.toList) σ H DW=some (g,H')from h)
    obtain⟨T,hT,h⟩:=aA.1 (show ob (CV ts.toList 0) _=some (g,H')from h)
    obtain⟨v,hv,h⟩:=aA.1 h
    obtain⟨g',hg,h⟩:=aA.1 h
    cases h
    have ex:=EH hx
    subst ex
    have et:ts = #[T]:=by
     rw[pT]at hT
     obtain⟨l⟩:=ts
     match l,hlen with
     | [t],_=>simp at hT;subst hT;rfl
    subst et
    exact⟨rfl,eR (Ny hG (ty:=ty) (bM F hv) hg) (fun w v hr=>by simp[execOp,resolve,invoke,builtin,hr])⟩
   | max =>
    obtain⟨x,y,hx,h⟩:=tE (show Ak xs.toList (fun x y=>k2 x y Ss) σ H DW=some (g,H')from h)
    obtain⟨v,hv,h⟩:=aA.1 (show ob (gW σ x) _=some (g,H')from h)
    obtain⟨u,hu,h⟩:=aA.1 h
    obtain⟨g',hg,h⟩:=aA.1 h
    cases h
    have ex:=AV hx
    subst ex
    obtain⟨t1,t2,et⟩:∃t1 t2,ts = #[t1,t2]:=by
     obtain⟨l⟩:=ts
     match l,hlen with
     | [t,t'],_=>exact⟨t,t',rfl⟩
    subst et
    exact⟨rfl,eR (ND (t1:=t1) (t2:=t2) (ty:=ty) (bM F hv) (bM F hu) hg) (fun w v hr=>by simp[execOp,resolve,invoke,builtin,hr])⟩
   | min =>
    obtain⟨x,y,hx,h⟩:=tE (show Ak xs.toList (fun x y=>k2 x y Su) σ H DW=some (g,H')from h)
    obtain⟨v,hv,h⟩:=aA.1 (show ob (gW σ x) _=some (g,H')from h)
    obtain⟨u,hu,h⟩:=aA.1 h
    obtain⟨g',hg,h⟩:=aA.1 h
    cases h
    have ex:=AV hx
    subst ex
    obtain⟨t1,t2,et⟩:∃t1 t2,ts = #[t1,t2]:=by
     obtain⟨l⟩:=ts
     match l,hlen with
     | [t,t'],_=>exact⟨t,t',rfl⟩
    subst et
    exact⟨rfl,eR (NE (t1:=t1) (t2:=t2) (ty:=ty) (bM F hv) (bM F hu) hg) (fun w v hr=>by simp[execOp,resolve,invoke,builtin,hr])⟩
   |_=>cases hp
 |_=>cases hp
theorem Kt (hG:dK P tb) {T:TypeId} {n:Nat} {l:List (Nat×GV)} {parts:List (Nat×Value)} {ρ:cK} {H H':GH} {g:GV} (hp:Xh ρ l parts) (h:wV tb T n l H=some (g,H')):
  ∃cs a' T' len sz,H'=H.new (.cells cs)∧g = .sl H.n 0 len sz∧NS ρ cs a'∧cs.length=a'.size∧∀w:World,∃V,(Instr.buildSlice T n parts.toArray).run P w = .ok V (w.alloc (.cells a' T'))∧∀ρ':cK,ρ' H.n=some ⟨w.heap.size,0,a'.size,.cells a' T',.cells cs⟩->Rl ρ' g V:=by
 obtain⟨te,hte,h⟩:=aA.1 (show ob (vO tb T) _=some (g,H')from h)
 obtain⟨zc,hz,h⟩:=aA.1 h
 obtain⟨hlen,h⟩:=a_.1 h
 obtain⟨hbig,h⟩:=a_.1 h
 obtain⟨h0,h⟩:=iK.1 h
 obtain⟨cs,hfill,h⟩:=aA.1 h
 rw[fU]at h;cases h
 obtain⟨⟨d,hd,hde⟩,hE,htab⟩:=tB hG hte
 obtain⟨dz,hdz,_,hC⟩:=rS (ρ:=ρ) hG hz
 rw[htab]at hdz;cases hdz
 have hlen:zc.length=te.2.size:=Nat.eq_of_beq_eq_true hlen
 have h0:te.2.size≠0:=fun e=>by rw[e]at h0;cases h0
 have hbig:n*te.2.size<16777216:=by simpa [Nat.blt_eq]using hbig
 have hrep:=EE hC (by omega) n
 rw[hlen]at hrep
 obtain⟨a',f1,f2⟩:=AO hp hrep hfill
 have hsz0:cs.length=a'.size:=by have:=f2.r.len;simpa using this
 have hsz:a'.size=n*te.2.size:=by
  have e1:=f2.r.len
  have:cs.length=(KJ zc n).length:=BJ hfill
  rw[this,CB,hlen]at e1
  simp at e1;omega
 refine⟨cs,a',te.1,n,te.2.size,rfl,rfl,f2,hsz0,fun w=>⟨.slice (some ⟨w.heap.size,0,none⟩) n n,?_,fun ρ' hρ=> .sl (l:=⟨w.heap.size,0,a'.size,.cells a' te.1,.cells cs⟩) hρ (Nat.le_refl _) (.inr ⟨rfl,by simp[hsz]⟩)⟩⟩
 have hu:=hd.run_und w
 rw[hde]at hu
 by_cases hn:n*te.2.size=0
 ·have hz0:n=0:=by rcases Nat.mul_eq_zero.1 hn with h|h;exact h;exact absurd h h0
  subst hz0
  have e0:(Array.range (0*te.2.size)).map (te.2.zero.cells[· % te.2.zero.cells.size]!)=(#[]:Array Value):=by simp
  rw[e0]at f1
  have e1:(Array.range 0).map (fun _=>(default:Value)) = #[]:=by simp
  simp[Instr.buildSlice,hu,hE.run_size w,newRow]
  simp[e1,f1]
 ·simp[Instr.buildSlice,hu,hE.run_size w,hE.run_zero w,hn,f1,newRow,show¬(16777216<n*te.2.size) by omega]

theorem PI {ρ0 ρ1 ρ2:cK} (hk:∀h l0 l,ρ0 h=some l0->ρ1 h=some l->ρ2 h=some l) {g:GV} {v:Value} (h1:Rl ρ1 g v):∀{v0:Value},Rl ρ0 g v0->Rl ρ2 g v:=by
 induction h1 with
 |int k n=>exact fun _=> .int k n
 |bool b=>exact fun _=> .bool b
 |str s=>exact fun _=> .str s
 |ptr off hl=>exact fun h0=>by cases h0 with|ptr _ hl0=>exact .ptr off (hk _ _ _ hl0 hl)
 |pnil=>exact fun _=> .pnil
 |sl hl hc ha=>exact fun h0=>by cases h0 with|sl hl0 _ _=>exact .sl (hk _ _ _ hl0 hl) hc ha
 |snil=>exact fun _=> .snil
 |map hl=>exact fun h0=>by cases h0 with|map hl0=>exact .map (hk _ _ _ hl0 hl)
 | fn f a b c d ihb ihd =>
   intro v0 h0
   cases h0 with
   | fn _ a0 b0 c0 d0 =>
    refine .fn f a (fun i g v hg hv=> ?_) c (fun i g v hg hv=> ?_)
    ·have:=aU hg
     exact ihb i g v hg hv (b0 i g _ hg (List.getElem?_eq_getElem (by omega)))
    ·have:=aU hg
     exact ihd i g v hg hv (d0 i g _ hg (List.getElem?_eq_getElem (by omega)))
 |fnil=>exact fun _=> .fnil
 |inil=>exact fun _=> .inil
 | agg a b c ihb =>
   intro v0 h0
   cases h0 with
   |agg a0 b0 c0=>
    refine .agg a (fun i g v hg hv=> ?_) c
    have:=aU hg
    exact ihb i g v hg hv (b0 i g _ hg (List.getElem?_eq_getElem (by omega)))
 | tup a b ihb =>
   intro v0 h0
   cases h0 with
   |tup a0 b0=>
    refine .tup a (fun i g v hg hv=> ?_)
    have:=aU hg
    exact ihb i g v hg hv (b0 i g _ hg (List.getElem?_eq_getElem (by omega)))
 |un=>exact fun _=> .un
 |bad v=>exact fun _=> .bad v
 | opn v h hx =>
   intro v0 h0
   obtain⟨l0,a,_⟩:=h0.opn_inv
   exact .opn v (hk _ _ _ a h) hx

structure Va (tb:TB) (ih:CH) (all l:List Oper) (S:Nat->GF) (HH:Nat->GH) (gg:Nat->GV):Prop where
 st:∀i o,l[i]? = some o->AY tb ih all o (S i) (HH i)=some (gg i,HH (i+1))
 up:∀i o,l[i]? = some o->S (i+1)=putD o.dst (gg i) (S i)
theorem GU {ih:CH} {all:List Oper} {k:GS->RS} {out:IU}:∀(l:List Oper) (s:GS),Bh tb ih all k l s=some out->∃S HH gg,S 0=s.σ∧HH 0=s.H∧Va tb ih all l S HH gg∧k ⟨S l.length,HH l.length⟩=some out
 | [],s,h=>⟨fun _=>s.σ,fun _=>s.H,fun _=> .un,rfl,rfl,⟨fun i o ho=>by simp at ho,fun i o ho=>by simp at ho⟩,h⟩
 | o :: l, s, h => by
  obtain⟨g,H',h1,h2⟩:=AM (show Fp tb ih all o (Bh tb ih all k l) s=some out from h)
  obtain⟨S,HH,gg,e1,e2,ht,hk⟩:=GU l _ h2
  refine⟨fun i=>Nat.casesOn i s.σ S,fun i=>Nat.casesOn i s.H HH,fun i=>Nat.casesOn i g gg,rfl,rfl,⟨fun i o' ho=> ?_,fun i o' ho=> ?_⟩,hk⟩
  ·cases i with
   |zero=>simp at ho;subst ho;show AY tb ih all o s.σ s.H=some (g,HH 0);rw[h1,e2]
   |succ i=>exact ht.st i o' (by simpa using ho)
  ·cases i with
   |zero=>simp at ho;subst ho;exact e1
   |succ i=>exact ht.up i o' (by simpa using ho)
theorem tF {o:Op} (h:jP o=true):cU o=false:=by
 cases o<;>first|rfl|cases h
structure YE (all l:List Oper) (m:List Nat) (i:Nat) (S:Nat->GF) (HH:Nat->GH) (pr:List (Nat×Option (Nat×Nat))) (hs:List (Nat×GH)):Prop where
 pr:∀q h v,(q,some (h,v))∈pr->∀j oj,l[j]? = some oj->cU oj.op=true->before m (i+j) q=false->(HH (j+1)).ver h=some v
 hs:∀k ok h,l[k]? = some ok->jP ok.op=true->Us (S k) ok.op=some h->∃v,(HH k).ver h=some v∧∀q Hq,(q,Hq)∈hs->before m (i+k) q=false->Hq.ver h=some v
 lo:∀k ok h v,l[k]? = some ok->jP ok.op=true->Us (S k) ok.op=some h->(HH k).ver h=some v->
  (∀j oj,j<k->l[j]? = some oj->cU oj.op=true->before m (i+k) (i+j)=false->(HH j).ver h=some v)∧(∀j oj,k<j->l[j]? = some oj->cU oj.op=true->before m (i+j) (i+k)=false->(HH (j+1)).ver h=some v)
theorem YE.cons {all l:List Oper} {m:List Nat} {i:Nat} {S:Nat->GF} {HH:Nat->GH} {pr pr':List (Nat×Option (Nat×Nat))} {hs hs':List (Nat×GH)} {o:Oper} {σ:GF} {H:GH} (V:YE all l m (i+1) S HH pr' hs')
  (hpr:∀p∈pr,p∈pr') (hhs:∀p∈hs,p∈hs') (h1:cU o.op=true->(i,H)∈hs'∧∀p∈pr,before m i p.1=false->∀hv,p.2=some hv->(HH 0).ver hv.1=some hv.2)
  (h2:jP o.op=true->∀h,Us σ o.op=some h->∃v,H.ver h=some v∧(i,some (h,v))∈pr'∧∀q Hq,(q,Hq)∈hs->before m i q=false->Hq.ver h=some v):
  YE all (o::l) m i (fun j=>Nat.casesOn j σ S) (fun j=>Nat.casesOn j H HH) pr hs:=by
 have e:∀j,i+(j+1)=i+1+j:=fun j=>by omega
 refine⟨fun q h v hq j oj hj hl hb=> ?_,fun k ok h hk hl hh=> ?_,fun k ok h v hk hl hh hv=>⟨fun j oj hjk hj hlj hb=> ?_,fun j oj hjk hj hlj hb=> ?_⟩⟩
 ·cases j with
  |zero=>simp at hj;subst hj;exact(h1 hl).2 _ hq (by simpa using hb) _ rfl
  |succ j=>exact V.pr q h v (hpr _ hq) j oj (by simpa using hj) hl (by rw[<-e];exact hb)
 ·cases k with
  |zero=>
   simp at hk;subst hk
   obtain⟨v,a,_,c⟩:=h2 hl h hh
   exact⟨v,a,fun q Hq hq hb=>c q Hq hq (by simpa using hb)⟩
  |succ k=>
   obtain⟨v,a,b⟩:=V.hs k ok h (by simpa using hk) hl hh
   exact⟨v,a,fun q Hq hq hb=>b q Hq (hhs _ hq) (by rw[<-e];exact hb)⟩
 ·cases k with
  |zero=>omega
  | succ k =>
   have hk:l[k]? = some ok:=by simpa using hk
   cases j with
   |zero=>
    simp at hj;subst hj
    obtain⟨v',a,b⟩:=V.hs k ok h hk hl hh
    have a:(HH k).ver h=some v':=a
    have hv:(HH k).ver h=some v:=hv
    rw[a]at hv;cases hv
    exact b i H (h1 hlj).1 (by rw[<-e];simpa using hb)
   |succ j=>exact(V.lo k ok h v hk hl hh hv).1 j oj (by omega) (by simpa using hj) hlj (by rw[<-e,<-e];exact hb)
 ·cases j with
  |zero=>omega
  | succ j =>
   have hj:l[j]? = some oj:=by simpa using hj
   cases k with
   |zero=>
    simp at hk;subst hk
    obtain⟨v',a,b,_⟩:=h2 hl h hh
    have hv:H.ver h=some v:=hv
    rw[a]at hv;cases hv
    exact V.pr i h v b j oj hj hlj (by rw[<-e];simpa using hb)
   |succ k=>exact(V.lo k ok h v (by simpa using hk) hl hh hv).2 j oj (by omega) hj hlj (by rw[<-e,<-e];exact hb)
theorem Ew {ih:CH} {all:List Oper} {m:List Nat} {k:GS->RS} {out:IU}:∀(l:List Oper) (i:Nat) (pr:List (Nat×Option (Nat×Nat))) (hs:List (Nat×GH)) (s:GS),Xm tb ih all m k l i pr hs s=some out->
  ∃S HH gg,S 0=s.σ∧HH 0=s.H∧Va tb ih all l S HH gg∧YE all l m i S HH pr hs∧k ⟨S l.length,HH l.length⟩=some out
 | [],i,pr,hs,s,h=>⟨fun _=>s.σ,fun _=>s.H,fun _=> .un,rfl,rfl,⟨fun i o ho=>by simp at ho,fun i o ho=>by simp at ho⟩,⟨fun _ _ _ _ j oj hj=>by simp at hj,fun k ok h hk=>by simp at hk,fun k ok h v hk=>by simp at hk⟩,h⟩
 | o :: l, i, pr, hs, s, h => by
  have h':QD tb ih all m o (Xm tb ih all m k l) i pr hs s=some out:=h
  have trc:∀{g:GV} {H':GH} {S:Nat->GF} {HH:Nat->GH} {gg:Nat->GV},AY tb ih all o s.σ s.H=some (g,H')->S 0=putD o.dst g s.σ->HH 0=H'->Va tb ih all l S HH gg->Va tb ih all (o::l) (fun j=>Nat.casesOn j s.σ S) (fun j=>Nat.casesOn j s.H HH) (fun j=>Nat.casesOn j g gg):=fun {g H' S HH gg} h1 e1 e2 ht=>⟨fun i o' ho=>by
    cases i with
    |zero=>simp at ho;subst ho;show AY tb ih all o s.σ s.H=some (g,HH 0);rw[h1,e2]
    |succ i=>exact ht.st i o' (by simpa using ho),fun i o' ho=>by
    cases i with
    |zero=>simp at ho;subst ho;exact e1
    |succ i=>exact ht.up i o' (by simpa using ho)⟩
  unfold QD at h'
  cases hlo:cU o.op with
  |true=>
   rw[hlo]at h'
   obtain⟨g,H',h1,h2⟩:=AM h'
   obtain⟨_,h4,h3⟩:=aA.1 h2
   have h4:=Ac h4
   obtain⟨S,HH,gg,e1,e2,ht,hv,hk⟩:=Ew l _ _ _ _ h3
   refine⟨_,_,_,rfl,rfl,trc h1 e1 e2 ht,hv.cons (fun _ h=>h) (fun p hp=>List.mem_cons_of_mem _ hp) (fun _=>⟨List.mem_cons_self,fun p hp hb hv' he=>by rw[e2];exact h4 p hp hb hv' he⟩) (fun hld=>by rw[tF hld]at hlo;cases hlo),hk⟩
  | false =>
   rw[hlo]at h'
   cases hld:jP o.op with
   |true=>
    simp only[hld]at h'
    obtain⟨g,H',h1,h2⟩:=AM h'
    obtain⟨e,h4,h3⟩:=aA.1 h2
    obtain⟨S,HH,gg,e1,e2,ht,hv,hk⟩:=Ew l _ _ _ _ h3
    refine⟨_,_,_,rfl,rfl,trc h1 e1 e2 ht,hv.cons (fun p hp=>List.mem_cons_of_mem _ hp) (fun _ h=>h) (fun h=>by rw[hlo]at h;cases h) (fun _ hh hldh=> ?_),hk⟩
    rw[hldh]at h4
    obtain⟨v,hv1,h4⟩:=aA.1 (show ob (s.H.ver hh) (fun v=>Fh m i hh v hs)=some e from h4)
    obtain⟨rfl,h5⟩:=Ad h4
    exact⟨v,hv1,List.mem_cons_self,fun q Hq hq hb=>h5 (q,Hq) hq hb⟩
   |false=>
    simp only[hld]at h'
    obtain⟨g,H',h1,h2⟩:=AM h'
    obtain⟨S,HH,gg,e1,e2,ht,hv,hk⟩:=Ew l _ _ _ _ h2
    exact⟨_,_,_,rfl,rfl,trc h1 e1 e2 ht,hv.cons (fun _ h=>h) (fun _ h=>h) (fun h=>by rw[hlo]at h;cases h) (fun h=>by rw[hld]at h;cases h),hk⟩
theorem QC {ih:CH} (hG:dK P tb) (hih:oB P w0 ih) {all:List Oper} {n:Nat} {o:Oper} {σ:GF} {H H':GH} {g:GV} {ρ:cK} {a:Act} {w:World} (ho:Dp n o=true) (F:iQ ρ n σ a) (R:dR w0 ρ H w) (h:AY tb ih all o σ H=some (g,H')):
  ∃ρ' a' w',ρ.le ρ'∧dR w0 ρ' H' w'∧iQ ρ' n (putD o.dst g σ) a':=by
 obtain⟨_,hdst,_⟩:=pH ho
 rcases Ev hG hih ho F R h with⟨_,hs⟩|⟨_,rfl,rfl⟩
 ·rcases hs with⟨_,_,_,rfl,v,hv,_⟩|⟨_,_,rfl,v,_,_,_,_,_,hv,_⟩|⟨_,_,rfl,v,hv,_⟩|⟨_,hr⟩
  ·exact⟨ρ,_,w,cK.le_refl _,R,F.putD hdst hv⟩
  ·exact⟨ρ,_,w,cK.le_refl _,R,F.putD hdst hv⟩
  ·exact⟨ρ,_,w,cK.le_refl _,R,F.putD hdst hv⟩
  ·obtain⟨a',w',ρ',v,h1,h2,h3,rfl⟩:=JM (hr (fun a' w'=>∃ρ' v,ρ.le ρ'∧dR w0 ρ' H' w'∧Rl ρ' g v∧a'=a.put o.dst v) fun ρ' w' v h1 h2 h3=>⟨ρ',v,h1,h2,h3,rfl⟩)
   exact⟨ρ',_,w',h1,h2,(F.le h1).putD hdst h3⟩
 ·exact⟨ρ,_,w,cK.le_refl _,R,F.putD hdst .un⟩
theorem Hk {ih:CH} (hG:dK P tb) (hih:oB P w0 ih) {all:List Oper} {n:Nat} (hall:all.all (Dp n)=true) {S:Nat->GF} {HH:Nat->GH} {gg:Nat->GV} (T:Va tb ih all all S HH gg) {ρ:cK} {a:Act} {w:World} (F:iQ ρ n (S 0) a) (R:dR w0 ρ (HH 0) w):
    ∀m,m<=all.length->∃ρs:Nat->cK,(∀i,i<=m->∃a w,dR w0 (ρs i) (HH i) w∧iQ (ρs i) n (S i) a)∧∀i,i<m->(ρs i).le (ρs (i+1))
  | 0, _ => ⟨fun _ => ρ, fun i hi => by have : i = 0 := by omega
                                        subst this;exact⟨a,w,R,F⟩,fun i hi=>by omega⟩
  | m + 1, hm => by
    obtain⟨ρs,h1,h2⟩:=Hk hG hih hall T F R m (by omega)
    obtain⟨a1,w1,R1,F1⟩:=h1 m (Nat.le_refl _)
    have hget:all[m]? = some all[m]:=List.getElem?_eq_getElem (by omega)
    obtain⟨ρ2,a2,w2,hle,h3,h4⟩:=QC hG hih (List.all_eq_true.1 hall _ (List.getElem_mem (by omega))) F1 R1 (T.st m _ hget)
    refine⟨fun i=>if i<=m then ρs i else ρ2,fun i hi=> ?_,fun i hi=> ?_⟩
    · by_cases e:i<=m
      · simp only[e,if_true];exact h1 i e
      · have:i=m+1:=by omega
        subst this
        simp only[e,if_false]
        exact⟨a2,w2,h3,by rw[T.up m _ hget];exact h4⟩
    · by_cases e:i+1<=m
      · simp only[e,show i<=m by omega,if_true];exact h2 i (by omega)
      · have:i=m:=by omega
        subst this
        simp only[e,Nat.le_refl,if_true,if_false];exact hle
theorem Kp {HH:Nat->GH} {m:Nat} (h1:∀i,i<m->(HH i).n<=(HH (i+1)).n) {i:Nat}:∀{j:Nat},i<=j->j<=m->(HH i).n<=(HH j).n
  | 0, h, _ => by have : i = 0 := by omega
                  subst this;exact Nat.le_refl _
  | j + 1, h, hj => by
    by_cases e:i=j+1
    · subst e;exact Nat.le_refl _
    · exact Nat.le_trans (Kp h1 (by omega) (by omega)) (h1 j (by omega))
theorem Ge {ih:CH} {all:List Oper} {S:Nat->GF} {HH:Nat->GH} {gg:Nat->GV} (T:Va tb ih all all S HH gg) {t:Nat} {g:GV}:∀k,k<=all.length->AZ (S k) t=some g->
  (∃i o,i<k∧all[i]? = some o∧o.dst=some t∧gg i=g∧∀j oj,i<j->j<k->all[j]? = some oj->oj.dst≠some t)∨((∀j oj,j<k->all[j]? = some oj->oj.dst≠some t)∧AZ (S 0) t=some g)
 |0,_,h=> .inr ⟨fun j oj hj=>by omega,h⟩
 | k + 1, hk, h => by
  have hget:all[k]? = some all[k]:=List.getElem?_eq_getElem (by omega)
  rw[T.up k _ hget]at h
  have old:all[k].dst≠some t->AZ (S k) t=some g->_:=fun hne h=>
   match Ge T k (by omega) h with
   | .inl ⟨i, o, h1, h2, h3, h4, h5⟩ => (.inl ⟨i, o, by omega, h2, h3, h4, fun j oj hij hj hoj => by
     by_cases e:j=k
     ·subst e;rw[hget]at hoj;cases hoj;exact hne
     ·exact h5 j oj hij (by omega) hoj⟩:(∃i o,i<k+1∧all[i]? = some o∧o.dst=some t∧gg i=g∧∀j oj,i<j->j<k+1->all[j]? = some oj->oj.dst≠some t)∨((∀j oj,j<k+1->all[j]? = some oj->oj.dst≠some t)∧AZ (S 0) t=some g))
   | .inr ⟨h1, h2⟩ => .inr ⟨fun j oj hj hoj => by
     by_cases e:j=k
     ·subst e;rw[hget]at hoj;cases hoj;exact hne
     ·exact h1 j oj (by omega) hoj,h2⟩
  cases hd:all[k].dst with
  |none=>
   rw[hd]at h
   exact old (by rw[hd];simp) h
  | some d =>
   rw[hd]at h
   have h:AZ ((d,gg k)::S k) t=some g:=h
   rw[vR]at h
   by_cases e:t=d
   ·subst e
    rw[if_pos rfl]at h;cases h
    exact .inl ⟨k,_,by omega,hget,hd,rfl,fun j oj h1 h2=>by omega⟩
   ·rw[if_neg e]at h
    exact old (by rw[hd];intro e';cases e';exact e rfl) h

def kD (o:Op):Bool:=cU o && !isFloat o
def DU (tb:TB) (x o:Op):Bool:=pureOp tb x||pureOp tb o||isFloat o||(!cU x && !cU o)||(jP x&&cU o)||(kD x&&jP o)
def chkF (tb:TB) (l:List Oper) (m:List Nat):Bool:=
 (List.range l.length).all fun i=>match l[i]? with
  |none=>false
  |some o=>
   (pJ o).all (fun e=>Nat.blt e i&&before m i e&&(List.range i).all (fun k=> !before m e k||before m i k)) &&
   (List.range l.length).all (fun k=> !before m i k||(Nat.blt k i&&(pJ o).any (fun e=>Nat.beq e k||before m e k))) &&
   !xT o.op &&
   (List.range i).all (fun x=>before m i x||(match l[x]? with|none=>false|some ox=>ox.apart l.toArray o&&DU tb ox.op o.op))
structure Pd (tb:TB) (l:List Oper) (m:List Nat):Prop where
 edge:∀(i:Nat) (o:Oper),l[i]? = some o->∀e∈pJ o,e<i∧before m i e=true
 trans:∀(i:Nat) (o:Oper),l[i]? = some o->∀k,before m i k=true->k<l.length->k<i∧∃e∈pJ o,e=k∨before m e k=true
 ind:∀(i x:Nat) (oi ox:Oper),l[i]? = some oi->l[x]? = some ox->x<i->before m i x=false->ox.apart l.toArray oi=true∧DU tb ox.op oi.op=true
theorem Dd {l:List Oper} {m:List Nat} (h:chkF tb l m=true):Pd tb l m:=by
 have key:∀(i:Nat) (o:Oper),l[i]? = some o->
   ((pJ o).all (fun e=>Nat.blt e i&&before m i e&&(List.range i).all (fun k=> !before m e k||before m i k))=true)∧
   ((List.range l.length).all (fun k=> !before m i k||(Nat.blt k i&&(pJ o).any (fun e=>Nat.beq e k||before m e k)))=true)∧xT o.op=false∧
   ((List.range i).all (fun x=>before m i x||(match l[x]? with|none=>false|some ox=>ox.apart l.toArray o&&DU tb ox.op o.op))=true):=by
  intro i o ho
  have:=List.all_eq_true.1 h i (List.mem_range.2 (aU ho))
  simp only[ho,Bool.and_eq_true,Bool.not_eq_true']at this
  exact⟨this.1.1.1,this.1.1.2,this.1.2,this.2⟩
 refine⟨?_,?_,?_⟩
 ·intro i o ho e he
  have:=List.all_eq_true.1 (key i o ho).1 e he
  simp only[Bool.and_eq_true,Nat.blt_eq]at this
  exact⟨this.1.1,this.1.2⟩
 ·intro i o ho k hk hlt
  have:=List.all_eq_true.1 (key i o ho).2.1 k (List.mem_range.2 hlt)
  simp only[hk,Bool.not_true,Bool.false_or,Bool.and_eq_true,Nat.blt_eq,List.any_eq_true,Bool.or_eq_true]at this
  obtain⟨h1,e,he,h2⟩:=this
  refine⟨h1,e,he,?_⟩
  rcases h2 with h2|h2
  ·exact .inl (Nat.eq_of_beq_eq_true h2)
  ·exact .inr h2
 ·intro i x oi ox hi hx hlt hb
  have:=(key i oi hi).2.2.2
  have:=List.all_eq_true.1 this x (List.mem_range.2 hlt)
  simp only[hb,Bool.false_or,hx,Bool.and_eq_true]at this
  exact this

theorem GZ {ih:CH} (hG:dK P tb) {all:List Oper} {n:Nat} {o:Oper} {σ:GF} {H H':GH} {g:GV} {ρ:cK} {a:Act} (hf:isFloat o.op=true) (F:iQ ρ n σ a) (h:AY tb ih all o σ H=some (g,H')):
  (Region.wanted o (yielded all.toArray a.tmps)=false∧g = .un∧H'=H)∨
  (Region.wanted o (yielded all.toArray a.tmps)=true∧∃cs a' T',H'=H.new (.cells cs)∧NS ρ cs a'∧cs.length=a'.size∧∀w:World,∃V,(execOp a.eval o).run P w = .ok (.value V) (w.alloc (.cells a' T'))∧∀ρ':cK,ρ' H.n=some ⟨w.heap.size,0,a'.size,.cells a' T',.cells cs⟩->Rl ρ' g V):=by
 rcases AL F h with⟨hw,hg⟩|h
 ·refine .inr ⟨hw,?_⟩
  obtain⟨d,op,ty,pos,aft,gd⟩:=o
  cases op with
  |buildSlice T m ps=>
   obtain⟨vs,hvs,hg⟩:=aA.1 (show ob (pS σ ps.toList) _=some (g,H')from hg)
   obtain⟨g',H'',hg,hk⟩:=kC hg
   cases hk
   obtain⟨cs,a',T',len,sz,h1,h2,h3,h4,h5⟩:=Kt (P:=P) hG (xS F hvs) hg
   refine⟨cs,a',T',h1,h3,h4,fun w=> ?_⟩
   obtain⟨V,hr,hv⟩:=h5 w
   refine⟨V,?_,hv⟩
   have e:(ps.toList.map fun p=>(p.1,a.eval p.2)).toArray=ps.map fun p=>(p.1,a.eval p.2):=by apply Array.toList_inj.1;simp
   rw[e]at hr
   simp[execOp,hr]
  |alloc T=>
   obtain⟨g',H'',hg,hk⟩:=kC (show fQ (rH tb T H) DW=some (g,H')from hg)
   cases hk
   obtain⟨zc,hz,hg⟩:=aA.1 (show ob (xK tb T) _=some (g,H')from hg)
   rw[fU]at hg;cases hg
   obtain⟨d,hd,hT,hC⟩:=rS (ρ:=ρ) hG hz
   refine⟨zc,d.zero.cells,T,rfl,hC,by have:=hC.r.len;simpa using this,fun w=>⟨_,?_,fun ρ' hρ=> .ptr (l:=⟨w.heap.size,0,d.zero.cells.size,.cells d.zero.cells T,.cells zc⟩) 0 hρ⟩⟩
   simp[execOp,Du w hT]
  |box T x=>
   obtain⟨v,hv,hg⟩:=aA.1 (show ob (gW σ x) (fun v=>fQ (L_ v H) DW)=some (g,H')from hg)
   obtain⟨g',H'',hg,hk⟩:=kC hg
   cases hk
   obtain⟨vc,hc,hg⟩:=aA.1 (show ob v.cells _=some (g,H')from hg)
   rw[fU]at hg;cases hg
   obtain⟨vs,e,hr,h1⟩:=(bM F hv).cells hc
   refine⟨vc,(a.eval x).cells,T,rfl,by rw[e];exact⟨hr,h1⟩,by rw[e];have:=hr.len;simpa using this,fun w=>⟨_,?_,fun ρ' hρ=> .ptr (l:=⟨w.heap.size,0,(a.eval x).cells.size,.cells (a.eval x).cells T,.cells vc⟩) 0 hρ⟩⟩
   simp[execOp,Instr.box,newVar,newRow]
  |_=>cases hf
 ·exact .inl h
end
end
section
def BW (ρ pm:cK):cK:=fun h=>match ρ h with
 |some l=>some l
 |none=>pm h
theorem sC {ρ pm:cK} {h:Nat} {l:GE} (e:ρ h=some l):BW ρ pm h=some l:=by simp[BW,e]
theorem sB {ρ pm:cK} {h:Nat} (e:ρ h=none):BW ρ pm h=pm h:=by simp[BW,e]
theorem Cs {ρ pm:cK}:ρ.le (BW ρ pm):=fun _ _ e=>sC e
def XM (all:List Oper) (S0:GF) (gg:Nat->GV) (D:Nat->Bool) (t:Nat) (g:GV):Prop:=
 (∃i o,D i=true∧all[i]? = some o∧o.dst=some t∧gg i=g∧∀j oj,D j=true->all[j]? = some oj->oj.dst=some t->j<=i)∨((∀j oj,D j=true->all[j]? = some oj->oj.dst≠some t)∧AZ S0 t=some g)
def ins (D:Nat->Bool) (k:Nat):Nat->Bool:=fun j=>j==k||D j
theorem vV (D:Nat->Bool) (k:Nat):ins D k k=true:=by simp[ins]
theorem uM {D:Nat->Bool} {k j:Nat} (h:j≠k):ins D k j=D j:=by simp[ins,h]
theorem vT {D:Nat->Bool} {k j:Nat} (h:D j=true):ins D k j=true:=by simp[ins,h]
noncomputable def zG (σ:GF) (L:iO):GF:=L.filterMap fun t=>(AZ σ t).map fun g=>(t,g)
theorem xR {σ:GF} {t:Nat}:∀{L:iO},AZ (zG σ L) t=if t∈L then AZ σ t else none
 | []=>rfl
 | x :: L => by
  have ih:=xR (σ:=σ) (t:=t) (L:=L)
  cases hx:AZ σ x with
  |none=>
   have e:zG σ (x::L)=zG σ L:=by simp[zG,hx]
   rw[e,ih]
   by_cases e1:t=x
   ·subst e1;simp[hx]
   ·simp[e1]
  |some g=>
   have e:zG σ (x::L)=(x,g)::zG σ L:=by simp[zG,hx]
   rw[e,vR,ih]
   by_cases e1:t=x
   ·subst e1;simp[hx]
   ·simp[e1]
section
variable {P:Program} {tb:TB} {gs:tX} {w0:cV gs} {ih:CH} {all:List Oper} {n:Nat} {S:Nat->GF} {HH:Nat->GH} {gg:Nat->GV}
structure rD (P:Program) (tb:TB) {gs:tX} (w0:cV gs) (ih:CH) (all:List Oper) (n:Nat) (S:Nat->GF) (HH:Nat->GH) (gg:Nat->GV):Prop where
 tab:dK P tb
 call:∀w0:cV gs,oB P w0 ih
 ops:all.all (Dp n)=true
 chk:Pd tb all (lQ all)
 trc:Va tb ih all all S HH gg
 vrs:∀k ok h v,all[k]? = some ok->jP ok.op=true->Us (S k) ok.op=some h->(HH k).ver h=some v->
  (∀j oj,j<k->all[j]? = some oj->cU oj.op=true->before (lQ all) k j=false->(HH j).ver h=some v)∧(∀j oj,k<j->all[j]? = some oj->cU oj.op=true->before (lQ all) j k=false->(HH (j+1)).ver h=some v)
 chain:∃ρs:Nat->cK,(∀i,i<=all.length->∃a w,dR w0 (ρs i) (HH i) w∧iQ (ρs i) n (S i) a)∧∀i,i<all.length->(ρs i).le (ρs (i+1))
theorem rD.ghost (E:rD P tb w0 ih all n S HH gg) (i:Nat) (hi:i<=all.length):∃ρ a w,dR w0 ρ (HH i) w∧iQ ρ n (S i) a:=
 let ⟨ρs,h,_⟩:=E.chain
 ⟨ρs i,h i hi⟩
theorem rD.mono (E:rD P tb w0 ih all n S HH gg) (i:Nat) (hi:i<all.length):(HH i).n<=(HH (i+1)).n:=by
 obtain⟨ρs,h,hle⟩:=E.chain
 obtain⟨_,_,R1,_⟩:=h i (Nat.le_of_lt hi)
 obtain⟨_,_,R2,_⟩:=h (i+1) hi
 exact R1.mono R2 (hle i hi)
theorem Ju {ρs:Nat->cK} {m:Nat} (h:∀i,i<m->(ρs i).le (ρs (i+1))) {i:Nat}:∀{j:Nat},i<=j->j<=m->(ρs i).le (ρs j)
  | 0, h1, _ => by have : i = 0 := by omega
                   subst this;exact cK.le_refl _
  | j + 1, h1, hj => by
    by_cases e:i=j+1
    · subst e;exact cK.le_refl _
    · exact cK.le_trans (Ju h (by omega) (by omega)) (h j (by omega))
theorem rD.same (E:rD P tb w0 ih all n S HH gg) {i j:Nat} (hij:i<=j) (hj:j<=all.length) {h v:Nat} (h1:(HH i).ver h=some v) (h2:(HH j).ver h=some v):(HH i).get h=(HH j).get h:=by
 obtain⟨ρs,hg,hle⟩:=E.chain
 have hc:=Ju hle hij hj
 obtain⟨_,w1,R1,_⟩:=hg i (by omega)
 obtain⟨_,w2,R2,_⟩:=hg j hj
 have live:∀{k:Nat},(HH k).ver h=some v->∃o,(HH k).get h=some o:=fun {k} hv=>by
  obtain⟨p,hp,_⟩:=aA.1 (show ob ((HH k).t.get h) _=some v from hv)
  exact⟨p.2,by unfold GH.get;rw[hp];rfl⟩
 obtain⟨o1,ho1⟩:=live h1
 obtain⟨o2,ho2⟩:=live h2
 obtain⟨l1,hl1,_⟩:=R1.live h o1 ho1
 obtain⟨l2,hl2,_⟩:=R2.live h o2 ho2
 obtain⟨lv1,a1,_,b1⟩:=R1.vers h v l1 h1 hl1
 obtain⟨lv2,a2,_,b2⟩:=R2.vers h v l2 h2 hl2
 have:=hc _ _ a1
 rw[a2]at this;cases this
 rw[b1,b2]
theorem rD.op (E:rD P tb w0 ih all n S HH gg) {k:Nat} {o:Oper} (hk:all[k]? = some o):Dp n o=true:=List.all_eq_true.1 E.ops o (List.mem_of_getElem? hk)
theorem rD.quiet (E:rD P tb w0 ih all n S HH gg) {k:Nat} {o:Oper} (hk:all[k]? = some o) (hq:cU o.op=false):HH (k+1)=HH k:=by
 obtain⟨ρ,a,w,R,F⟩:=E.ghost k (Nat.le_of_lt (aU hk))
 rcases Ev E.tab (E.call w0) (E.op hk) F R (E.trc.st k o hk)with⟨_,hs⟩|⟨_,_,h⟩
 ·rcases hs with⟨_,_,_,h,_⟩|⟨_,_,h,_⟩|⟨_,_,h,_⟩|⟨h,_⟩
  ·exact h
  ·exact h
  ·exact h
  ·rw[hq]at h;cases h
 ·exact h
theorem rD.floats (E:rD P tb w0 ih all n S HH gg) {k:Nat} {o:Oper} (hk:all[k]? = some o) (hf:isFloat o.op=true):HH (k+1)=HH k∨∃cs,HH (k+1)=(HH k).new (.cells cs):=by
 obtain⟨ρ,a,w,R,F⟩:=E.ghost k (Nat.le_of_lt (aU hk))
 rcases GZ (P:=P) E.tab hf F (E.trc.st k o hk)with⟨_,_,h⟩|⟨_,cs,_,_,h,_⟩
 ·exact .inl h
 ·exact .inr ⟨cs,h⟩
theorem Rp {H:GH} {o:GO} (h:H=H.new o):False:=by
 have:H.n=H.n+1:=congrArg GH.n h
 omega
theorem OE {H:GH} {c c':List GV} (h:H.new (.cells c)=H.new (.cells c')):c=c':=by
 have h1:=mV H (.cells c) H.n
 have h2:=mV H (.cells c') H.n
 rw[if_pos rfl]at h1 h2
 rw[h,h2]at h1
 cases h1;rfl
theorem rD.mono' (E:rD P tb w0 ih all n S HH gg) {i j:Nat} (h:i<=j) (hj:j<=all.length):(HH i).n<=(HH j).n:=Kp E.mono h hj
theorem rD.apart (E:rD P tb w0 ih all n S HH gg) {i j:Nat} {ci cj:List GV} (hi:i<all.length) (hj:j<all.length) (ei:HH (i+1)=(HH i).new (.cells ci)) (ej:HH (j+1)=(HH j).new (.cells cj)) (h:(HH i).n=(HH j).n):i=j:=by
 have ei':(HH (i+1)).n=(HH i).n+1:=by rw[ei];rfl
 have ej':(HH (j+1)).n=(HH j).n+1:=by rw[ej];rfl
 rcases Nat.lt_trichotomy i j with h1|h1|h1
 ·have:=E.mono' (i:=i+1) (j:=j) (by omega) (by omega);omega
 ·exact h1
 ·have:=E.mono' (i:=j+1) (j:=i) (by omega) (by omega);omega
structure rT {gs:tX} (w0:cV gs) (ρb:cK) (n:Nat) (all:List Oper) (S0:GF) (HH:Nat->GH) (gg:Nat->GV) (D:Nat->Bool) (a:Act) (w:World) (t:Nat) (ρ pm:cK):Prop where
 tm:t<=all.length
 lou:∀j o,all[j]? = some o->kD o.op=true->(D j=true↔j<t)
 flo:∀j o,all[j]? = some o->isFloat o.op=true->j<t->D j=true
 rel:dR w0 ρ (HH t) w
 up:ρb.le ρ
 defers:a.defers=[]
 size:a.tmps.size=n
 slot:∀s g,XM all S0 gg D s g->Rl (BW ρ pm) g (a.eval (.tmp s))
 pend:∀i o cs,all[i]? = some o->isFloat o.op=true->HH (i+1)=(HH i).new (.cells cs)->t<=i->D i=true->∃l,pm (HH i).n=some l∧w0.mine l.b∧¬Pf ρ (HH t) l.b∧w.heap[l.b]? = some l.x∧sR (BW ρ pm) w l (.cells cs)∧l.o = .cells cs
 only:∀h l,pm h=some l->∃i o cs,all[i]? = some o∧isFloat o.op=true∧HH (i+1)=(HH i).new (.cells cs)∧t<=i∧D i=true∧h=(HH i).n
 inj:∀h h' l l',pm h=some l->pm h'=some l'->l.b=l'.b->h=h'
variable {D:Nat->Bool} {a:Act} {w:World} {t:Nat} {ρ pm ρb:cK}
theorem rT.low (E:rD P tb w0 ih all n S HH gg) (I:rT w0 ρb n all (S 0) HH gg D a w t ρ pm) {h:Nat} {l:GE} (hp:pm h=some l):(HH t).n<=h:=by
 obtain⟨i,o,cs,h1,_,_,h4,_,rfl⟩:=I.only h l hp
 exact E.mono' h4 (Nat.le_of_lt (aU h1))
theorem rT.adopt (E:rD P tb w0 ih all n S HH gg) (I:rT w0 ρb n all (S 0) HH gg D a w t ρ pm) {o:Oper} (ho:all[t]? = some o) (hl:kD o.op=false) (hf:isFloat o.op=true->D t=true):
  ∃ρ' pm',rT w0 ρb n all (S 0) HH gg D a w (t+1) ρ' pm'∧BW ρ' pm'=BW ρ pm:=by
 have ht:=aU ho
 have lou':∀j o,all[j]? = some o->kD o.op=true->(D j=true↔j<t+1):=fun j oj hj hlj=>by
  have hne:j≠t:=fun e=>by subst e;rw[ho]at hj;cases hj;rw[hl]at hlj;cases hlj
  rw[I.lou j oj hj hlj];omega
 have flo':∀j o,all[j]? = some o->isFloat o.op=true->j<t+1->D j=true:=fun j oj hj hfj hlt=>by
  by_cases e:j=t
  ·subst e;rw[ho]at hj;cases hj;exact hf hfj
  ·exact I.flo j oj hj hfj (by omega)
 -- nothing is taken up
 have same:HH (t+1)=HH t->∃ρ' pm',rT w0 ρb n all (S 0) HH gg D a w (t+1) ρ' pm'∧BW ρ' pm'=BW ρ pm:=fun e=>
  ⟨ρ,pm,⟨ht,lou',flo',by rw[e];exact I.rel,I.up,I.defers,I.size,I.slot,fun i oi cs h1 h2 h3 h4 h5=>by rw[e];exact I.pend i oi cs h1 h2 h3 (by omega) h5,fun h l hp=>by
   obtain⟨i,oi,cs,h1,h2,h3,h4,h5,h6⟩:=I.only h l hp
   refine⟨i,oi,cs,h1,h2,h3,?_,h5,h6⟩
   by_cases e':i=t
   ·subst e';rw[e]at h3;exact(Rp h3).elim
   ·omega,I.inj⟩,rfl⟩
 cases hfl:isFloat o.op with
 |false=>exact same (E.quiet ho (by simpa [kD,hfl]using hl))
 | true =>
  rcases E.floats ho hfl with e|⟨cs,e⟩
  ·exact same e
  obtain⟨l,hp,hmine,hheld,hx,hobj,hlo⟩:=I.pend t o cs ho hfl e (Nat.le_refl _) (hf hfl)
  have hfresh:ρ (HH t).n=none:=I.rel.fresh _ (Nat.le_refl _)
  let ρ':=ρ.upd (HH t).n l
  let pm':cK:=fun h=>if h=(HH t).n then none else pm h
  have hself:ρ' (HH t).n=some l:=by simp[ρ',cK.upd]
  have hoth:∀h,h≠(HH t).n->ρ' h=ρ h:=fun h hh=>by simp[ρ',cK.upd,hh]
  have hjn:BW ρ' pm'=BW ρ pm:=by
   funext h
   by_cases eh:h=(HH t).n
   ·subst eh;rw[sC hself,sB hfresh,hp]
   ·unfold BW;rw[hoth h eh];simp[pm',eh]
  have hn:(HH (t+1)).n=(HH t).n+1:=by rw[e];rfl
  -- what the object holds is older
  have hcut:∀{g:GV} {v v0:Value} {ρ0:cK},(∀h l,ρ0 h=some l->h<(HH (t+1)).n)->Rl (BW ρ pm) g v->Rl ρ0 g v0->Rl ρ' g v:=fun {g v v0 ρ0} hlow h1 h0=>by
   refine PI (fun h l0 l1 e0 e1=> ?_) h1 h0
   have hlt:=hlow h l0 e0
   by_cases eh:h=(HH t).n
   ·subst eh;rw[sB hfresh,hp]at e1;rw[hself];exact e1
   ·rw[hoth h eh]
    cases hr:ρ h with
    |some l2=>rw[sC hr]at e1;exact e1
    |none=>
     rw[sB hr]at e1
     have:=I.low E e1
     omega
  obtain⟨ρ0,a0,wg,R0,F0⟩:=E.ghost (t+1) ht
  have hlow0:∀h l,ρ0 h=some l->h<(HH (t+1)).n:=fun h l hl=>by
   rcases Nat.lt_or_ge h (HH (t+1)).n with h'|h'
   ·exact h'
   ·rw[R0.fresh h h']at hl;cases hl
  have hgetn:(HH (t+1)).get (HH t).n=some (.cells cs):=by rw[e,mV,if_pos rfl]
  obtain⟨l0,_,_,hob0⟩:=R0.live _ _ hgetn
  obtain⟨cur0,T0,q1,q2,q3,q4⟩:=hob0
  have hobj':sR ρ' w l (.cells cs):=by
   obtain⟨cur,T,p1,p2,p3,p4⟩:=hobj
   refine⟨cur,T,p1,p2,p3,fun i g hg=> ?_⟩
   obtain⟨v,r1,r2,r3⟩:=p4 i g hg
   obtain⟨v0,_,s2,_⟩:=q4 i g hg
   exact⟨v,r1,hcut hlow0 r2 s2,r3⟩
  obtain⟨hle,R'⟩:=I.rel.new (o:= .cells cs) (l:=l) I.rel.ext (fun h o' l' hg hl'=>⟨rfl,fun eb=>hheld ⟨h,o',l',hg,hl',eb⟩⟩) hmine hobj' hx hlo
  rw[<-e]at R'
  refine⟨ρ',pm',⟨ht,lou',flo',R',cK.le_trans I.up hle,I.defers,I.size,fun s g hs=>by rw[hjn];exact I.slot s g hs,fun i oi ci h1 h2 h3 h4 h5=> ?_,fun h l1 hp1=> ?_,fun h h' l1 l2 h1 h2 hb=> ?_⟩,hjn⟩
  ·obtain⟨li,a1,a2,a3,a4,a5,a6⟩:=I.pend i oi ci h1 h2 h3 (by omega) h5
   have hne:(HH i).n≠(HH t).n:=fun eh=>by
    have:=E.apart (aU h1) ht h3 e eh;omega
   refine⟨li,by simp[pm',hne,a1],a2,?_,a4,by rw[hjn];exact a5,a6⟩
   rintro⟨h,o',l',hg,hl',eb⟩
   rw[e,mV]at hg
   by_cases eh:h=(HH t).n
   ·subst eh;rw[hself]at hl';cases hl'
    exact hne (I.inj _ _ _ _ a1 hp eb.symm)
   ·rw[if_neg eh]at hg
    rw[hoth h eh]at hl'
    exact a3 ⟨h,o',l',hg,hl',eb⟩
  ·have hne:h≠(HH t).n:=fun eh=>by subst eh;simp[pm']at hp1
   have hp1:pm h=some l1:=by simpa [pm',hne]using hp1
   obtain⟨i,oi,ci,h1,h2,h3,h4,h5,h6⟩:=I.only h l1 hp1
   refine⟨i,oi,ci,h1,h2,h3,?_,h5,h6⟩
   by_cases e':i=t
   ·subst e';exact absurd h6 hne
   ·omega
  ·have h1:pm h=some l1:=by
    by_cases eh:h=(HH t).n
    ·simp[pm',eh]at h1
    ·simpa [pm',eh]using h1
   have h2:pm h'=some l2:=by
    by_cases eh:h'=(HH t).n
    ·simp[pm',eh]at h2
    ·simpa [pm',eh]using h2
   exact I.inj h h' l1 l2 h1 h2 hb
theorem rT.adoptTo (E:rD P tb w0 ih all n S HH gg):∀(d t k:Nat) (ρ pm:cK),rT w0 ρb n all (S 0) HH gg D a w t ρ pm->t+d=k->k<=all.length->(∀j o,t<=j->j<k->all[j]? = some o->kD o.op=false∧(isFloat o.op=true->D j=true))->
  ∃ρ' pm',rT w0 ρb n all (S 0) HH gg D a w k ρ' pm'∧BW ρ' pm'=BW ρ pm
 |0,t,k,ρ,pm,I,hd,hk,_=>by
  have:t=k:=by omega
  subst this
  exact⟨ρ,pm,I,rfl⟩
 |d+1,t,k,ρ,pm,I,hd,hk,h=>by
  have ho:all[t]? = some all[t]:=List.getElem?_eq_getElem (by omega)
  obtain⟨h1,h2⟩:=h t _ (Nat.le_refl _) (by omega) ho
  obtain⟨ρ1,pm1,I1,e1⟩:=I.adopt E ho h1 h2
  obtain⟨ρ2,pm2,I2,e2⟩:=rT.adoptTo E d (t+1) k ρ1 pm1 I1 (by omega) hk (fun j o h1 h2=>h j o (by omega) h2)
  exact⟨ρ2,pm2,I2,by rw[e2,e1]⟩
def Cl (all:List Oper) (D:Nat->Bool):Prop:=∀j k,D j=true->before (lQ all) j k=true->k<all.length->D k=true
structure KX (all:List Oper) (D:Nat->Bool) (k:Nat) (o:Oper):Prop where
 get:all[k]? = some o
 undone:D k=false
 past:∀j,before (lQ all) k j=true->j<all.length->D j=true
theorem KX.behind (C:Pd tb all (lQ all)) (hcl:Cl all D) {k:Nat} {o:Oper} (hr:KX all D k o) {j:Nat} {oj:Oper} (hj:all[j]? = some oj) (hD:D j=true) (hlt:k<j):o.apart all.toArray oj=true∧DU tb o.op oj.op=true:=by
 cases hb:before (lQ all) j k with
 |false=>exact C.ind j k oj o hj hr.get hlt hb
 |true=>
  have:=hcl j k hD hb (aU hr.get)
  rw[hr.undone]at this;cases this
theorem KX.ahead (C:Pd tb all (lQ all)) {k:Nat} {o:Oper} (hr:KX all D k o) {j:Nat} {oj:Oper} (hj:all[j]? = some oj) (hlt:j<k):D j=true∨oj.apart all.toArray o=true∧DU tb oj.op o.op=true:=by
 cases hb:before (lQ all) k j with
 |true=>exact .inl (hr.past j hb (aU hj))
 |false=>exact .inr (C.ind k j o oj hr.get hj hlt hb)
theorem KX.look (E:rD P tb w0 ih all n S HH gg) (hcl:Cl all D) {k:Nat} {o:Oper} (hr:KX all D k o) {s:Nat} {g:GV} (hs:s∈o.looksAt all.toArray) (hg:AZ (S k) s=some g):XM all (S 0) gg D s g:=by
 have none_behind:∀j oj,D j=true->all[j]? = some oj->oj.dst=some s->j<k:=fun j oj hD hj hd=>by
  rcases Nat.lt_trichotomy j k with h|h|h
  ·exact h
  ·subst h;rw[hr.undone]at hD;cases hD
  ·obtain⟨h1,_⟩:=hr.behind E.chk hcl hj hD h
   exact absurd hs ((Oper.apart_spec h1).2.2 s hd)
 rcases Ge E.trc k (Nat.le_of_lt (aU hr.get)) hg with⟨i,oi,h1,h2,h3,h4,h5⟩|⟨h1,h2⟩
 ·refine .inl ⟨i,oi,?_,h2,h3,h4,fun j oj hD hj hd=> ?_⟩
  ·rcases hr.ahead E.chk h2 h1 with h|⟨h,_⟩
   ·exact h
   ·exact absurd hs ((Oper.apart_spec h).1 s h3)
  ·have:=none_behind j oj hD hj hd
   rcases Nat.lt_or_ge i j with h|h
   ·exact absurd hd (h5 j oj h this hj)
   ·exact h
 ·exact .inr ⟨fun j oj hD hj hd=>h1 j oj (none_behind j oj hD hj hd) hj hd,h2⟩
theorem KX.slot (C:Pd tb all (lQ all)) (hcl:Cl all D) {S0:GF} {k:Nat} {o:Oper} (hr:KX all D k o) (hdst:∀d,o.dst=some d->d<n) (hsz:a.tmps.size=n) {ρ1 ρ2:cK} (hle:ρ1.le ρ2) (hslot:∀s g,XM all S0 gg D s g->Rl ρ1 g (a.eval (.tmp s))) {v:Value} (hv:Rl ρ2 (gg k) v):
  ∀s g,XM all S0 gg (ins D k) s g->Rl ρ2 g ((a.put o.dst v).eval (.tmp s)):=fun s g hs=>by
 have behind:∀j oj,D j=true->all[j]? = some oj->o.dst=some s->oj.dst=some s->j<k:=fun j oj hD hj hd hd'=>by
  rcases Nat.lt_trichotomy j k with h|h|h
  ·exact h
  ·subst h;rw[hr.undone]at hD;cases hD
  ·obtain⟨h1,_⟩:=hr.behind C hcl hj hD h
   exact absurd hd' ((Oper.apart_spec h1).2.1 s hd)
 by_cases hd:o.dst=some s
 ·have hg:gg k=g:=by
   rcases hs with⟨i,oi,h1,h2,h3,h4,h5⟩|⟨h1,_⟩
   ·have hk:=h5 k o (vV D k) hr.get hd
    by_cases e:i=k
    ·subst e;exact h4
    ·rw[uM e]at h1
     have:=behind i oi h1 h2 hd h3
     omega
   ·exact absurd hd (h1 k o (vV D k) hr.get)
  rw[hd,<-hg]
  have hs':=hdst s hd
  have:(a.put (some s) v).eval (.tmp s)=v:=by simp[Act.put,Act.eval,hsz,hs']
  rw[this];exact hv
 ·have he:(a.put o.dst v).eval (.tmp s)=a.eval (.tmp s):=Act.eval_put fun d hd' e=>by cases e;exact hd hd'
  rw[he]
  refine(hslot s g ?_).le hle
  rcases hs with⟨i,oi,h1,h2,h3,h4,h5⟩|⟨h1,h2⟩
  ·have e:i≠k:=fun e=>by subst e;rw[hr.get]at h2;cases h2;exact hd h3
   rw[uM e]at h1
   exact .inl ⟨i,oi,h1,h2,h3,h4,fun j oj hD=>h5 j oj (vT hD)⟩
  ·exact .inr ⟨fun j oj hD=>h1 j oj (vT hD),h2⟩
theorem AT (a:Act) (d:Option Tmp) (v:Value):(a.put d v).defers=a.defers∧(a.put d v).tmps.size=a.tmps.size:=by
 cases d with
 |none=>exact⟨rfl,rfl⟩
 |some d=>exact⟨rfl,by simp[Act.put]⟩
theorem rT.plain (E:rD P tb w0 ih all n S HH gg) (hcl:Cl all D) (I:rT w0 ρb n all (S 0) HH gg D a w t ρ pm) {k:Nat} {o:Oper} (hr:KX all D k o) (hl:kD o.op=false) (hf:isFloat o.op=true->HH (k+1)=HH k) {v:Value} (hv:Rl (BW ρ pm) (gg k) v):
  rT w0 ρb n all (S 0) HH gg (ins D k) (a.put o.dst v) w t ρ pm:=by
 obtain⟨_,hdst,_⟩:=pH (E.op hr.get)
 obtain⟨p1,p2⟩:=AT a o.dst v
 refine⟨I.tm,fun j oj hj hlj=> ?_,fun j oj hj hfj hlt=>vT (I.flo j oj hj hfj hlt),I.rel,I.up,by rw[p1];exact I.defers,by rw[p2];exact I.size,hr.slot E.chk hcl hdst I.size (cK.le_refl _) I.slot hv,fun i oi cs h1 h2 h3 h4 h5=> ?_,fun h l hp=> ?_,I.inj⟩
 ·have e:j≠k:=fun e=>by subst e;rw[hr.get]at hj;cases hj;rw[hl]at hlj;cases hlj
  rw[uM e];exact I.lou j oj hj hlj
 ·have e:i≠k:=fun e=>by
   subst e;rw[hr.get]at h1;cases h1;rw[hf h2]at h3;exact Rp h3
  rw[uM e]at h5
  exact I.pend i oi cs h1 h2 h3 h4 h5
 ·obtain⟨i,oi,cs,h1,h2,h3,h4,h5,h6⟩:=I.only h l hp
  exact⟨i,oi,cs,h1,h2,h3,h4,vT h5,h6⟩
def HB (all:List Oper) (D:Nat->Bool) (t:Nat):Prop:=t=0∨∃o,all[t - 1]? = some o∧kD o.op=true∧D (t - 1)=true
theorem HB.ins {k:Nat} (h:HB all D t):HB all (ins D k) t:=by
 rcases h with h|⟨o,h1,h2,h3⟩
 ·exact .inl h
 ·exact .inr ⟨o,h1,h2,vT h3⟩
theorem AS {o:Op} (h:pureOp tb o=true):cU o=false:=by
 unfold pureOp at h
 split at h<;>first|rfl|cases h
theorem BG {o:Op} (h:isFloat o=true):cU o=true:=by
 unfold isFloat at h
 split at h<;>first|rfl|cases h
theorem BH {o:Op} (h:isFloat o=true):pureOp tb o=false:=by
 cases hp:pureOp tb o with
 |false=>rfl
 |true=>have:=AS hp;rw[BG h]at this;cases this
theorem rT.reach (E:rD P tb w0 ih all n S HH gg) (hcl:Cl all D) (I:rT w0 ρb n all (S 0) HH gg D a w t ρ pm) (hlast:HB all D t) {k:Nat} {o:Oper} (hr:KX all D k o) (hp:pureOp tb o.op=false) (hf:isFloat o.op=false) (hld:jP o.op=false):
  ∃ρ' pm',rT w0 ρb n all (S 0) HH gg D a w k ρ' pm'∧BW ρ' pm'=BW ρ pm:=by
 have hk:=aU hr.get
 have htk:t<=k:=by
  rcases hlast with h|⟨oj,h1,h2,h3⟩
  ·omega
  ·rcases Nat.lt_or_ge (t - 1) k with h|h
   ·omega
   ·exfalso
    by_cases e:t - 1=k
    ·rw[e,hr.undone]at h3;cases h3
    ·obtain⟨_,h4⟩:=hr.behind E.chk hcl h1 h3 (by omega)
     simp only[kD,Bool.and_eq_true,Bool.not_eq_true']at h2
     have:pureOp tb oj.op=false:=by
      cases hq:pureOp tb oj.op with
      |false=>rfl
      |true=>have:=AS hq;rw[h2.1]at this;cases this
     have hlj:jP oj.op=false:=by
      cases hq:jP oj.op with
      |false=>rfl
      |true=>rw[tF hq]at h2;cases h2.1
     simp[DU,hp,this,h2.1,h2.2,hld,hlj]at h4
 refine I.adoptTo E (k - t) t k ρ pm (by omega) (by omega) fun j oj h1 h2 hj=> ?_
 have hnot:D j=true∨cU oj.op=false∨pureOp tb oj.op=true:=by
  rcases hr.ahead E.chk hj h2 with h|⟨_,h⟩
  ·exact .inl h
  ·simp only[DU,hp,hf,hld,Bool.or_false,Bool.and_false,Bool.or_eq_true,Bool.and_eq_true,Bool.not_eq_true']at h
   rcases h with(h|h)|h
   ·exact .inr (.inr h)
   ·exact .inr (.inl h.1)
   ·exact .inr (.inl (tF h.1))
 refine⟨?_,fun hfj=> ?_⟩
 ·cases hlj:kD oj.op with
  |false=>rfl
  |true=>
   exfalso
   have hlj':=hlj
   simp only[kD,Bool.and_eq_true,Bool.not_eq_true']at hlj'
   rcases hnot with h|h|h
   ·have:=(I.lou j oj hj hlj).1 h;omega
   ·rw[hlj'.1]at h;cases h
   ·have:=AS h;rw[hlj'.1]at this;cases this
 ·rcases hnot with h|h|h
  ·exact h
  ·rw[BG hfj]at h;cases h
  ·rw[BH hfj]at h;cases h
theorem rT.frame (E:rD P tb w0 ih all n S HH gg) (hcl:Cl all D) (I:rT w0 ρb n all (S 0) HH gg D a w t ρ pm) {k:Nat} {o:Oper} (hr:KX all D k o):iQ (BW ρ pm) n (zG (S k) (o.looksAt all.toArray)) a:=
 ⟨I.defers,I.size,fun s g hg=>by
  rw[xR]at hg
  by_cases hs:s∈o.looksAt all.toArray
  ·rw[if_pos hs]at hg;exact I.slot s g (hr.look E hcl hs hg)
  ·rw[if_neg hs]at hg;cases hg⟩
theorem rT.frame' (E:rD P tb w0 ih all n S HH gg) (hcl:Cl all D) {k:Nat} (I:rT w0 ρb n all (S 0) HH gg D a w k ρ pm) {o:Oper} (hr:KX all D k o):iQ ρ n (zG (S k) (o.looksAt all.toArray)) a:=by
 have F:=I.frame E hcl hr
 obtain⟨ρ0,a0,wg,R0,F0⟩:=E.ghost k (Nat.le_of_lt (aU hr.get))
 refine⟨F.defers,F.size,fun s g hg=> ?_⟩
 have h1:=F.slot s g hg
 rw[xR]at hg
 by_cases hs:s∈o.looksAt all.toArray
 ·rw[if_pos hs]at hg
  refine PI (fun h l0 l e0 e1=> ?_) h1 (F0.slot s g hg)
  cases hrr:ρ h with
  |some l2=>rw[sC hrr]at e1;exact e1
  |none=>
   rw[sB hrr]at e1
   have h2:=I.low E e1
   rw[R0.fresh h h2]at e0;cases e0
 ·rw[if_neg hs]at hg;cases hg
theorem rD.st (E:rD P tb w0 ih all n S HH gg) {k:Nat} {o:Oper} (hk:all[k]? = some o):AY tb ih all o (zG (S k) (o.looksAt all.toArray)) (HH k)=some (gg k,HH (k+1)):=by
 rw[<-E.trc.st k o hk]
 exact Ln fun s hs=>by rw[xR,if_pos hs]
theorem rT.loads (E:rD P tb w0 ih all n S HH gg) (hcl:Cl all D) (I:rT w0 ρb n all (S 0) HH gg D a w t ρ pm) (hlast:HB all D t) {k:Nat} {o:Oper} (hr:KX all D k o) (hld:jP o.op=true) {h:Nat} {ob:GO} (hh:Us (S k) o.op=some h) (hob:(HH k).get h=some ob):
  ∃p ρ' pm',rT w0 ρb n all (S 0) HH gg D a w p ρ' pm'∧BW ρ' pm'=BW ρ pm∧(HH p).get h=some ob:=by
 have hk:=aU hr.get
 have hq:=tF hld
 have hpu:pureOp tb o.op=false:=by cases ho:o.op<;>rw[ho]at hld<;>first|rfl|cases hld
 have hfl:isFloat o.op=false:=by cases ho:o.op<;>rw[ho]at hld<;>first|rfl|cases hld
 obtain⟨v,hv⟩:∃v,(HH k).ver h=some v:=by
  obtain⟨p,hp,_⟩:=aA.1 (show Gx.ob ((HH k).t.get h) _=some ob from hob)
  exact⟨p.1,by unfold GH.ver;rw[hp];rfl⟩
 obtain⟨v1,v2⟩:=E.vrs k o h v hr.get hld hh hv
 rcases Nat.lt_or_ge k t with htk|htk
 ·
  rcases hlast with e|⟨oj,h1,h2,h3⟩
  ·omega
  have hlj:=h2
  simp only[kD,Bool.and_eq_true]at hlj
  have hb:before (lQ all) (t - 1) k=false:=by
   cases hb:before (lQ all) (t - 1) k with
   |false=>rfl
   |true=>have:=hcl _ _ h3 hb hk;rw[hr.undone]at this;cases this
  have hne:t - 1≠k:=fun e=>by rw[e,hr.undone]at h3;cases h3
  have:=v2 (t - 1) oj (by omega) h1 hlj.1 hb
  rw[show t - 1+1=t by omega]at this
  exact⟨t,ρ,pm,I,rfl,by rw[<-E.same (Nat.le_of_lt htk) I.tm hv this];exact hob⟩
 ·
  have first:∀d t',t'+d=k->t<=t'->(∀j oj,t<=j->j<t'->all[j]? = some oj->kD oj.op=false)->∃p,t<=p∧p<=k∧(∀j oj,t<=j->j<p->all[j]? = some oj->kD oj.op=false)∧(p=k∨∃op,all[p]? = some op∧kD op.op=true):=by
   intro d
   induction d with
   |zero=>exact fun t' e ht h=>⟨t',ht,by omega,h,.inl (by omega)⟩
   | succ d ihd =>
    intro t' e ht h
    have hget:all[t']? = some all[t']:=List.getElem?_eq_getElem (by omega)
    cases hl:kD all[t'].op with
    |true=>exact⟨t',ht,by omega,h,.inr ⟨_,hget,hl⟩⟩
    |false=>
     refine ihd (t'+1) (by omega) (by omega) fun j oj h1 h2 hj=> ?_
     by_cases e:j=t'
     ·subst e;rw[hget]at hj;cases hj;exact hl
     ·exact h j oj h1 (by omega) hj
  obtain⟨p,hp1,hp2,hp3,hp4⟩:=first (k - t) t (by omega) (Nat.le_refl _) (fun j oj h1 h2=>by omega)
  obtain⟨ρ1,pm1,I1,e1⟩:=I.adoptTo E (p - t) t p ρ pm (by omega) (by omega) fun j oj h1 h2 hj=>by
   refine⟨hp3 j oj h1 h2 hj,fun hfj=> ?_⟩
   rcases hr.ahead E.chk hj (by omega)with h|⟨_,h⟩
   ·exact h
   ·have a1:=BH (tb:=tb) hfj
    have a2:=BG hfj
    have a3:jP oj.op=false:=by
     cases hq2:jP oj.op with
     |false=>rfl
     |true=>rw[tF hq2]at a2;cases a2
    have a4:kD oj.op=false:=by simp[kD,hfj]
    simp[DU,a1,a2,a3,a4,hpu,hfl]at h
  refine⟨p,ρ1,pm1,I1,e1,?_⟩
  rcases hp4 with e|⟨op,hop,hlp⟩
  ·rw[e];exact hob
  ·have hlj:=hlp
   simp only[kD,Bool.and_eq_true]at hlj
   have hpk:p<k:=by
    rcases Nat.lt_or_ge p k with h|h
    ·exact h
    ·have:p=k:=by omega
     subst this;rw[hr.get]at hop;cases hop;rw[hq]at hlj;cases hlj.1
   have hb:before (lQ all) k p=false:=by
    cases hb:before (lQ all) k p with
    |false=>rfl
    |true=>have:=hr.past p hb (by omega);rw[I.lou p op hop hlp]at this;omega
   rw[E.same (Nat.le_of_lt hpk) (Nat.le_of_lt hk) (v1 p op hpk hop hlj.1 hb) hv];exact hob
theorem rT.step (E:rD P tb w0 ih all n S HH gg) (hcl:Cl all D) (I:rT w0 ρb n all (S 0) HH gg D a w t ρ pm) (hlast:HB all D t) {k:Nat} {o:Oper} (hr:KX all D k o) {Q:Exit->Act->World->Prop} {K:Act->World->Prop}
  (hK:∀a' w' t' ρ' pm',rT w0 ρb n all (S 0) HH gg (ins D k) a' w' t' ρ' pm'->HB all (ins D k) t'->K a' w'):Sx.wpOp P all.toArray Q k K a w:=by
 have hk:=aU hr.get
 obtain⟨_,hdst,hoa⟩:=pH (E.op hr.get)
 have hst:=E.st hr.get
 unfold Sx.wpOp
 simp only[List.getElem?_toArray,hr.get]
 cases hp:pureOp tb o.op with
 | true =>
  have hl:kD o.op=false:=by simp[kD,AS hp]
  have hnf:isFloat o.op=false:=by
   cases hf:isFloat o.op with
   |false=>rfl
   |true=>rw[BH hf]at hp;cases hp
  have F:=I.frame E hcl hr
  rcases AL F hst with⟨hw,hg⟩|⟨hw,hg,hH⟩
  ·rw[if_pos hw]
   have hoa':FN o.op=true:=by
    rcases hoa with h|⟨c,f,h1,h2⟩
    ·exact h
    ·obtain⟨cal,xs,ts⟩:=c
     simp only at h2
     rw[h1,h2]at hp;cases hp
   obtain⟨_,v,hv,hrun⟩:=QR (P:=P) E.tab F hp hoa' hg
   left
   simp only[Oper.wp,hrun w,Oper.upon]
   exact hK _ _ t ρ pm (I.plain E hcl hr hl (fun h=>by rw[hnf]at h;cases h) hv) hlast.ins
  ·rw[if_neg (by rw[hw];simp)]
   exact hK _ _ t ρ pm (I.plain E hcl hr hl (fun h=>by rw[hnf]at h;cases h) (by rw[hg];exact .un)) hlast.ins
 | false =>
  cases hf:isFloat o.op with
  | true =>
   have hl:kD o.op=false:=by simp[kD,hf]
   have F:=I.frame E hcl hr
   rcases GZ (P:=P) E.tab hf F hst with⟨hw,hg,hH⟩|⟨hw,cs,a',T',hH,hC,hlen,hrun⟩
   ·rw[if_neg (by rw[hw];simp)]
    exact hK _ _ t ρ pm (I.plain E hcl hr hl (fun _=>hH) (by rw[hg];exact .un)) hlast.ins
   ·rw[if_pos hw]
    obtain⟨V,hV,hrel⟩:=hrun w
    left
    simp only[Oper.wp,hV,Oper.upon]
    have htk:t<=k:=by
     rcases Nat.lt_or_ge k t with h|h
     ·have:=I.flo k o hr.get hf h;rw[hr.undone]at this;cases this
     ·exact h
    let l:GE:=⟨w.heap.size,0,a'.size,.cells a' T',.cells cs⟩
    have e:Hy w (w.alloc (.cells a' T')):=(Below.refl _ _).alloc (Nat.le_refl _) _
    have hρ:ρ (HH k).n=none:=I.rel.fresh _ (E.mono' htk (by omega))
    have hpm:pm (HH k).n=none:=by
     cases hq:pm (HH k).n with
     |none=>rfl
     |some l1=>
      obtain⟨i,oi,ci,h1,h2,h3,h4,h5,h6⟩:=I.only _ _ hq
      have:=E.apart (aU h1) hk h3 hH h6.symm
      subst this
      rw[hr.undone]at h5;cases h5
    let pm':=pm.upd (HH k).n l
    have hself:pm' (HH k).n=some l:=by simp[pm',cK.upd]
    have hoth:∀h,h≠(HH k).n->pm' h=pm h:=fun h hh=>by simp[pm',cK.upd,hh]
    have hle:(BW ρ pm).le (BW ρ pm'):=fun h l1 h1=>by
     cases hr1:ρ h with
     |some l2=>rw[sC hr1]at h1;rw[sC hr1];exact h1
     |none=>
      rw[sB hr1]at h1;rw[sB hr1,hoth h (fun eh=>by subst eh;rw[hpm]at h1;cases h1)];exact h1
    have hjl:BW ρ pm' (HH k).n=some l:=by rw[sB hρ,hself]
    obtain⟨p1,p2⟩:=AT a o.dst V
    have old:∀h l1,pm h=some l1->l1.b<w.heap.size:=fun h l1 h1=>by
     obtain⟨i,oi,ci,q1,q2,q3,q4,q5,rfl⟩:=I.only _ _ h1
     obtain⟨l2,r1,_,_,r4,_⟩:=I.pend i oi ci q1 q2 q3 q4 q5
     rw[h1]at r1;cases r1
     exact(Array.getElem?_eq_some_iff.1 r4).1
    refine hK _ _ t ρ pm' ⟨I.tm,fun j oj hj hlj=> ?_,fun j oj hj hfj hlt=>vT (I.flo j oj hj hfj hlt),I.rel.ext' e,I.up,by rw[p1];exact I.defers,by rw[p2];exact I.size,hr.slot E.chk hcl hdst I.size hle I.slot (hrel _ hjl),fun i oi ci h1 h2 h3 h4 h5=> ?_,fun h l1 hp1=> ?_,fun h h' l1 l2 h1 h2 hb=> ?_⟩ hlast.ins
    ·have e:j≠k:=fun e=>by subst e;rw[hr.get]at hj;cases hj;rw[hl]at hlj;cases hlj
     rw[uM e];exact I.lou j oj hj hlj
    ·by_cases ei:i=k
     ·subst ei
      rw[hH]at h3
      have:=OE h3
      subst this
      refine⟨l,hself,.inl I.rel.ext.size,?_,heap_alloc_new w _,⟨a',T',heap_alloc_new w _,rfl,by show 0+cs.length<=a'.size;omega,fun j g hg=> ?_⟩,rfl⟩
      ·rintro⟨h,o',l',hg,hl',eb⟩
       obtain⟨l2,r1,_,r3⟩:=I.rel.live h o' hg
       rw[hl']at r1;cases r1
       have:=r3.lt
       rw[eb]at this
       exact absurd this (Nat.lt_irrefl _)
      ·obtain⟨x,hx,hrx⟩:=hC.r.get hg
       rw[Array.getElem?_toList]at hx
       exact⟨x,by show a'[0+j]? = some x;simpa using hx,hrx.le hle,HX hC.one hx⟩
     ·rw[uM ei]at h5
      obtain⟨l1,a1,a2,a3,a4,a5,a6⟩:=I.pend i oi ci h1 h2 h3 h4 h5
      have hne:(HH i).n≠(HH k).n:=fun eh=>ei (E.apart (aU h1) hk h3 hH eh)
      have hb:=old _ _ a1
      exact⟨l1,by rw[hoth _ hne];exact a1,a2,a3,by rw[e.block _ hb];exact a4,a5.move hle (e.block _ hb),a6⟩
    ·by_cases eh:h=(HH k).n
     ·exact⟨k,o,cs,hr.get,hf,hH,htk,vV D k,eh⟩
     ·rw[hoth h eh]at hp1
      obtain⟨i,oi,ci,q1,q2,q3,q4,q5,q6⟩:=I.only h l1 hp1
      exact⟨i,oi,ci,q1,q2,q3,q4,vT q5,q6⟩
    ·by_cases eh:h=(HH k).n
     ·by_cases eh':h'=(HH k).n
      ·rw[eh,eh']
      ·rw[hoth h' eh']at h2
       subst eh;rw[hself]at h1;cases h1
       have:=old _ _ h2
       rw[<-hb]at this
       exact absurd this (Nat.lt_irrefl _)
     ·rw[hoth h eh]at h1
      by_cases eh':h'=(HH k).n
      ·subst eh';rw[hself]at h2;cases h2
       have:=old _ _ h1
       rw[hb]at this
       exact absurd this (Nat.lt_irrefl _)
      ·rw[hoth h' eh']at h2
       exact I.inj h h' l1 l2 h1 h2 hb
  | false =>
   cases hld:jP o.op with
   | true =>
    have hl:kD o.op=false:=by simp[kD,tF hld]
    have F0:=I.frame E hcl hr
    rcases AL F0 hst with⟨hw,hg⟩|⟨hw,hg,hH⟩
    ·rw[if_pos hw]
     have hopl:∃T x,o.op = .load T x:=by
      cases ho:o.op<;>rw[ho]at hld<;>first|exact⟨_,_,rfl⟩|cases hld
     obtain⟨T,x,hox⟩:=hopl
     rw[hox]at hg
     obtain⟨va,hva,hg⟩:=aA.1 (show ob (gW (zG (S k) (o.looksAt all.toArray)) x) _=some (gg k,HH (k+1))from hg)
     obtain⟨g',hld',hk'⟩:=aA.1 hg
     have eg:g'=gg k:=by
      have:=congrArg (fun o=>o.map Prod.fst) (show some (g',HH k)=some (gg k,HH (k+1))from hk')
      simpa using this
     rw[eg]at hld'
     obtain⟨q,hq,hc⟩:=aA.1 (show ob va.asP _=some (gg k)from hld')
     obtain⟨cs,hcs,hc⟩:=aA.1 hc
     have hget:=fH.1 hcs
     have hxt:∀s,x = .tmp s->s∈o.looksAt all.toArray:=fun s e=>List.mem_append_left _ (List.mem_filterMap.2 ⟨.tmp s,by rw[hox,e];simp[Op.operands],rfl⟩)
     have hva':gW (S k) x=some va:=by
      rw[<-hva]
      cases x with
      |tmp s=>
       show AZ (S k) s=AZ (zG (S k) (o.looksAt all.toArray)) s
       rw[xR,if_pos (hxt s rfl)]
      |_=>rfl
     have hh:Us (S k) o.op=some q.1:=by
      rw[hox]
      show ob (gW (S k) x) _=_
      rw[hva']
      show ob va.asP _=_
      rw[hq];rfl
     obtain⟨p,ρ1,pm1,I1,hj1,hgp⟩:=I.loads E hcl hlast hr hld hh hget
     have hv0:=bM F0 hva
     have hv1:Rl ρ1 va (a.eval x):=by
      rw[z_ hq]at hv0 ⊢
      obtain⟨l,hl,e⟩:=hv0.ptr_inv
      obtain⟨l1,hl1,_⟩:=I1.rel.live _ _ hgp
      rw[<-hj1,sC hl1]at hl
      cases hl
      rw[e];exact .ptr _ hl1
     have hload:sO tb T va (HH p)=some (gg k):=by
      show ob va.asP _=_
      rw[hq]
      show ob ((HH p).cells q.1) _=_
      rw[fH.2 hgp]
      exact hc
     obtain⟨X,_,l,_,_,_,hX,hrun⟩:=Gh (P:=P) E.tab I1.rel hv1 hload
     left
     have hr1:(execOp a.eval o).run P w = .ok (.value X) w:=by
      have:=hrun w rfl
      obtain⟨d,op,ty,pos,aft,gd⟩:=o
      simp only at hox
      subst hox
      simp[execOp,this]
     simp only[Oper.wp,hr1,Oper.upon]
     exact hK _ _ t ρ pm (I.plain E hcl hr hl (fun h=>by rw[hf]at h;cases h) (by rw[<-hj1];exact hX.le Cs)) hlast.ins
    ·rw[if_neg (by rw[hw];simp)]
     exact hK _ _ t ρ pm (I.plain E hcl hr hl (fun h=>by rw[hf]at h;cases h) (by rw[hg];exact .un)) hlast.ins
   |false=>
   obtain⟨ρ1,pm1,I1,hj1⟩:=I.reach E hcl hlast hr hp hf hld
   have F:=I1.frame' E hcl hr
   cases hlo:cU o.op with
   | false =>
    have hl:kD o.op=false:=by simp[kD,hlo]
    have fin:∀v,Rl ρ1 (gg k) v->rT w0 ρb n all (S 0) HH gg (ins D k) (a.put o.dst v) w t ρ pm:=fun v hv=>
     I.plain E hcl hr hl (fun h=>by rw[hf]at h;cases h) (by rw[<-hj1];exact hv.le Cs)
    rcases Ev E.tab (E.call w0) (E.op hr.get) F I1.rel hst with⟨hw,hs⟩|⟨hw,hg,hH⟩
    ·rw[if_pos hw]
     left
     rcases hs with⟨_,_,_,_,v,hv,hrun⟩|⟨_,_,_,v,_,_,_,_,_,hv,hrun⟩|⟨_,_,_,v,hv,hrun⟩|⟨hq,_⟩
     ·simp only[Oper.wp,hrun w,Oper.upon];exact hK _ _ t ρ pm (fin v hv) hlast.ins
     ·simp only[Oper.wp,hrun w rfl,Oper.upon];exact hK _ _ t ρ pm (fin v hv) hlast.ins
     ·simp only[Oper.wp,hrun,Oper.upon];exact hK _ _ t ρ pm (fin v hv) hlast.ins
     ·rw[hlo]at hq;cases hq
    ·rw[if_neg (by rw[hw];simp)]
     exact hK _ _ t ρ pm (fin undef (by rw[hg];exact .un)) hlast.ins
   | true =>
    have hl:kD o.op=true:=by simp[kD,hlo,hf]
    have hkn:∀(i:Nat) (oi:Oper) (ci:List GV),all[i]? = some oi->isFloat oi.op=true->i≠k:=fun i oi ci h1 h2 e=>by
     subst e;rw[hr.get]at h1;cases h1;rw[hf]at h2;cases h2
    have lou':∀j o,all[j]? = some o->kD o.op=true->(ins D k j=true↔j<k+1):=fun j oj hj hlj=>by
     by_cases e:j=k
     ·subst e;simp[vV]
     ·rw[uM e,I1.lou j oj hj hlj];omega
    have flo':∀j o,all[j]? = some o->isFloat o.op=true->j<k+1->ins D k j=true:=fun j oj hj hfj hlt=>by
     have:=hkn j oj [] hj hfj
     exact vT (I1.flo j oj hj hfj (by omega))
    have only':∀h l,pm1 h=some l->∃i o cs,all[i]? = some o∧isFloat o.op=true∧HH (i+1)=(HH i).new (.cells cs)∧k+1<=i∧ins D k i=true∧h=(HH i).n:=fun h l hp1=>by
     obtain⟨i,oi,ci,q1,q2,q3,q4,q5,q6⟩:=I1.only h l hp1
     have:=hkn i oi ci q1 q2
     exact⟨i,oi,ci,q1,q2,q3,by omega,vT q5,q6⟩
    have hlast':HB all (ins D k) (k+1):= .inr ⟨o,by simpa using hr.get,hl,by simp[vV]⟩
    rcases Ev E.tab (E.call I1.rel.base) (E.op hr.get) F I1.rel.rebase hst with⟨hw,hs⟩|⟨hw,hg,hH⟩
    ·rw[if_pos hw]
     left
     rcases hs with⟨hq,_⟩|⟨hq,_⟩|⟨hq,_⟩|⟨_,hrun⟩
     ·rw[hlo]at hq;cases hq
     ·rw[hlo]at hq;cases hq
     ·rw[hlo]at hq;cases hq
     refine FL (hrun _ fun ρ2 w2 v hle R2 hv=>hK _ _ (k+1) ρ2 pm1 ?_ hlast')
     obtain⟨R3,hframe⟩:=I1.rel.back R2
     have hj:(BW ρ1 pm1).le (BW ρ2 pm1):=fun h l h1=>by
      cases hr1:ρ1 h with
      |some l2=>rw[sC hr1]at h1;cases h1;exact sC (hle _ _ hr1)
      |none=>
       rw[sB hr1]at h1
       obtain⟨i,oi,ci,q1,q2,q3,q4,q5,rfl⟩:=only' h l h1
       rw[sB (R2.fresh _ (E.mono' q4 (Nat.le_of_lt (aU q1))))];exact h1
     obtain⟨p1,p2⟩:=AT a o.dst v
     refine⟨hk,lou',flo',R3,cK.le_trans I1.up hle,by rw[p1];exact I1.defers,by rw[p2];exact I1.size,hr.slot E.chk hcl hdst I1.size hj I1.slot (hv.le Cs),fun i oi ci h1 h2 h3 h4 h5=> ?_,only',I1.inj⟩
     rw[uM (hkn i oi ci h1 h2)]at h5
     obtain⟨l1,a1,a2,a3,a4,a5,a6⟩:=I1.pend i oi ci h1 h2 h3 (by omega) h5
     have hb:l1.b<w.heap.size:=(Array.getElem?_eq_some_iff.1 a4).1
     refine⟨l1,a1,a2,?_,by rw[hframe _ hb a3];exact a4,a5.move hj (hframe _ hb a3),a6⟩
     rintro⟨h,o',l',hg,hl',eb⟩
     obtain⟨l2,r1,r2,_⟩:=R2.live h o' hg
     rw[hl']at r1;cases r1
     rw[eb]at r2
     rcases r2 with r2|r2
     ·have:w.heap.size<=l1.b:=r2
      omega
     ·exact a3 r2
    ·rw[if_neg (by rw[hw];simp)]
     obtain⟨p1,p2⟩:=AT a o.dst undef
     refine hK _ _ (k+1) ρ1 pm1 ⟨hk,lou',flo',by rw[hH];exact I1.rel,I1.up,by rw[p1];exact I1.defers,by rw[p2];exact I1.size,hr.slot E.chk hcl hdst I1.size (cK.le_refl _) I1.slot (by rw[hg];exact .un),fun i oi ci h1 h2 h3 h4 h5=> ?_,only',I1.inj⟩ hlast'
     rw[uM (hkn i oi ci h1 h2)]at h5
     rw[hH]
     exact I1.pend i oi ci h1 h2 h3 (by omega) h5
theorem rT.done (E:rD P tb w0 ih all n S HH gg) (I:rT w0 ρb n all (S 0) HH gg D a w t ρ pm) (hall:∀i,i<all.length->D i=true):∃ρ',ρb.le ρ'∧dR w0 ρ' (HH all.length) w∧iQ ρ' n (S all.length) a:=by
 obtain⟨ρ1,pm1,I1,_⟩:=I.adoptTo E (all.length - t) t all.length ρ pm (by have:=I.tm;omega) (Nat.le_refl _) fun j oj h1 h2 hj=>by
  refine⟨?_,fun _=>hall j h2⟩
  cases hl:kD oj.op with
  |false=>rfl
  |true=>have:=(I.lou j oj hj hl).1 (hall j h2);omega
 refine⟨ρ1,I1.up,I1.rel,I1.defers,I1.size,fun s g hg=> ?_⟩
 have hpm:∀h,pm1 h=none:=fun h=>by
  cases hq:pm1 h with
  |none=>rfl
  |some l=>
   obtain⟨i,oi,ci,h1,_,_,h4,_⟩:=I1.only h l hq
   have:=aU h1;omega
 have hj:BW ρ1 pm1=ρ1:=by
  funext h
  unfold BW
  rw[hpm]
  cases ρ1 h<;>rfl
 have hs:XM all (S 0) gg D s g:=by
  rcases Ge E.trc all.length (Nat.le_refl _) hg with⟨i,o,h1,h2,h3,h4,h5⟩|⟨h1,h2⟩
  ·refine .inl ⟨i,o,hall i h1,h2,h3,h4,fun j oj hD hj hd=> ?_⟩
   rcases Nat.lt_or_ge i j with h|h
   ·exact absurd hd (h5 j oj h (aU hj) hj)
   ·exact h
  ·exact .inr ⟨fun j oj hD hj=>h1 j oj (aU hj) hj,h2⟩
 have:=I1.slot s g hs
 rwa[hj]at this
theorem Ol (E:rD P tb w0 ih all n S HH gg) {Q:Exit->Act->World->Prop} (hQ:∀ρ' a' w',ρb.le ρ'->dR w0 ρ' (HH all.length) w'->iQ ρ' n (S all.length) a'->Q .normal a' w'):
  ∀(fuel:Nat) (L:List Nat) (listed:Array Bool) (a:Act) (w:World) (t:Nat) (ρ pm:cK),L.length<=fuel->listed.size=all.length->(∀i,i<all.length->listed.getD i false=false->i∈L)->Cl all (fun j=>listed.getD j false)->
  rT w0 ρb n all (S 0) HH gg (fun j=>listed.getD j false) a w t ρ pm->HB all (fun j=>listed.getD j false) t->Sx.wpAny P .any all.toArray Q fuel listed a w:=by
 intro fuel
 induction fuel with
 | zero =>
  intro L listed a w t ρ pm hlen hsz hmem hcl I hlast
  have hL:L=[]:=List.eq_nil_of_length_eq_zero (by omega)
  subst hL
  have hall:∀i,i<all.length->listed.getD i false=true:=fun i hi=>by
   cases hq:listed.getD i false with
   |true=>rfl
   |false=>have:=hmem i hi hq;simp at this
  refine⟨?_,?_⟩
  ·rw[List.eq_nil_iff_forall_not_mem]
   intro i hi
   obtain⟨h0,o,ho,_⟩:=mem_ready.1 hi
   have hlt:i<all.length:=by have:=(Array.getElem?_eq_some_iff.1 ho).1;simpa using this
   have:=hall i hlt
   have hs:i<listed.size:=by omega
   simp[hs]at this h0
   rw[h0]at this;cases this
  ·obtain⟨ρ',h0,h1,h2⟩:=I.done E hall
   exact hQ ρ' a w h0 h1 h2
 | succ fuel ihf =>
  intro L listed a w t ρ pm hlen hsz hmem hcl I hlast
  refine⟨fun hrd=> ?_,fun k hk=> ?_⟩
  ·have hall:∀i,i<all.length->listed.getD i false=true:=by
    intro i
    induction i using Nat.strongRecOn with
    | ind i ihi =>
     intro hi
     cases hq:listed.getD i false with
     |true=>rfl
     | false =>
      exfalso
      have ho:all[i]? = some all[i]:=List.getElem?_eq_getElem hi
      have hmr:i∈Region.ready .any all.toArray listed:=by
       refine mem_ready.2 ⟨?_,all[i],by simp,fun e he hb=> ?_⟩
       ·have hs:i<listed.size:=by omega
        simp[hs]at hq ⊢;exact hq
       ·have hee:e.on∈pJ all[i]:=List.mem_map.2 ⟨e,List.mem_filter.2 ⟨by simpa using he,hb⟩,rfl⟩
        have:=(E.chk.edge i _ ho e.on hee).1
        exact ihi e.on this (by omega)
      rw[hrd]at hmr
      simp at hmr
   obtain⟨ρ',h0,h1,h2⟩:=I.done E hall
   exact hQ ρ' a w h0 h1 h2
  ·obtain⟨h0,o,ho',hedge⟩:=mem_ready.1 hk
   have ho:all[k]? = some o:=by simpa using ho'
   have hkl:k<all.length:=aU ho
   have hks:k<listed.size:=by omega
   have h0':listed.getD k false=false:=by simp[hks]at h0 ⊢;exact h0
   have hr:KX all (fun j=>listed.getD j false) k o:=by
    refine⟨ho,h0',fun j hb hj=> ?_⟩
    obtain⟨_,e,he,hej⟩:=E.chk.trans k o ho j hb hj
    obtain⟨ed,hed,rfl⟩:=List.mem_map.1 he
    obtain⟨hed1,hed2⟩:=List.mem_filter.1 hed
    have hl:=hedge ed (by simpa using hed1) hed2
    rcases hej with rfl|hej
    ·exact hl
    ·exact hcl _ _ hl hej hj
   have hD:(fun j=>(listed.setIfInBounds k true).getD j false)=ins (fun j=>listed.getD j false) k:=by
    funext j
    by_cases e:j=k
    ·subst e;rw[vV];simp[hks]
    ·rw[uM e]
     exact getD_set_ne false (Ne.symm e)
   refine I.step E hcl hlast hr fun a' w' t' ρ' pm' I' hlast'=> ?_
   refine ihf (L.erase k) _ a' w' t' ρ' pm' ?_ (by simp[hsz]) (fun i hi hq=> ?_) ?_ (by rw[hD];exact I') (by rw[hD];exact hlast')
   ·have hm:=hmem k hkl h0'
    rw[List.length_erase_of_mem hm]
    omega
   ·have e:i≠k:=fun e=>by
     subst e
     have:=congrFun hD i
     rw[vV]at this
     rw[hq]at this;cases this
    have:listed.getD i false=false:=by
     have:=congrFun hD i
     rw[uM e]at this
     rw[<-this];exact hq
    exact(List.mem_erase_of_ne e).2 (hmem i hi this)
   ·rw[hD]
    intro j k' hj hb hk'
    by_cases e:j=k
    ·subst e;exact vT (hr.past k' hb hk')
    ·rw[uM e]at hj
     exact vT (hcl j k' hj hb hk')
theorem HV (hG:dK P tb) (hcall:∀w0:cV gs,oB P w0 ih) (hm:P.follows .mixedOrders=true) {ops:List Oper} {id:Nat} (hops:ops.all (Dp n)=true) (hc:chkF tb ops (lQ ops)=true) {k:GS->RS} {s:GS} {out:IU} {ρ:cK} {a:Act} {w:World} {Q:Exit->Act->World->Prop} (F:iQ ρ n s.σ a) (R:dR w0 ρ s.H w) (h:(Bh tb ih ops k ops s=some out∧AQ ops jP=true)∨Xm tb ih ops (lQ ops) k ops 0 [] [] s=some out)
  (hk:∀s' ρ' a' w',k s'=some out->ρ.le ρ'->iQ ρ' n s'.σ a'->dR w0 ρ' s'.H w'->Q .normal a' w'):(Code.region id ops.toArray true).wpr none P Q a w:=by
 have hnd:ops.all gK=true:=List.all_eq_true.2 fun o hmo=>(pH (List.all_eq_true.1 hops o hmo)).1
 obtain⟨S,HH,gg,e1,e2,T,hvrs,hout⟩:∃S HH gg,S 0=s.σ∧HH 0=s.H∧Va tb ih ops ops S HH gg∧(∀k ok h v,ops[k]? = some ok->jP ok.op=true->Us (S k) ok.op=some h->(HH k).ver h=some v->
   (∀j oj,j<k->ops[j]? = some oj->cU oj.op=true->before (lQ ops) k j=false->(HH j).ver h=some v)∧(∀j oj,k<j->ops[j]? = some oj->cU oj.op=true->before (lQ ops) j k=false->(HH (j+1)).ver h=some v))∧k ⟨S ops.length,HH ops.length⟩=some out:=by
  rcases h with⟨h,ho⟩|h
  ·obtain⟨S,HH,gg,e1,e2,T,hout⟩:=GU ops s h
   refine⟨S,HH,gg,e1,e2,T,fun k ok h v hk hl _ _=>⟨fun j oj hjk hj hlj hb=> ?_,fun j oj hjk hj hlj hb=> ?_⟩,hout⟩
   ·rcases Cw ho hk hj hl hlj with h1|h1
    ·rw[h1]at hb;cases hb
    ·have:=((Dd hc).trans j oj hj k h1 (aU hk)).1;omega
   ·rcases Cw ho hk hj hl hlj with h1|h1
    ·have:=((Dd hc).trans k ok hk j h1 (aU hj)).1;omega
    ·rw[h1]at hb;cases hb
  ·obtain⟨S,HH,gg,e1,e2,T,V,hout⟩:=Ew ops 0 [] [] s h
   exact⟨S,HH,gg,e1,e2,T,fun k ok h v hk hl hh hv=>by have:=V.lo k ok h v hk hl hh hv;simpa using this,hout⟩
 rw[<-e1]at F
 rw[<-e2]at R
 have E:rD P tb w0 ih ops n S HH gg:=⟨hG,hcall,hops,Dd hc,T,hvrs,Hk hG (hcall w0) hops T F R _ (Nat.le_refl _)⟩
 have hD:∀j,(Array.replicate ops.length false).getD j false=false:=fun j=>by
  by_cases h:j<ops.length<;>simp[h]
 refine AB hnd hm ?_
 have hsz:ops.toArray.size=ops.length:=by simp
 rw[hsz]
 refine Ol (ρb:=ρ) E (fun ρ' a' w' h0 h1 h2=>hk ⟨S ops.length,HH ops.length⟩ ρ' a' w' hout h0 h2 h1) ops.length (List.range ops.length) _ a _ 0 ρ (fun _=>none) (by simp) (by simp) (fun i hi _=>List.mem_range.2 hi) (fun j k' hj=>by simp only[hD]at hj;cases hj) ?_ (.inl rfl)
 refine⟨Nat.zero_le _,fun j o _ _=>by simp only[hD];simp,fun j o _ _ h=>absurd h (Nat.not_lt_zero j),R.ext' ((Below.refl _ _).drew),cK.le_refl _,F.defers,F.size,fun s' g hs=> ?_,fun i o cs _ _ _ _ h5=>(by simp only[hD]at h5;cases h5),fun h l hp=>(by cases hp),fun h h' l l' hp=>(by cases hp)⟩
 rcases hs with⟨i,o,h1,_⟩|⟨_,h2⟩
 ·simp only[hD]at h1;cases h1
 ·exact(F.slot s' g h2).le Cs
end
end
section

def CW (tb:TB) (n:Nat):Code->Bool
 | .skip | .exit _ | .ret=>true
 | .region _ ops dr=>ops.toList.all (Dp n)&&(!dr||chkF tb ops.toList (lQ ops.toList))
 | .seq a b=>CW tb n a&&CW tb n b
 | .cond _ a b=>CW tb n a&&CW tb n b
 | .block _ b=>CW tb n b
 | .loop b=>CW tb n b
 |_=>false
section
variable {P:Program} {G:GP} {tb:TB} {Fs:FT} {gs:tX} {w0:cV gs}

def zT (P:Program) (body:Code) (Q:Exit->Act->World->Prop) (a:Act) (w:World):Prop:=
 ∀(b:Frame) (k:List Item) (cs:List Frame),b.roundOf=(FR none).round->(FR none).fn b.fn->(FR none).room (cs.length+1+0)->
  ∃e a' w',Q e a' w'∧ArrivesIn (Machine.fenced P (FR none)) P (lone (b.atR a (.code body :: .inLoop body::k)) cs w) b k cs e a' w'
theorem zT.loop {body:Code} {Q:Exit->Act->World->Prop} {a:Act} {w:World} (h:zT P body Q a w):(Code.loop body).wpr none P Q a w:=by
 intro b k cs hro hb hr
 obtain⟨e,a',w',hq,harr⟩:=h b k cs hro hb hr
 exact⟨e,a',w',hq,.of_steps (.one (fenced_calm hb hr rfl) stepR_loop) harr⟩
theorem zT.round {body:Code} {Q:Exit->Act->World->Prop} {a:Act} {w:World} (h:body.wpr none P (Exit.then (zT P body Q) Q) a w):zT P body Q a w:=by
 intro b k cs hro hb hr
 obtain⟨e,a₁,w₁,hq,harr⟩:=h b (.inLoop body::k) cs hro hb hr
 cases e with
 |normal=>
  obtain⟨e₂,a₂,w₂,hq₂,harr₂⟩:=hq b k cs hro hb hr
  exact⟨e₂,a₂,w₂,hq₂,.of_steps (StepsIn.trans harr (.one (fenced_calm hb hr rfl) stepR_inLoop)) harr₂⟩
 |exit id=>exact⟨_,a₁,w₁,hq,.pass (x:= .inLoop body) rfl (fun _ _=> .inl (by simp)) harr⟩
 |goto l=>exact⟨_,a₁,w₁,hq,.pass (x:= .inLoop body) rfl (fun _ _=> .inl (by simp)) harr⟩
 |ret=>exact⟨_,a₁,w₁,hq,.pass (x:= .inLoop body) rfl (fun _ _=> .inl (by simp)) harr⟩
 |panic ch=>exact⟨_,a₁,w₁,hq,.pass (x:= .inLoop body) rfl (fun _ _=> .inl (by simp)) harr⟩
 |outgrown=>exact⟨_,a₁,w₁,hq,.pass (x:= .inLoop body) rfl (fun _ _=> .inl (by simp)) harr⟩

noncomputable def Ey (cx:Cx) (id:Nat) (s:GS):RS:=some ⟨.exit id,xX s.σ (iY (xC cx.env id)),s.H⟩
structure Pu {gs:tX} (w0:cV gs) (tb:TB) (n:Nat) (cx:Cx) (k:GS->RS) (out:IU) (ρ:cK) (Q:Exit->Act->World->Prop):Prop where
 k:∀s' ρ' a' w',k s'=some out->ρ.le ρ'->iQ ρ' n s'.σ a'->dR w0 ρ' s'.H w'->Q .normal a' w'
 x:∀id s' ρ' a' w',Ey cx id s'=some out->ρ.le ρ'->iQ ρ' n s'.σ a'->dR w0 ρ' s'.H w'->Q (.exit id) a' w'
 r:∀s' ρ' a' w',LQ tb cx s'=some out->ρ.le ρ'->iQ ρ' n s'.σ a'->dR w0 ρ' s'.H w'->Q .ret a' w'
def CZ (P:Program) {gs:tX} (w0:cV gs) (tb:TB) (lp:LH):Prop:=∀b cx vs H out,lp b cx vs H=some out->∀n σ ρ a w Q,CW tb n b=true->gQ (iY (live (.loop b) 0 cx)) vs some=some σ->iQ ρ n σ a->dR w0 ρ H w->
 (∀id s' ρ' a' w',Ey cx id s'=some out->ρ.le ρ'->iQ ρ' n s'.σ a'->dR w0 ρ' s'.H w'->Q (.exit id) a' w')->
 (∀s' ρ' a' w',LQ tb cx s'=some out->ρ.le ρ'->iQ ρ' n s'.σ a'->dR w0 ρ' s'.H w'->Q .ret a' w')->zT P b Q a w
theorem Im {cx:Cx} {s:GS} {out:IU} (h:LQ tb cx s=some out):out.e = .ret:=by
 obtain⟨vs,_,h⟩:=aA.1 (show ob (JX tb s cx.res) _=some out from h)
 cases h;rfl
theorem vH {cx:Cx} {id:Nat} {s:GS} {out:IU} (h:Ey cx id s=some out):out.e = .exit id:=by cases h;rfl
theorem LP {ks:List Nat} {s:GS} {out:IU} (h:CC ks s=some out):out.e = .normal∧out.vs=xX s.σ ks∧out.H=s.H:=by cases h;exact⟨rfl,rfl,rfl⟩
theorem LA {n:Nat} {cx:Cx} {ks:List Nat} {k:GS->RS} {o out:IU} {ρ:cK} {Q:Exit->Act->World->Prop} (L:Pu w0 tb n cx k out ρ Q) (h:gQ ks o.vs (fun σ=>k ⟨σ,o.H⟩)=some out) {s':GS} {ρ':cK} {a':Act} {w':World}
  (hv:o.vs=xX s'.σ ks) (hH:o.H=s'.H) (hle:ρ.le ρ') (F:iQ ρ' n s'.σ a') (R:dR w0 ρ' s'.H w'):Q .normal a' w':=by
 obtain⟨σ,h1,h2⟩:=nC h
 rw[hv]at h1
 exact L.k ⟨σ,o.H⟩ ρ' a' w' h2 hle (ED F h1) (by rw[hH];exact R)
theorem yN {ch:CH} {lp:LH} (hG:dK P tb) (hm:P.follows .mixedOrders=true) (hcall:∀w0:cV gs,oB P w0 ch) (hloop:CZ P w0 tb lp) {n:Nat}:∀(c:Code) (m:Nat) (cx:Cx) (k:GS->RS) (s:GS) (out:IU) (ρ:cK) (a:Act) (w:World) (Q:Exit->Act->World->Prop),
  CW tb n c=true->Ub tb ch lp c m cx k s=some out->iQ ρ n s.σ a->dR w0 ρ s.H w->Pu w0 tb n cx k out ρ Q->c.wpr none P Q a w
 | .skip,m,cx,k,s,out,ρ,a,w,Q,_,h,F,R,L=>KG (L.k s ρ a w h (cK.le_refl _) F R)
 | .region id ops dr, m, cx, k, s, out, ρ, a, w, Q, ho, h, F, R, L => by
  have ho':ops.toList.all (Dp n)=true∧(!dr||chkF tb ops.toList (lQ ops.toList))=true:=by simpa [CW]using ho
  have hnd:ops.toList.all gK=true:=List.all_eq_true.2 fun o hmo=>(pH (List.all_eq_true.1 ho'.1 o hmo)).1
  have h':Bool.casesOn (motive:=fun _=>RS) (Xg dr ops.toList) (Bh tb ch ops.toList k ops.toList s) (Xm tb ch ops.toList (lQ ops.toList) k ops.toList 0 [] [] s)=some out:=h
  have e:ops=ops.toList.toArray:=by simp
  cases dr with
  |false=>
   rw[e]
   exact oW hnd (Cn hG (hcall w0) ops.toList s ρ a w ho'.1 F R h' L.k)
  | true =>
   rw[e]
   have hF:chkF tb ops.toList (lQ ops.toList)=true:=by simpa using ho'.2
   have h2:(Bh tb ch ops.toList k ops.toList s=some out∧AQ ops.toList jP=true)∨Xm tb ch ops.toList (lQ ops.toList) k ops.toList 0 [] [] s=some out:=by
    cases hwl:Xg true ops.toList with
    |true=>rw[hwl]at h';exact .inr h'
    |false=>
     rw[hwl]at h'
     have:(!AQ ops.toList jP)=false:=hwl
     exact .inl ⟨h',by simpa using this⟩
   exact HV hG hcall hm ho'.1 hF F R h2 L.k
 | .seq x y,m,cx,k,s,out,ρ,a,w,Q,ho,h,F,R,L=>by
  have ho':CW tb n x=true∧CW tb n y=true:=by simpa [CW]using ho
  refine NH (yN hG hm hcall hloop x (live y m cx) cx (Ub tb ch lp y m cx k) s out ρ a w _ ho'.1 h F R ⟨fun s' ρ' a' w' hk hle F' R'=> ?_,L.x,L.r⟩)
  exact yN hG hm hcall hloop y m cx k s' out ρ' a' w' Q ho'.2 hk F' R' ⟨fun s2 ρ2 a2 w2 h1 h2=>L.k s2 ρ2 a2 w2 h1 (cK.le_trans hle h2),fun id s2 ρ2 a2 w2 h1 h2=>L.x id s2 ρ2 a2 w2 h1 (cK.le_trans hle h2),fun s2 ρ2 a2 w2 h1 h2=>L.r s2 ρ2 a2 w2 h1 (cK.le_trans hle h2)⟩
 | .cond x thn els, m, cx, k, s, out, ρ, a, w, Q, ho, h, F, R, L => by
  have ho':CW tb n thn=true∧CW tb n els=true:=by simpa [CW]using ho
  obtain⟨v,hv,h⟩:=aA.1 (show ob (gW s.σ x) _=some out from h)
  obtain⟨b,hb,h⟩:=aA.1 h
  obtain⟨o,h1,h⟩:=aA.1 (show ob _ (fun o=>Ex.casesOn (motive:=fun _=>RS) o.e (gQ (iY m) o.vs fun σ=>k ⟨σ,o.H⟩) (fun _=>some o) (some o))=some out from h)
  have hx:=bM F hv
  rw[w_ hb]at hx
  have L':Pu w0 tb n cx (CC (iY m)) o ρ Q:=by
   refine⟨fun s' ρ' a' w' hk hle F' R'=> ?_,fun id s' ρ' a' w' hk hle F' R'=> ?_,fun s' ρ' a' w' hk hle F' R'=> ?_⟩
   ·obtain⟨e1,e2,e3⟩:=LP hk
    rw[e1]at h
    exact LA L h e2 e3 hle F' R'
   ·have e1:=vH hk
    rw[e1]at h;cases h
    exact L.x id s' ρ' a' w' hk hle F' R'
   ·have e1:=Im hk
    rw[e1]at h;cases h
    exact L.r s' ρ' a' w' hk hle F' R'
  refine AA hx.bool_inv (fun hbt=> ?_) (fun hbf=> ?_)
  ·rw[hbt]at h1
   exact yN hG hm hcall hloop thn m cx (CC (iY m)) s o ρ a w Q ho'.1 h1 F R L'
  ·rw[hbf]at h1
   exact yN hG hm hcall hloop els m cx (CC (iY m)) s o ρ a w Q ho'.2 h1 F R L'
 | .block id b, m, cx, k, s, out, ρ, a, w, Q, ho, h, F, R, L => by
  have ho':CW tb n b=true:=by simpa [CW]using ho
  obtain⟨o2,h2,h⟩:=aA.1 (show ob (nB id (Ub tb ch lp b m ⟨cx.res,cx.retm,(id,m)::cx.env⟩ (CC (iY m)) s)) (fun o=>Ex.casesOn (motive:=fun _=>RS) o.e (gQ (iY m) o.vs fun σ=>k ⟨σ,o.H⟩) (fun _=>some o) (some o))=some out from h)
  obtain⟨o,h1,h2⟩:=aA.1 (show ob (Ub tb ch lp b m ⟨cx.res,cx.retm,(id,m)::cx.env⟩ (CC (iY m)) s) (fun o=>Ex.casesOn (motive:=fun _=>RS) o.e (some o) (fun i=>Bool.casesOn (motive:=fun _=>RS) (Nat.beq i id) (some o) (some ⟨.normal,o.vs,o.H⟩)) (some o))=some o2 from h2)
  refine Ht (yN hG hm hcall hloop b m _ (CC (iY m)) s o ρ a w _ ho' h1 F R ⟨fun s' ρ' a' w' hk hle F' R'=> ?_,fun i s' ρ' a' w' hk hle F' R'=> ?_,fun s' ρ' a' w' hk hle F' R'=> ?_⟩)
  ·obtain⟨e1,e2,e3⟩:=LP hk
   rw[e1]at h2;cases h2
   rw[e1]at h
   exact LA L h e2 e3 hle F' R'
  ·have e1:=vH hk
   rw[e1]at h2
   by_cases hi:i=id
   ·subst hi
    have hb:Nat.beq i i=true:=by simp
    simp only[hb]at h2
    cases h2
    show Exit.inBlock i Q (.exit i) a' w'
    simp only[Exit.inBlock,if_true]
    have hk':o=⟨.exit i,xX s'.σ (iY (xC ((i,m)::cx.env) i)),s'.H⟩:=by cases hk;rfl
    have he:xC ((i,m)::cx.env) i=m:=by
     show(bif Nat.beq i i then m else xC cx.env i)=m
     rw[hb];rfl
    rw[he]at hk'
    exact LA (o:=⟨.normal,o.vs,o.H⟩) L h (by rw[hk']) (by rw[hk']) hle F' R'
   ·have hb:Nat.beq i id=false:=jZ hi
    simp only[hb]at h2
    cases h2
    rw[e1]at h
    cases h
    show Exit.inBlock id Q (.exit i) a' w'
    simp only[Exit.inBlock,if_neg hi]
    refine L.x i s' ρ' a' w' ?_ hle F' R'
    have he:xC ((id,m)::cx.env) i=xC cx.env i:=by
     show(bif Nat.beq id i then m else xC cx.env i)=_
     rw[jZ (Ne.symm hi)];rfl
    rw[<-hk]
    show Ey cx i s'=some ⟨.exit i,xX s'.σ (iY (xC ((id,m)::cx.env) i)),s'.H⟩
    rw[he];rfl
  ·have e1:=Im hk
   rw[e1]at h2;cases h2
   rw[e1]at h;cases h
   exact L.r s' ρ' a' w' hk hle F' R'
 | .loop b,m,cx,k,s,out,ρ,a,w,Q,ho,h,F,R,L=>by
  have ho':CW tb n b=true:=by simpa [CW]using ho
  have h':lp b cx (xX s.σ (iY (live (.loop b) 0 cx))) s.H=some out:=h
  have hun:=Ik s.σ (iY (live (.loop b) 0 cx))
  obtain⟨σ,hσ⟩:=hun
  exact zT.loop (hloop b cx _ s.H out h' n σ ρ a w Q ho' hσ (ED F hσ) R L.x L.r)
 | .exit id,m,cx,k,s,out,ρ,a,w,Q,_,h,F,R,L=>KF (L.x id s ρ a w h (cK.le_refl _) F R)
 | .ret,m,cx,k,s,out,ρ,a,w,Q,_,h,F,R,L=>NG (L.r s ρ a w h (cK.le_refl _) F R)
 | .rangeFunc _ _ _ _,m,cx,k,s,out,ρ,a,w,Q,ho,_,_,_,_=>by simp[CW]at ho
 | .scope _,m,cx,k,s,out,ρ,a,w,Q,ho,_,_,_,_=>by simp[CW]at ho
 | .label _,m,cx,k,s,out,ρ,a,w,Q,ho,_,_,_,_=>by simp[CW]at ho
 | .goto _,m,cx,k,s,out,ρ,a,w,Q,ho,_,_,_,_=>by simp[CW]at ho
 | .refuse _,m,cx,k,s,out,ρ,a,w,Q,ho,_,_,_,_=>by simp[CW]at ho

theorem UG (hG:dK P tb) {n:Nat} {s:GS} {ρ:cK} {a:Act} {w:World} (F:iQ ρ n s.σ a) (R:dR w0 ρ s.H w) {r:ResultVar} {g:GV} (h:WS tb s r=some g):∃v,Rl ρ g v∧(Bn a.tmps r).run P w = .ok v w:=by
 cases r with
 |tmp t=>exact⟨_,F.slot t g h,by simp[Bn,Act.eval]⟩
 |cell q T=>
  obtain⟨v,hv,h⟩:=aA.1 (show ob (AZ s.σ q) _=some g from h)
  have hs:=F.slot q v hv
  obtain⟨x,_,_,_,_,_,hx,hr⟩:=Gh (P:=P) hG R hs h
  have hr:=hr w rfl
  refine⟨x,hx,?_⟩
  obtain⟨p,hp,_⟩:=aA.1 (show ob v.asP _=some g from h)
  rw[z_ hp]at hs
  obtain⟨l,hl,e⟩:=hs.ptr_inv
  have e':a.tmps.getD q undef = .pointer (some ⟨l.b,l.off+p.2,none⟩):=e
  rw[e]at hr
  simp only[Instr.loadAt,Instr.sureAddr]at hr
  simp only[Bn,e',asAddr]
  simpa using hr
theorem JY (hG:dK P tb) {n:Nat} {s:GS} {ρ:cK} {a:Act} {w:World} (F:iQ ρ n s.σ a) (R:dR w0 ρ s.H w):∀{l:List ResultVar} {gs:List GV},JX tb s l=some gs->∃vs,lR ρ gs vs∧(l.mapM (Bn a.tmps)).run P w = .ok vs w
 | [],gs,h=>by cases h;exact⟨[],.nil,by simp⟩
 |r::l,gs,h=>by
  obtain⟨g,hg,h⟩:=aA.1 (show ob (WS tb s r) (fun v=>ob (JX tb s l) fun vs=>some (v::vs))=some gs from h)
  obtain⟨gs',hgs,h⟩:=aA.1 h
  cases h
  obtain⟨v,hv,h1⟩:=UG (P:=P) hG F R hg
  obtain⟨vs,hvs,h2⟩:=JY hG F R hgs
  exact⟨v::vs,.cons hv hvs,by simp[List.mapM_cons,h1,h2]⟩
theorem RF {ρ:cK} {gs:List GV} {vs:List Value} (h:lR ρ gs vs):Rl ρ (OH gs) (if h:vs.toArray.size=1 then vs.toArray[0]else .tuple vs.toArray):=by
 cases gs with
 |nil=>rw[h.of_nil];exact Eo .nil
 | cons g gs =>
  obtain⟨v,vs,rfl,h1,h2⟩:=h.of_cons
  cases gs with
  |nil=>rw[h2.of_nil];show Rl ρ g _;simpa using h1
  |cons g' gs=>
   obtain⟨v',vs',rfl,h3,h4⟩:=h2.of_cons
   rw[dif_neg (by simp)]
   exact Eo (.cons h1 (.cons h3 h4))
theorem CE (hG:dK P tb) {fn:Func} {cx:Cx} (hcx:cx.res=fn.results.toList) {n:Nat} {s:GS} {ρ:cK} {a:Act} {w:World} {out:IU} (F:iQ ρ n s.σ a) (R:dR w0 ρ s.H w) (h:LQ tb cx s=some out):out.H=s.H∧∃v,Rl ρ (OH out.vs) v∧(results fn a.tmps).run P w = .ok v w:=by
 obtain⟨gs,hgs,h⟩:=aA.1 (show ob (JX tb s cx.res) _=some out from h)
 cases h
 obtain⟨vs,hvs,hr⟩:=JY (P:=P) hG F R hgs
 rw[hcx]at hr
 refine⟨rfl,_,RF hvs,?_⟩
 rw[vX]
 have hm:(fn.results.mapM (Bn a.tmps)).run P w = .ok vs.toArray w:=by
  rw[Array.mapM_eq_mapM_toList]
  simp[hr]
 simp[hm]
structure NK (P:Program) (G:GP) (Fs:FT) {gs:tX} (w0:cV gs):Prop where
 tab:dK P G.tab
 mixed:P.follows .mixedOrders=true
 fns:∀{f fn},Fs f=some fn->P.funcs[f]? = some fn∧aN P f∧(∀c,fn.body=some c->CW G.tab fn.ntmps c=true)∧fn.params.size+fn.nfree<=fn.ntmps
 ext:∀{f us H g H'},G.ext f us H=some (g,H')->∀ρ w vs,dR w0 ρ H w->lR ρ us vs->iP P w0 ρ f vs w g H'
 exn:∀{f us g},G.exn f us=some g->∀ρ w vs H,dR w0 ρ H w->lR ρ us vs->iP P w0 ρ f vs w g H
 /-- the function that catches returns 0 and 0 if its argument returns;its two variables are new objects -/
 cat:∀{ρ:cK} {g us cs w H H' c1 c2},dR w0 ρ H w->(∀ρ' w',ρ.le ρ'->dR w0 ρ' ((H.new (.cells [sQ])).new (.cells [sQ])) w'->∃x,iP P w0 ρ' g (us++cs) w' x H')->H'.cells H.n=some [c1]->H'.cells (H.n+1)=some [c2]->
  iP P w0 ρ G.cat [.func (.func g) us.toArray cs.toArray] w (.tup [sQ,sQ]) ((((H'.set H.n (.cells [sQ])).set (H.n+1) (.cells [sQ])).del H.n).del (H.n+1))
def Pe (P:Program) {gs:tX} (w0:cV gs) (ih:IH):Prop:=∀f us H out,ih (.fn f) us H=some out->out.e = .ret->∀ρ w vs,dR w0 ρ H w->lR ρ us vs->
 aN P f∧Calls P f vs.toArray w fun e w'=>∃v ρ',e = .returned v∧ρ.le ρ'∧dR w0 ρ' out.H w'∧Rl ρ' (OH out.vs) v
theorem Jq {ih:IH} (h:Pe P w0 ih):oB P w0 (XW ih):=fun f us H g H' hc ρ w vs R hr=>by
 obtain⟨o,h1,h2⟩:=aA.1 (show ob (ih (.fn f) us H) _=some (g,H')from hc)
 cases he:o.e with
 |normal=>rw[he]at h2;cases h2
 |exit id=>rw[he]at h2;cases h2
 |ret=>
  rw[he]at h2;cases h2
  obtain⟨hb,hcalls⟩:=h f us H o h1 he ρ w vs R hr
  exact .inr ⟨hb _ w,hcalls⟩
theorem Fb {ih:IH} (hG:NK P G Fs w0) (h:Pe P w0 ih):oB P w0 (Aa G ih):=fun f us H g H' hc ρ w vs R hr=>by
 unfold Aa callQ at hc
 cases hf:Nat.beq f G.cat with
 | false =>
  rw[hf]at hc
  cases he:G.ext f us H with
  |some r=>
   simp only[he]at hc
   cases hc
   exact hG.ext he ρ w vs R hr
  | none =>
   simp only[he]at hc
   cases hn:G.exn f us with
   |some r=>
    simp only[hn]at hc
    cases hc
    exact hG.exn hn ρ w vs _ R hr
   |none=>
    simp only[hn]at hc
    exact Jq h f us H g H' hc ρ w vs R hr
 | true =>
  rw[hf]at hc
  have hf:=Nat.eq_of_beq_eq_true hf
  subst hf
  cases us with
  |nil=>cases hc
  | cons u us =>
   cases us with
   |cons _ _=>cases hc
   |nil=>
    obtain⟨p,hp,hc⟩:=aA.1 (show ob u.asF _=some (g,H')from hc)
    rw[fU,fU]at hc
    obtain⟨x,hx,hc⟩:=aA.1 hc
    obtain⟨c1,hc1,hc⟩:=aA.1 hc
    obtain⟨c2,hc2,hc⟩:=aA.1 hc
    obtain⟨hl1,hc⟩:=a_.1 hc
    obtain⟨hl2,hc⟩:=a_.1 hc
    rw[sV,sV,Bw,Bw]at hc
    cases hc
    obtain⟨a1,rfl⟩:=List.length_eq_one_iff.1 (Nat.eq_of_beq_eq_true hl1)
    obtain⟨a2,rfl⟩:=List.length_eq_one_iff.1 (Nat.eq_of_beq_eq_true hl2)
    obtain⟨v,vs,rfl,h1,h2⟩:=hr.of_cons
    rw[h2.of_nil]
    rw[PW hp]at h1
    obtain⟨us',cs',rfl,hu,hcs⟩:=h1.fn_inv
    exact hG.cat R (fun ρ' w' hle R'=>⟨x.1,Jq h p.1 _ _ x.1 x.2 hx ρ' w' _ R' ((hu.le hle).append (hcs.le hle))⟩) hc1 hc2
theorem Wt {ih:IH} (hG:∀w0:cV gs,NK P G Fs w0) (hfn:∀w0:cV gs,Pe P w0 ih) (hloop:CZ P w0 G.tab fun b cx=>ih (.loop b cx)) {f:Nat} {fn:Func} {us:List GV} {H:GH} {out:IU} (hf:Fs f=some fn) (h:QB G.tab (Aa G ih) (fun b cx=>ih (.loop b cx)) fn us H=some out) (he:out.e = .ret) {ρ:cK} {w:World} {vs:List Value} (R:dR w0 ρ H w) (hr:lR ρ us vs):
  aN P f∧Calls P f vs.toArray w fun e w'=>∃v ρ',e = .returned v∧ρ.le ρ'∧dR w0 ρ' out.H w'∧Rl ρ' (OH out.vs) v:=by
 obtain⟨h1,h2,h3,h4⟩:=(hG w0).fns hf
 refine⟨h2,?_⟩
 obtain⟨body,hb,h⟩:=aA.1 (show ob fn.body _=some out from h)
 obtain⟨σ,hσ,h⟩:=nC h
 rw[List.range_eq_range']at hσ
 have hlen:=EW hσ
 have hvl:vs.length<=fn.ntmps:=by rw[<-hr.len,hlen];exact h4
 refine oZ h1 hb ?_
 have F:iQ ρ fn.ntmps σ {tmps:=vs.toArray++Array.replicate (fn.ntmps - vs.toArray.size) undef,defers:=[]}:=by
  refine HJ rfl (by simp;omega) hr (fun j v hv=> ?_) hσ
  have hlt:=aU hv
  rw[Nat.zero_add,Array.getElem?_append_left (by simpa using hlt)]
  simpa using hv
 refine yN (hG w0).tab (hG w0).mixed (fun w0=>Fb (hG w0) (hfn w0)) hloop body _ _ _ ⟨σ,H⟩ out ρ _ w _ (h3 body hb) h F R ⟨fun s' ρ' a' w' hk hle' F' R'=> ?_,fun id s' ρ' a' w' hk hle' F' R'=> ?_,fun s' ρ' a' w' hk hle' F' R'=> ?_⟩
 ·obtain⟨e1,v,hv,hres⟩:=CE (fn:=fn) (hG w0).tab rfl F' R' hk
  exact Sx.body_end (.inr rfl) F'.defers hres ⟨v,ρ',rfl,hle',by rw[e1];exact R',hv⟩
 ·have:=vH hk
  rw[he]at this;cases this
 ·obtain⟨e1,v,hv,hres⟩:=CE (fn:=fn) (hG w0).tab rfl F' R' hk
  exact Sx.body_end (.inl rfl) F'.defers hres ⟨v,ρ',rfl,hle',by rw[e1];exact R',hv⟩
theorem WV (hG:∀w0:cV gs,NK P G Fs w0):∀(fuel:Nat) (w0:cV gs),Pe P w0 (run G Fs fuel)∧CZ P w0 G.tab fun b cx=>run G Fs fuel (.loop b cx):=by
 intro fuel
 induction fuel with
 |zero=>exact fun w0=>⟨fun f us H out h=>(by cases h),fun b cx vs H out h=>(by cases h)⟩
 | succ fuel ih =>
  have ihf:∀w0:cV gs,Pe P w0 (run G Fs fuel):=fun w0=>(ih w0).1
  intro w0
  have ihl:=(ih w0).2
  refine⟨fun f us H out h he ρ w vs R hr=> ?_,fun b cx vs H out h n σ ρ a w Q ho hσ F R hx hret=> ?_⟩
  ·obtain⟨fn,hfn,h⟩:=aA.1 (show ob (Fs f) _=some out from h)
   exact Wt hG ihf ihl hfn h he R hr
  ·have h':gQ (iY (live (.loop b) 0 cx)) vs (fun σ=>ob (Ub G.tab (Aa G (run G Fs fuel)) (fun b cx=>run G Fs fuel (.loop b cx)) b (live (.loop b) 0 cx) cx (CC (iY (live (.loop b) 0 cx))) ⟨σ,H⟩) fun o=>Ex.casesOn (motive:=fun _=>RS) o.e (run G Fs fuel (.loop b cx) o.vs o.H) (fun _=>some o) (some o))=some out:=h
   obtain⟨σ',hσ',h'⟩:=nC h'
   rw[hσ]at hσ';cases hσ'
   obtain⟨o,h1,h2⟩:=aA.1 h'
   refine zT.round (yN (hG w0).tab (hG w0).mixed (fun w0=>Fb (hG w0) (ihf w0)) ihl b _ cx _ ⟨σ,H⟩ o ρ a w _ ho h1 F R ⟨fun s' ρ' a' w' hk hle F' R'=> ?_,fun id s' ρ' a' w' hk hle F' R'=> ?_,fun s' ρ' a' w' hk hle F' R'=> ?_⟩)
   ·obtain⟨e1,e2,e3⟩:=LP hk
    rw[e1,e2,e3]at h2
    obtain⟨σ2,hσ2⟩:=Ik s'.σ (iY (live (.loop b) 0 cx))
    exact ihl b cx _ s'.H out h2 n σ2 ρ' a' w' Q ho hσ2 (ED F' hσ2) R' (fun id s2 ρ2 a2 w2 x1 x2=>hx id s2 ρ2 a2 w2 x1 (cK.le_trans hle x2)) (fun s2 ρ2 a2 w2 x1 x2=>hret s2 ρ2 a2 w2 x1 (cK.le_trans hle x2))
   ·have e1:=vH hk
    rw[e1]at h2;cases h2
    exact hx id s' ρ' a' w' hk hle F' R'
   ·have e1:=Im hk
    rw[e1]at h2;cases h2
    exact hret s' ρ' a' w' hk hle F' R'
theorem Cg (hG:∀w0:cV gs,NK P G Fs w0) {fuel f:Nat} {us:List GV} {H H':GH} {g:GV} (h:ME G Fs fuel f us H=some (g,H')) {ρ:cK} {w:World} {vs:List Value} (R:dR w0 ρ H w) (hr:lR ρ us vs):iP P w0 ρ f vs w g H':=
 Fb (hG w0) (WV hG fuel w0).1 f us H g H' h ρ w vs R hr
theorem dR.start (b:cV gs) (he:gs.env=[]):dR b (fun _=>none) H0 b.w:=⟨xL.refl _,fun h o hg=>(by cases hg),fun h h' o o' l l' hg=>(by cases hg),fun _ _=>rfl,fun h hh=>absurd hh (Nat.not_lt_zero h),fun h v l hv=>(by cases hv),fun i v e=>by rw[he]at e;simp at e⟩
end
end
end Go.Gx
end
section
namespace Go.Gx
open Go Go.Sx
noncomputable section
def oN (vs:List GV) (H:GH):RS:=some ⟨.normal,vs,H⟩
def oX (id:Nat) (vs:List GV) (H:GH):RS:=some ⟨.exit id,vs,H⟩
def oR (vs:List GV) (H:GH):RS:=some ⟨.ret,vs,H⟩
def jn (r:RS) (k:List GV->GH->RS):RS:=ob r fun o=>Ex.casesOn (motive:=fun _=>RS) o.e (k o.vs o.H) (fun _=>some o) (some o)
def rG (v:GV) (b:Bool) (H:GH) (X:OR):OR:=GV.casesOn (motive_1:=fun _=>OR) v (fun _ _=>none) (fun q=>Bool.casesOn (motive:=fun _=>OR) (MM q b) (some (.un,H)) X) (fun _ _=>none) (fun _ _=>none) none (fun _ _ _ _=>none) none (fun _=>none) (fun _ _ _=>none) none none (fun _=>none) (fun _=>none) (some (.un,H)) none (fun _=>none)
def U0 {R:Type} (r0:List GV) (f:Option R):Option R:=List.casesOn (motive:=fun _=>Option R) r0 (f) fun _ _=>none
def U1 {R:Type} (r0:List GV) (f:GV->Option R):Option R:=List.casesOn (motive:=fun _=>Option R) r0 none fun a0 r1=>List.casesOn (motive:=fun _=>Option R) r1 (f a0) fun _ _=>none
def U2 {R:Type} (r0:List GV) (f:GV->GV->Option R):Option R:=List.casesOn (motive:=fun _=>Option R) r0 none fun a0 r1=>List.casesOn (motive:=fun _=>Option R) r1 none fun a1 r2=>List.casesOn (motive:=fun _=>Option R) r2 (f a0 a1) fun _ _=>none
def U3 {R:Type} (r0:List GV) (f:GV->GV->GV->Option R):Option R:=List.casesOn (motive:=fun _=>Option R) r0 none fun a0 r1=>List.casesOn (motive:=fun _=>Option R) r1 none fun a1 r2=>List.casesOn (motive:=fun _=>Option R) r2 none fun a2 r3=>List.casesOn (motive:=fun _=>Option R) r3 (f a0 a1 a2) fun _ _=>none
def U4 {R:Type} (r0:List GV) (f:GV->GV->GV->GV->Option R):Option R:=List.casesOn (motive:=fun _=>Option R) r0 none fun a0 r1=>List.casesOn (motive:=fun _=>Option R) r1 none fun a1 r2=>List.casesOn (motive:=fun _=>Option R) r2 none fun a2 r3=>List.casesOn (motive:=fun _=>Option R) r3 none fun a3 r4=>List.casesOn (motive:=fun _=>Option R) r4 (f a0 a1 a2 a3) fun _ _=>none
def U5 {R:Type} (r0:List GV) (f:GV->GV->GV->GV->GV->Option R):Option R:=List.casesOn (motive:=fun _=>Option R) r0 none fun a0 r1=>List.casesOn (motive:=fun _=>Option R) r1 none fun a1 r2=>List.casesOn (motive:=fun _=>Option R) r2 none fun a2 r3=>List.casesOn (motive:=fun _=>Option R) r3 none fun a3 r4=>List.casesOn (motive:=fun _=>Option R) r4 none fun a4 r5=>List.casesOn (motive:=fun _=>Option R) r5 (f a0 a1 a2 a3 a4) fun _ _=>none
def U6 {R:Type} (r0:List GV) (f:GV->GV->GV->GV->GV->GV->Option R):Option R:=List.casesOn (motive:=fun _=>Option R) r0 none fun a0 r1=>List.casesOn (motive:=fun _=>Option R) r1 none fun a1 r2=>List.casesOn (motive:=fun _=>Option R) r2 none fun a2 r3=>List.casesOn (motive:=fun _=>Option R) r3 none fun a3 r4=>List.casesOn (motive:=fun _=>Option R) r4 none fun a4 r5=>List.casesOn (motive:=fun _=>Option R) r5 none fun a5 r6=>List.casesOn (motive:=fun _=>Option R) r6 (f a0 a1 a2 a3 a4 a5) fun _ _=>none
def U7 {R:Type} (r0:List GV) (f:GV->GV->GV->GV->GV->GV->GV->Option R):Option R:=List.casesOn (motive:=fun _=>Option R) r0 none fun a0 r1=>List.casesOn (motive:=fun _=>Option R) r1 none fun a1 r2=>List.casesOn (motive:=fun _=>Option R) r2 none fun a2 r3=>List.casesOn (motive:=fun _=>Option R) r3 none fun a3 r4=>List.casesOn (motive:=fun _=>Option R) r4 none fun a4 r5=>List.casesOn (motive:=fun _=>Option R) r5 none fun a5 r6=>List.casesOn (motive:=fun _=>Option R) r6 none fun a6 r7=>List.casesOn (motive:=fun _=>Option R) r7 (f a0 a1 a2 a3 a4 a5 a6) fun _ _=>none
def U8 {R:Type} (r0:List GV) (f:GV->GV->GV->GV->GV->GV->GV->GV->Option R):Option R:=List.casesOn (motive:=fun _=>Option R) r0 none fun a0 r1=>List.casesOn (motive:=fun _=>Option R) r1 none fun a1 r2=>List.casesOn (motive:=fun _=>Option R) r2 none fun a2 r3=>List.casesOn (motive:=fun _=>Option R) r3 none fun a3 r4=>List.casesOn (motive:=fun _=>Option R) r4 none fun a4 r5=>List.casesOn (motive:=fun _=>Option R) r5 none fun a5 r6=>List.casesOn (motive:=fun _=>Option R) r6 none fun a6 r7=>List.casesOn (motive:=fun _=>Option R) r7 none fun a7 r8=>List.casesOn (motive:=fun _=>Option R) r8 (f a0 a1 a2 a3 a4 a5 a6 a7) fun _ _=>none
def U9 {R:Type} (r0:List GV) (f:GV->GV->GV->GV->GV->GV->GV->GV->GV->Option R):Option R:=List.casesOn (motive:=fun _=>Option R) r0 none fun a0 r1=>List.casesOn (motive:=fun _=>Option R) r1 none fun a1 r2=>List.casesOn (motive:=fun _=>Option R) r2 none fun a2 r3=>List.casesOn (motive:=fun _=>Option R) r3 none fun a3 r4=>List.casesOn (motive:=fun _=>Option R) r4 none fun a4 r5=>List.casesOn (motive:=fun _=>Option R) r5 none fun a5 r6=>List.casesOn (motive:=fun _=>Option R) r6 none fun a6 r7=>List.casesOn (motive:=fun _=>Option R) r7 none fun a7 r8=>List.casesOn (motive:=fun _=>Option R) r8 none fun a8 r9=>List.casesOn (motive:=fun _=>Option R) r9 (f a0 a1 a2 a3 a4 a5 a6 a7 a8) fun _ _=>none
def LV:iO->Code->Code
 | [],c=>c
 |0::p,.seq a _=>LV p a
 |1::p,.seq _ b=>LV p b
 |0::p,.cond _ a _=>LV p a
 |1::p,.cond _ _ b=>LV p b
 |0::p,.block _ b=>LV p b
 |0::p,.loop b=>LV p b
 |_,c=>c
def bU (fn:Func) (p:iO):Code:=match fn.body with
 |some c=>LV p c
 |none=> .skip
def fS (fn:Func) (env:List (Nat×Nat)):Cx:=⟨fn.results.toList,EF fn.results.toList,env⟩
abbrev eH:=CH->QH->List GV->GH->RS
structure Cd where
 fn:Nat->Option (Func×eH)
 lp:Nat->Option ((Code×Cx)×eH)
def Cd.fns (T:Cd) (f:Nat):Option Func:=ob (T.fn f) fun e=>some e.1
def Cd.loop (T:Cd) (lp:LH):QH:=fun i vs H=>ob (T.lp i) fun e=>lp e.1.1 e.1.2 vs H
def rr (T:Cd) (G:GP) (n:Nat):Bool->QH:=Nat.rec (motive:=fun _=>Bool->QH) (fun _ _ _ _=>none) (fun _ ih b t vs H=>Bool.casesOn (motive:=fun _=>RS) b (ob (T.fn t) fun e=>e.2 (callQ G (ih false)) (ih true) vs H) (ob (T.lp t) fun e=>e.2 (callQ G (ih false)) (ih true) vs H)) n
structure EQ (T:Cd) (tb:TB):Prop where
 fn:∀{f e},T.fn f=some e->∀(c:CH) (lp:LH) us H,e.2 c (T.loop lp) us H=QB tb c lp e.1 us H
 lp:∀{i e},T.lp i=some e->∀(c:CH) (lp:LH) us H,e.2 c (T.loop lp) us H=Xl tb c lp e.1.1 e.1.2 us H
theorem Yt {T:Cd} {G:GP} (h:EQ T G.tab):∀n,rr T G n false=(fun f us H=>run G T.fns n (.fn f) us H)∧rr T G n true=T.loop (fun b cx=>run G T.fns n (.loop b cx)):=by
 intro n
 induction n with
 |zero=>
  refine⟨rfl,?_⟩
  funext i vs H
  show none=ob (T.lp i) fun e=>none
  cases T.lp i<;>rfl
 | succ n ih =>
  obtain⟨ih1,ih2⟩:=ih
  constructor
  ·funext f us H
   show ob (T.fn f) (fun e=>e.2 (callQ G (rr T G n false)) (rr T G n true) us H)=ob (T.fns f) fun fn=>QB G.tab (Aa G (run G T.fns n)) (fun b cx=>run G T.fns n (.loop b cx)) fn us H
   unfold Cd.fns
   cases hf:T.fn f with
   |none=>rfl
   |some e=>
    show e.2 (callQ G (rr T G n false)) (rr T G n true) us H=QB G.tab (Aa G (run G T.fns n)) (fun b cx=>run G T.fns n (.loop b cx)) e.1 us H
    rw[ih1,ih2]
    exact h.fn hf _ _ us H
  ·funext i vs H
   show ob (T.lp i) (fun e=>e.2 (callQ G (rr T G n false)) (rr T G n true) vs H)=ob (T.lp i) fun e=>run G T.fns (n+1) (.loop e.1.1 e.1.2) vs H
   cases hf:T.lp i with
   |none=>rfl
   |some e=>
    show e.2 (callQ G (rr T G n false)) (rr T G n true) vs H=Xl G.tab (Aa G (run G T.fns n)) (fun b cx=>run G T.fns n (.loop b cx)) e.1.1 e.1.2 vs H
    rw[ih1,ih2]
    exact h.lp hf _ _ vs H
def Xo (tb:TB) (fn:Func):Bool:=match fn.body with
 |some c=>CW tb fn.ntmps c&&Nat.ble (fn.params.size+fn.nfree) fn.ntmps
 |none=>false
theorem JO {tb:TB} {fn:Func} (h:Xo tb fn=true):(∀c,fn.body=some c->CW tb fn.ntmps c=true)∧fn.params.size+fn.nfree<=fn.ntmps:=by
 unfold Xo at h
 cases hb:fn.body with
 |none=>rw[hb]at h;cases h
 |some c=>
  rw[hb]at h
  simp only[Bool.and_eq_true]at h
  exact⟨fun c' hc=>by cases hc;exact h.1,by simpa using h.2⟩
def Fc (T:Cd) (G:GP) (fuel:Nat) (f:FuncId) (args:List GV) (H:GH):OR:=callQ G (rr T G fuel false) f args H
theorem Ch {T:Cd} {G:GP} (h:EQ T G.tab) (fuel:Nat) (f:FuncId) (args:List GV) (H:GH):Fc T G fuel f args H=ME G T.fns fuel f args H:=by
 unfold Fc ME Aa
 rw[(Yt h fuel).1]
end
end Go.Gx
end
section
set_option maxRecDepth 100000
namespace Go.Gx
open Go Go.Sx Go.Proofs
noncomputable section
abbrev y:=rR
def gB (f:Func) (c:CH) (_:QH) (us:List GV) (H:GH):RS:=QB y c (fun _ _ _ _=>none) f us H
def nS (f:Func) (i:Nat) (c:CH) (q:QH) (us:List GV) (H:GH):RS:=QB y c (fun _ _ vs H=>q i vs H) f us H
def gL (e:Code×Cx) (i:Nat) (c:CH) (q:QH) (us:List GV) (H:GH):RS:=Xl y c (fun _ _ vs H=>q i vs H) e.1 e.2 us H
def gL1 (e:Code×Cx) (n i j:Nat) (c:CH) (q:QH) (us:List GV) (H:GH):RS:=Xl y c (fun _ cx vs H=>bif Nat.beq cx.env.length n then q i vs H else q j vs H) e.1 e.2 us H
def gD (e:Code×Cx) (i:Nat):(Code×Cx)×eH:=(e,gL e i)
def YG (e:Code×Cx) (n i j:Nat):(Code×Cx)×eH:=(e,gL1 e n i j)
def i (n:Nat):GV:= .int .i64 (.ofNat n)
def bC (q:Bool) (f t:RS):RS:=Bool.casesOn (motive:=fun _=>RS) q f t
def K (c:CH) (f:Nat) (us:List GV) (H:GH) (k:GV->GH->RS):RS:=fQ (c f us H) k
def bn (op:BinOp) (T:Nat) (v u:GV) (k:GV->RS):RS:=ob (Bc y op T v u) k
def ld (T:Nat) (v:GV) (H:GH) (k:GV->RS):RS:=ob (sO y T v H) k
def fd (T n:Nat) (v:GV) (k:GV->RS):RS:=ob (BV y T n v) k
def ix (T:Nat) (v u:GV) (k:GV->RS):RS:=ob (Gg y T v u) k
def ln (T:Nat) (v:GV) (k:GV->RS):RS:=ob (Mb y T v) k
def ex (n:Nat) (v:GV) (k:GV->RS):RS:=ob (Xd n v) k
theorem rN {α:Type} {f n:Nat} {x y:Option α} {e:α} {R:Prop} (hx:x=some e->R) (hy:y=some e->R):tN f n x y=some e->R:=by
 unfold tN
 cases Nat.blt f n
 ·exact hy
 ·exact hx
theorem rL {α:Type} {f n:Nat} {x e:α} {R:Nat->α->Prop} (h:R n x):tL f n x=some e->R f e:=by
 intro he
 unfold tL at he
 cases hb:Nat.beq f n with
 |false=>rw[hb]at he;cases he
 |true=>rw[hb]at he;cases he;rw[Nat.eq_of_beq_eq_true hb];exact h
def B49 (c:CH) (ql:QH) (us:List GV) (H:GH):RS:=U2 us fun x1 x2=>
 fQ (L_ x1 H) fun t3 h4=>
 fd 29 0 t3 fun t5=>
 ld 22 t5 h4 fun t6=>
 ln 22 t6 fun t7=>
 fQ (NC y 22 t7 t7 h4) fun t8 h9=>
 ln 22 t8 fun t10=>
 jn (nB 0 (ql 3 [x2,t3,t8,t10,(i 0)] h9)) fun vs11 h12=>U3 vs11 fun a13 a14 a15=>fd 29 0 a14 fun t16=>
 ld 22 t16 h12 fun t17=>
 ln 22 t17 fun t18=>
 jn (nB 2 (ql 4 [a13,a14,a15,t18,(i 0)] h12)) fun vs19 h20=>U1 vs19 fun a21=>oR [a21] h20
def L3 (c:CH) (ql:QH) (us:List GV) (H:GH):RS:=U5 us fun a22 a23 a24 a25 a26=>jn (bn .lss 3 a26 a25 fun t27=>
 ob (GV.asB t27) fun q28=>jn (bC q28 (oX 0 [a22,a23,a24] H) (oN [a22,a23,a24,a25,a26] H)) fun vs29 h30=>U5 vs29 fun a31 a32 a33 a34 a35=>jn (nB 1 (ix 22 a33 a35 fun t36=>
 fQ (oV y 3 t36 (.int .i64 (.negSucc 0)) h30) fun t37 h38=>
 oN [a31,a32,a33,a34,a35] h38)) fun vs39 h40=>U5 vs39 fun a41 a42 a43 a44 a45=>bn .add 3 a45 (i 1) fun t46=>
 oN [a41,a42,a43,a44,t46] h40) (ql 3)
def L4 (c:CH) (ql:QH) (us:List GV) (H:GH):RS:=U5 us fun a47 a48 a49 a50 a51=>jn (bn .lss 3 a51 a50 fun t52=>
 ob (GV.asB t52) fun q53=>jn (bC q53 (oX 2 [a49] H) (oN [a47,a48,a49,a50,a51] H)) fun vs54 h55=>U5 vs54 fun a56 a57 a58 a59 a60=>jn (nB 3 (bn .shr 26 a56 a60 fun t61=>
 bn .and 26 t61 (.int .u32 (.ofNat 1)) fun t62=>
 bn .eql 26 t62 (.int .u32 (.ofNat 0)) fun t63=>
 ob (GV.asB t63) fun q64=>jn (bC q64 (oN [a56,a57,a58,a60,a59,a60] h55) (oX 3 [a56,a57,a58,a59,a60] h55)) fun vs65 h66=>U6 vs65 fun a67 a68 a69 a70 a71 a72=>ld 29 a68 h66 fun t73=>
 K c 91 [t73,a70] h66 fun t74 h75=>
 ln 22 t74 fun t76=>
 jn (nB 4 (ql 5 [a67,a68,a69,a71,a72,t74,t76,(i 0)] h75)) fun vs77 h78=>U5 vs77 fun a79 a80 a81 a82 a83=>oN [a79,a80,a81,a82,a83] h78)) fun vs84 h85=>U5 vs84 fun a86 a87 a88 a89 a90=>bn .add 3 a90 (i 1) fun t91=>
 oN [a86,a87,a88,a89,t91] h85) (ql 4)
def L5 (c:CH) (ql:QH) (us:List GV) (H:GH):RS:=U8 us fun a92 a93 a94 a95 a96 a97 a98 a99=>jn (bn .lss 3 a99 a98 fun t100=>
 ob (GV.asB t100) fun q101=>jn (bC q101 (oX 4 [a92,a93,a94,a95,a96] H) (oN [a92,a93,a94,a95,a96,a97,a98,a99] H)) fun vs102 h103=>U8 vs102 fun a104 a105 a106 a107 a108 a109 a110 a111=>jn (nB 5 (ix 22 a109 a111 fun t112=>
 ld 3 t112 h103 fun t113=>
 bn .geq 3 t113 (i 0) fun t114=>
 fQ (rG t114 true h103 (some (a106,h103))) fun t115 h116=>
 fQ (rG t114 true h116 (some (a111,h116))) fun t117 h118=>
 fQ (rG t114 true h118 (ob (Gg y 22 t115 t117) fun g119=>some (g119,h118))) fun t120 h121=>
 fQ (rG t114 true h121 (ob (sO y 3 t120 h121) fun g122=>some (g122,h121))) fun t123 h124=>
 fQ (rG t114 true h124 (ob (Bc y .lss 3 t123 (i 0)) fun g125=>some (g125,h124))) fun t126 h127=>
 fQ (rG t114 true h127 (some (t126,h127))) fun t128 h129=>
 fQ (rG t128 false h129 (some (t113,h129))) fun t130 h131=>
 fQ (rG t128 false h131 (some (a106,h131))) fun t132 h133=>
 fQ (rG t128 false h133 (some (a111,h133))) fun t134 h135=>
 fQ (rG t128 false h135 (ob (Gg y 22 t132 t134) fun g136=>some (g136,h135))) fun t137 h138=>
 fQ (rG t128 false h138 (ob (sO y 3 t137 h138) fun g139=>some (g139,h138))) fun t140 h141=>
 fQ (rG t128 false h141 (ob (Bc y .lss 3 t130 t140) fun g142=>some (g142,h141))) fun t143 h144=>
 fQ (rG t114 true h144 (ob (uG t128 (.bool true) t143) fun g145=>some (g145,h144))) fun t146 h147=>
 ob (uG t114 t146 (.bool false)) fun t148=>
 ob (GV.asB t148) fun q149=>jn (bC q149 (oN [a104,a105,a106,a107,a108,a109,a110,a111] h147) (ix 22 a106 a111 fun t150=>
 fQ (oV y 3 t150 t113 h147) fun t151 h152=>
 oN [a104,a105,a106,a107,a108,a109,a110,a111] h152)) fun vs153 h154=>U8 vs153 fun a155 a156 a157 a158 a159 a160 a161 a162=>oN [a155,a156,a157,a158,a159,a160,a161,a162] h154)) fun vs163 h164=>U8 vs163 fun a165 a166 a167 a168 a169 a170 a171 a172=>bn .add 3 a172 (i 1) fun t173=>
 oN [a165,a166,a167,a168,a169,a170,a171,t173] h164) (ql 5)
def B82 (c:CH) (ql:QH) (us:List GV) (H:GH):RS:=U1 us fun x1=>
 ln 9 x1 fun t2=>
 bn .gtr 3 t2 (i 16384) fun t3=>
 ob (GV.asB t3) fun q4=>jn (bC q4 (oN [x1] H) (oR [.snil,(i 0),(i 3)] H)) fun vs5 h6=>U1 vs5 fun a7=>K c 118 [a7,(i 0)] h6 fun t8 h9=>
 jn (nB 0 (ql 11 [a7,.snil,t8] h9)) fun vs10 h11=>U1 vs10 fun a12=>oR [a12,(i 0),(i 0)] h11
def L11 (c:CH) (ql:QH) (us:List GV) (H:GH):RS:=U3 us fun a13 a14 a15=>jn (ln 9 a13 fun t16=>
 bn .lss 3 a15 t16 fun t17=>
 ob (GV.asB t17) fun q18=>jn (bC q18 (oX 0 [a14] H) (oN [a13,a14,a15] H)) fun vs19 h20=>U3 vs19 fun a21 a22 a23=>jn (nB 1 (ln 133 a22 fun t24=>
 bn .eql 3 t24 (i 4096) fun t25=>
 ob (GV.asB t25) fun q26=>jn (bC q26 (oN [a21,a22,a23] h20) (oR [.snil,a23,(i 3)] h20)) fun vs27 h28=>U3 vs27 fun a29 a30 a31=>K c 119 [a29,a31] h28 fun t32 h33=>
 ex 0 t32 fun t34=>
 ex 1 t32 fun t35=>
 fQ (rH y 176 h33) fun t36 h37=>
 fQ (oV y 176 t36 t34 h37) fun t38 h39=>
 bn .neq 44 t35 (i 0) fun t40=>
 ob (GV.asB t40) fun q41=>jn (bC q41 (oN [a29,a30,t36] h39) (oR [.snil,a31,t35] h39)) fun vs42 h43=>U3 vs42 fun a44 a45 a46=>ld 176 a46 h43 fun t47=>
 fQ (wV y 133 1 [(0,t47)] h43) fun t48 h49=>
 fQ (OV y 133 133 a45 t48 h49) fun t50 h51=>
 fd 176 2 a46 fun t52=>
 ld 3 t52 h51 fun t53=>
 K c 118 [a44,t53] h51 fun t54 h55=>
 oN [a44,t50,t54] h55)) fun vs56 h57=>U3 vs56 fun a58 a59 a60=>oN [a58,a59,a60] h57) (ql 11)
def B85 (c:CH) (ql:QH) (us:List GV) (H:GH):RS:=U1 us fun x1=>
 fQ (L_ x1 H) fun t2 h3=>
 fd 36 1 t2 fun t4=>
 ld 32 t4 h3 fun t5=>
 ln 32 t5 fun t6=>
 bn .eql 3 t6 (i 0) fun t7=>
 fQ (rG t7 false h3 (ob (BV y 36 1 t2) fun g8=>some (g8,h3))) fun t9 h10=>
 fQ (rG t7 false h10 (ob (sO y 32 t9 h10) fun g11=>some (g11,h10))) fun t12 h13=>
 fQ (rG t7 false h13 (ob (Mb y 32 t12) fun g14=>some (g14,h13))) fun t15 h16=>
 fQ (rG t7 false h16 (ob (Bc y .gtr 3 t15 (i 6)) fun g17=>some (g17,h16))) fun t18 h19=>
 ob (uG t7 (.bool true) t18) fun t20=>
 fQ (rG t20 false h19 (ob (BV y 36 2 t2) fun g21=>some (g21,h19))) fun t22 h23=>
 fQ (rG t20 false h23 (ob (sO y 34 t22 h23) fun g24=>some (g24,h23))) fun t25 h26=>
 fQ (rG t20 false h26 (ob (Mb y 34 t25) fun g27=>some (g27,h26))) fun t28 h29=>
 fQ (rG t20 false h29 (ob (Bc y .gtr 3 t28 (i 12)) fun g30=>some (g30,h29))) fun t31 h32=>
 ob (uG t20 (.bool true) t31) fun t33=>
 ob (GV.asB t33) fun q34=>jn (bC q34 (oN [t2] h32) (oR [(i 3)] h32)) fun vs35 h36=>U1 vs35 fun a37=>ld 36 a37 h36 fun t38=>
 K c 129 [t38] h36 fun t39 h40=>
 ob (UX .not t39) fun t41=>
 ob (GV.asB t41) fun q42=>jn (bC q42 (oN [a37] h40) (oR [(i 5)] h40)) fun vs43 h44=>U1 vs43 fun a45=>fd 36 1 a45 fun t46=>
 ld 32 t46 h44 fun t47=>
 ln 32 t47 fun t48=>
 jn (nB 0 (ql 12 [a45,t47,t48,(i 0)] h44)) fun vs49 h50=>U1 vs49 fun a51=>fd 36 2 a51 fun t52=>
 ld 34 t52 h50 fun t53=>
 ln 34 t53 fun t54=>
 jn (nB 2 (ql 13 [a51,t53,t54,(i 0)] h50)) fun vs55 h56=>U1 vs55 fun a57=>ld 36 a57 h56 fun t58=>
 K c 132 [t58] h56 fun t59 h60=>
 fd 36 2 a57 fun t61=>
 ld 34 t61 h60 fun t62=>
 ln 34 t62 fun t63=>
 jn (nB 4 (ql 14 [t59,t62,t63,(i 0)] h60)) fun vs64 h65=>U0 vs64 (oR [(i 0)] h65)
def L12 (c:CH) (ql:QH) (us:List GV) (H:GH):RS:=U4 us fun a66 a67 a68 a69=>jn (bn .lss 3 a69 a68 fun t70=>
 ob (GV.asB t70) fun q71=>jn (bC q71 (oX 0 [a66] H) (oN [a66,a67,a68,a69] H)) fun vs72 h73=>U4 vs72 fun a74 a75 a76 a77=>jn (nB 1 (ix 32 a75 a77 fun t78=>
 ld 84 t78 h73 fun t79=>
 fQ (rH y 84 h73) fun t80 h81=>
 fQ (oV y 84 t80 t79 h81) fun t82 h83=>
 ld 84 t80 h83 fun t84=>
 K c 130 [t84] h83 fun t85 h86=>
 ob (UX .not t85) fun t87=>
 ob (GV.asB t87) fun q88=>jn (bC q88 (oN [a74,a75,a76,a77] h86) (oR [(i 2)] h86)) fun vs89 h90=>U4 vs89 fun a91 a92 a93 a94=>oN [a91,a92,a93,a94] h90)) fun vs95 h96=>U4 vs95 fun a97 a98 a99 a100=>bn .add 3 a100 (i 1) fun t101=>
 oN [a97,a98,a99,t101] h96) (ql 12)
def L13 (c:CH) (ql:QH) (us:List GV) (H:GH):RS:=U4 us fun a102 a103 a104 a105=>jn (bn .lss 3 a105 a104 fun t106=>
 ob (GV.asB t106) fun q107=>jn (bC q107 (oX 2 [a102] H) (oN [a102,a103,a104,a105] H)) fun vs108 h109=>U4 vs108 fun a110 a111 a112 a113=>jn (nB 3 (ix 34 a111 a113 fun t114=>
 ld 191 t114 h109 fun t115=>
 fQ (rH y 191 h109) fun t116 h117=>
 fQ (oV y 191 t116 t115 h117) fun t118 h119=>
 ld 191 t116 h119 fun t120=>
 fd 36 1 a110 fun t121=>
 ld 32 t121 h119 fun t122=>
 ln 32 t122 fun t123=>
 K c 131 [t120,t123] h119 fun t124 h125=>
 ob (UX .not t124) fun t126=>
 ob (GV.asB t126) fun q127=>jn (bC q127 (oN [a110,a111,a112,a113] h125) (oR [(i 7)] h125)) fun vs128 h129=>U4 vs128 fun a130 a131 a132 a133=>oN [a130,a131,a132,a133] h129)) fun vs134 h135=>U4 vs134 fun a136 a137 a138 a139=>bn .add 3 a139 (i 1) fun t140=>
 oN [a136,a137,a138,t140] h135) (ql 13)
def L14 (c:CH) (ql:QH) (us:List GV) (H:GH):RS:=U4 us fun a141 a142 a143 a144=>jn (bn .lss 3 a144 a143 fun t145=>
 ob (GV.asB t145) fun q146=>jn (bC q146 (oX 4 [] H) (oN [a141,a142,a143,a144] H)) fun vs147 h148=>U4 vs147 fun a149 a150 a151 a152=>jn (nB 5 (ix 34 a150 a152 fun t153=>
 ld 191 t153 h148 fun t154=>
 fQ (rH y 191 h148) fun t155 h156=>
 fQ (oV y 191 t155 t154 h156) fun t157 h158=>
 ld 191 t155 h158 fun t159=>
 K c 133 [t159,a149] h158 fun t160 h161=>
 ob (UX .not t160) fun t162=>
 ob (GV.asB t162) fun q163=>jn (bC q163 (oN [a149,a150,a151,a152] h161) (oR [(i 6)] h161)) fun vs164 h165=>U4 vs164 fun a166 a167 a168 a169=>oN [a166,a167,a168,a169] h165)) fun vs170 h171=>U4 vs170 fun a172 a173 a174 a175=>bn .add 3 a175 (i 1) fun t176=>
 oN [a172,a173,a174,t176] h171) (ql 14)
def Xs (c:CH) (ql:QH) (us:List GV) (H:GH):RS:=U2 us fun x1 x2=>
 jn (nB 0 (ql 25 [x1,x2] H)) fun vs3 h4=>U1 vs3 fun a5=>oR [a5] h4
def L25 (c:CH) (ql:QH) (us:List GV) (H:GH):RS:=U2 us fun a6 a7=>jn (ln 9 a6 fun t8=>
 bn .lss 3 a7 t8 fun t9=>
 ob (GV.asB t9) fun q10=>jn (bC q10 (oX 0 [a7] H) (oN [a6,a7] H)) fun vs11 h12=>U2 vs11 fun a13 a14=>jn (nB 1 (ob (Xr y 9 a13 a14) fun t15=>
 jn (nB 2 (bn .eql 5 t15 (.int .u8 (.ofNat 32)) fun t16=>
 ob (GV.asB t16) fun q17=>jn (bC q17 (bn .eql 5 t15 (.int .u8 (.ofNat 9)) fun t18=>
 ob (GV.asB t18) fun q19=>jn (bC q19 (bn .eql 5 t15 (.int .u8 (.ofNat 10)) fun t20=>
 ob (GV.asB t20) fun q21=>jn (bC q21 (bn .eql 5 t15 (.int .u8 (.ofNat 13)) fun t22=>
 oN [a13,a14,t15,t22] h12) (oN [a13,a14,t15,t20] h12)) fun vs23 h24=>U4 vs23 fun a25 a26 a27 a28=>oN [a25,a26,a27,a28] h24) (oN [a13,a14,t15,t18] h12)) fun vs29 h30=>U4 vs29 fun a31 a32 a33 a34=>oN [a31,a32,a33,a34] h30) (oN [a13,a14,t15,t16] h12)) fun vs35 h36=>U4 vs35 fun a37 a38 a39 a40=>ob (GV.asB a40) fun q41=>jn (bC q41 (bn .eql 5 a39 (.int .u8 (.ofNat 35)) fun t43=>
 ob (GV.asB t43) fun q44=>jn (bC q44 (oR [a38] h36) (jn (nB 3 (ql 26 [a37,a38] h36)) fun vs45 h46=>U2 vs45 fun a47 a48=>oN [a47,a48] h46)) fun vs49 h50=>U2 vs49 fun a51 a52=>oN [a51,a52] h50) (bn .add 3 a38 (i 1) fun t42=>
 oN [a37,t42] h36)) fun vs53 h54=>U2 vs53 fun a55 a56=>oN [a55,a56] h54)) fun vs57 h58=>U2 vs57 fun a59 a60=>oN [a59,a60] h58)) fun vs61 h62=>U2 vs61 fun a63 a64=>oN [a63,a64] h62) (ql 25)
def L26 (c:CH) (ql:QH) (us:List GV) (H:GH):RS:=U2 us fun a65 a66=>jn (ln 9 a65 fun t67=>
 bn .lss 3 a66 t67 fun t68=>
 fQ (rG t68 true H (some (a65,H))) fun t69 h70=>
 fQ (rG t68 true h70 (some (a66,h70))) fun t71 h72=>
 fQ (rG t68 true h72 (ob (Xr y 9 t69 t71) fun g73=>some (g73,h72))) fun t74 h75=>
 fQ (rG t68 true h75 (ob (Bc y .neq 5 t74 (.int .u8 (.ofNat 10))) fun g76=>some (g76,h75))) fun t77 h78=>
 ob (uG t68 t77 (.bool false)) fun t79=>
 ob (GV.asB t79) fun q80=>jn (bC q80 (oX 3 [a65,a66] h78) (oN [a65,a66] h78)) fun vs81 h82=>U2 vs81 fun a83 a84=>jn (nB 4 (bn .add 3 a84 (i 1) fun t85=>
 oN [a83,t85] h82)) fun vs86 h87=>U2 vs86 fun a88 a89=>oN [a88,a89] h87) (ql 26)
def Xt (c:CH) (ql:QH) (us:List GV) (H:GH):RS:=U1 us fun x1=>
 fQ (L_ x1 H) fun t2 h3=>
 fd 36 0 t2 fun t4=>
 ld 9 t4 h3 fun t5=>
 K c 168 [t5] h3 fun t6 h7=>
 ob (UX .not t6) fun t8=>
 ob (GV.asB t8) fun q9=>jn (bC q9 (oN [t2] h7) (oR [(.bool false)] h7)) fun vs10 h11=>U1 vs10 fun a12=>fQ (yA h11) fun t13 h14=>
 fd 36 1 a12 fun t15=>
 ld 32 t15 h14 fun t16=>
 ln 32 t16 fun t17=>
 jn (nB 0 (ql 30 [a12,t13,t16,t17,(i 0)] h14)) fun vs18 h19=>U1 vs18 fun a20=>fQ (yA h19) fun t21 h22=>
 fd 36 2 a20 fun t23=>
 ld 34 t23 h22 fun t24=>
 ln 34 t24 fun t25=>
 jn (nB 2 (ql 31 [t21,t24,t25,(i 0)] h22)) fun vs26 h27=>U0 vs26 (oR [(.bool true)] h27)
def L30 (c:CH) (ql:QH) (us:List GV) (H:GH):RS:=U5 us fun a28 a29 a30 a31 a32=>jn (bn .lss 3 a32 a31 fun t33=>
 ob (GV.asB t33) fun q34=>jn (bC q34 (oX 0 [a28] H) (oN [a28,a29,a30,a31,a32] H)) fun vs35 h36=>U5 vs35 fun a37 a38 a39 a40 a41=>jn (nB 1 (ix 32 a39 a41 fun t42=>
 ld 84 t42 h36 fun t43=>
 fQ (rH y 84 h36) fun t44 h45=>
 fQ (oV y 84 t44 t43 h45) fun t46 h47=>
 fd 84 0 t44 fun t48=>
 ld 9 t48 h47 fun t49=>
 K c 168 [t49] h47 fun t50 h51=>
 ob (UX .not t50) fun t52=>
 fQ (rG t52 false h51 (some (a38,h51))) fun t53 h54=>
 fQ (rG t52 false h54 (ob (BV y 84 0 t44) fun g55=>some (g55,h54))) fun t56 h57=>
 fQ (rG t52 false h57 (ob (sO y 9 t56 h57) fun g58=>some (g58,h57))) fun t59 h60=>
 fQ (rG t52 false h60 (ob (NB y 233 false t53 t59 h60) fun g61=>some (g61,h60))) fun t62 h63=>
 ob (uG t52 (.bool true) t62) fun t64=>
 ob (GV.asB t64) fun q65=>jn (bC q65 (oN [a37,a38,t44,a39,a40,a41] h63) (oR [(.bool false)] h63)) fun vs66 h67=>U6 vs66 fun a68 a69 a70 a71 a72 a73=>fd 84 0 a70 fun t74=>
 ld 9 t74 h67 fun t75=>
 fQ (IC y 233 a69 t75 (.bool true) h67) fun t76 h77=>
 oN [a68,a69,a71,a72,a73] h77)) fun vs78 h79=>U5 vs78 fun a80 a81 a82 a83 a84=>bn .add 3 a84 (i 1) fun t85=>
 oN [a80,a81,a82,a83,t85] h79) (ql 30)
def L31 (c:CH) (ql:QH) (us:List GV) (H:GH):RS:=U4 us fun a86 a87 a88 a89=>jn (bn .lss 3 a89 a88 fun t90=>
 ob (GV.asB t90) fun q91=>jn (bC q91 (oX 2 [] H) (oN [a86,a87,a88,a89] H)) fun vs92 h93=>U4 vs92 fun a94 a95 a96 a97=>jn (nB 3 (ix 34 a95 a97 fun t98=>
 ld 191 t98 h93 fun t99=>
 fQ (rH y 191 h93) fun t100 h101=>
 fQ (oV y 191 t100 t99 h101) fun t102 h103=>
 fd 191 0 t100 fun t104=>
 ld 9 t104 h103 fun t105=>
 K c 168 [t105] h103 fun t106 h107=>
 ob (UX .not t106) fun t108=>
 fQ (rG t108 false h107 (some (a94,h107))) fun t109 h110=>
 fQ (rG t108 false h110 (ob (BV y 191 0 t100) fun g111=>some (g111,h110))) fun t112 h113=>
 fQ (rG t108 false h113 (ob (sO y 9 t112 h113) fun g114=>some (g114,h113))) fun t115 h116=>
 fQ (rG t108 false h116 (ob (NB y 233 false t109 t115 h116) fun g117=>some (g117,h116))) fun t118 h119=>
 ob (uG t108 (.bool true) t118) fun t120=>
 ob (GV.asB t120) fun q121=>jn (bC q121 (oN [a94,t100,a95,a96,a97] h119) (oR [(.bool false)] h119)) fun vs122 h123=>U5 vs122 fun a124 a125 a126 a127 a128=>fd 191 0 a125 fun t129=>
 ld 9 t129 h123 fun t130=>
 fQ (IC y 233 a124 t130 (.bool true) h123) fun t131 h132=>
 oN [a124,a126,a127,a128] h132)) fun vs133 h134=>U4 vs133 fun a135 a136 a137 a138=>bn .add 3 a138 (i 1) fun t139=>
 oN [a135,a136,a137,t139] h134) (ql 31)
def Xu (c:CH) (ql:QH) (us:List GV) (H:GH):RS:=U2 us fun x1 x2=>
 fQ (L_ x1 H) fun t3 h4=>
 fd 29 1 t3 fun t5=>
 ld 27 t5 h4 fun t6=>
 ln 27 t6 fun t7=>
 fQ (NC y 22 t7 t7 h4) fun t8 h9=>
 ln 22 t8 fun t10=>
 jn (nB 0 (ql 35 [x2,t3,t8,t10,(i 0)] h9)) fun vs11 h12=>U3 vs11 fun a13 a14 a15=>ix 22 a15 a13 fun t16=>
 fQ (oV y 3 t16 (i 0) h12) fun t17 h18=>
 fQ (wV y 22 1 [(0,a13)] h18) fun t19 h20=>
 jn (nB 2 (ql 36 [a14,a15,t19] h20)) fun vs21 h22=>U1 vs21 fun a23=>oR [a23] h22
def L35 (c:CH) (ql:QH) (us:List GV) (H:GH):RS:=U5 us fun a24 a25 a26 a27 a28=>jn (bn .lss 3 a28 a27 fun t29=>
 ob (GV.asB t29) fun q30=>jn (bC q30 (oX 0 [a24,a25,a26] H) (oN [a24,a25,a26,a27,a28] H)) fun vs31 h32=>U5 vs31 fun a33 a34 a35 a36 a37=>jn (nB 1 (ix 22 a35 a37 fun t38=>
 fQ (oV y 3 t38 (.int .i64 (.negSucc 0)) h32) fun t39 h40=>
 oN [a33,a34,a35,a36,a37] h40)) fun vs41 h42=>U5 vs41 fun a43 a44 a45 a46 a47=>bn .add 3 a47 (i 1) fun t48=>
 oN [a43,a44,a45,a46,t48] h42) (ql 35)
def L36 (c:CH) (ql:QH) (us:List GV) (H:GH):RS:=U3 us fun a49 a50 a51=>jn (ln 22 a51 fun t52=>
 bn .gtr 3 t52 (i 0) fun t53=>
 ob (GV.asB t53) fun q54=>jn (bC q54 (oX 2 [a50] H) (oN [a49,a50,a51] H)) fun vs55 h56=>U3 vs55 fun a57 a58 a59=>jn (nB 3 (ix 22 a59 (i 0) fun t60=>
 ld 3 t60 h56 fun t61=>
 ob (zD y 22 a59 (some (i 1)) none h56) fun t62=>
 fd 29 1 a57 fun t63=>
 ld 27 t63 h56 fun t64=>
 ix 27 t64 t61 fun t65=>
 ld 89 t65 h56 fun t66=>
 ln 89 t66 fun t67=>
 jn (nB 4 (ql 37 [a57,a58,t62,t61,t66,t67,(i 0)] h56)) fun vs68 h69=>U3 vs68 fun a70 a71 a72=>oN [a70,a71,a72] h69)) fun vs73 h74=>U3 vs73 fun a75 a76 a77=>oN [a75,a76,a77] h74) (ql 36)
def L37 (c:CH) (ql:QH) (us:List GV) (H:GH):RS:=U7 us fun a78 a79 a80 a81 a82 a83 a84=>jn (bn .lss 3 a84 a83 fun t85=>
 ob (GV.asB t85) fun q86=>jn (bC q86 (oX 4 [a78,a79,a80] H) (oN [a78,a79,a80,a81,a82,a83,a84] H)) fun vs87 h88=>U7 vs87 fun a89 a90 a91 a92 a93 a94 a95=>jn (nB 5 (ix 89 a93 a95 fun t96=>
 ld 113 t96 h88 fun t97=>
 fQ (rH y 113 h88) fun t98 h99=>
 fQ (oV y 113 t98 t97 h99) fun t100 h101=>
 fd 113 0 t98 fun t102=>
 ld 3 t102 h101 fun t103=>
 ix 22 a90 t103 fun t104=>
 ld 3 t104 h101 fun t105=>
 bn .lss 3 t105 (i 0) fun t106=>
 ob (GV.asB t106) fun q107=>jn (bC q107 (oN [a89,a90,a91,a92,a93,a94,a95] h101) (fd 113 0 t98 fun t108=>
 ld 3 t108 h101 fun t109=>
 ix 22 a90 a92 fun t110=>
 ld 3 t110 h101 fun t111=>
 bn .add 3 t111 (i 1) fun t112=>
 ix 22 a90 t109 fun t113=>
 fQ (oV y 3 t113 t112 h101) fun t114 h115=>
 fd 113 0 t98 fun t116=>
 ld 3 t116 h115 fun t117=>
 fQ (wV y 22 1 [(0,t117)] h115) fun t118 h119=>
 fQ (OV y 22 22 a91 t118 h119) fun t120 h121=>
 oN [a89,a90,t120,a92,a93,a94,a95] h121)) fun vs122 h123=>U7 vs122 fun a124 a125 a126 a127 a128 a129 a130=>oN [a124,a125,a126,a127,a128,a129,a130] h123)) fun vs131 h132=>U7 vs131 fun a133 a134 a135 a136 a137 a138 a139=>bn .add 3 a139 (i 1) fun t140=>
 oN [a133,a134,a135,a136,a137,a138,t140] h132) (ql 37)
def Xv (c:CH) (ql:QH) (us:List GV) (H:GH):RS:=U3 us fun x1 x2 x3=>
 ld 3 x2 H fun t4=>
 jn (nB 0 (ql 40 [x1,x3,t4] H)) fun vs5 h6=>U1 vs5 fun a7=>oR [a7] h6
def L40 (c:CH) (ql:QH) (us:List GV) (H:GH):RS:=U3 us fun a8 a9 a10=>jn (ld 9 a9 H fun t11=>
 ln 9 t11 fun t12=>
 bn .lss 3 a10 t12 fun t13=>
 fQ (rG t13 true H (some (a8,H))) fun t14 h15=>
 fQ (rG t13 true h15 (ob (sO y 9 a9 h15) fun g16=>some (g16,h15))) fun t17 h18=>
 fQ (rG t13 true h18 (some (a10,h18))) fun t19 h20=>
 fQ (rG t13 true h20 (ob (Xr y 9 t17 t19) fun g21=>some (g21,h20))) fun t22 h23=>
 fQ (rG t13 true h23 (ob (GV.asF t14) fun p24=>fQ (c p24.1 (p24.2.1++[t22]++p24.2.2) h23) DW)) fun t25 h26=>
 ob (uG t13 t25 (.bool false)) fun t27=>
 ob (GV.asB t27) fun q28=>jn (bC q28 (oX 0 [a10] h26) (oN [a8,a9,a10] h26)) fun vs29 h30=>U3 vs29 fun a31 a32 a33=>jn (nB 1 (bn .add 3 a33 (i 1) fun t34=>
 oN [a31,a32,t34] h30)) fun vs35 h36=>U3 vs35 fun a37 a38 a39=>oN [a37,a38,a39] h36) (ql 40)
def Xw (c:CH) (ql:QH) (us:List GV) (H:GH):RS:=U1 us fun x1=>
 bn .geq 5 x1 (.int .u8 (.ofNat 97)) fun t2=>
 fQ (rG t2 true H (some (x1,H))) fun t3 h4=>
 fQ (rG t2 true h4 (ob (Bc y .leq 5 t3 (.int .u8 (.ofNat 122))) fun g5=>some (g5,h4))) fun t6 h7=>
 ob (uG t2 t6 (.bool false)) fun t8=>
 fQ (rG t8 false h7 (some (x1,h7))) fun t9 h10=>
 fQ (rG t8 false h10 (ob (Bc y .geq 5 t9 (.int .u8 (.ofNat 65))) fun g11=>some (g11,h10))) fun t12 h13=>
 fQ (rG t8 false h13 (some (t12,h13))) fun t14 h15=>
 fQ (rG t14 true h15 (some (x1,h15))) fun t16 h17=>
 fQ (rG t14 true h17 (ob (Bc y .leq 5 t16 (.int .u8 (.ofNat 90))) fun g18=>some (g18,h17))) fun t19 h20=>
 fQ (rG t8 false h20 (ob (uG t14 t19 (.bool false)) fun g21=>some (g21,h20))) fun t22 h23=>
 ob (uG t8 (.bool true) t22) fun t24=>
 oR [t24] h23
def Xx (c:CH) (ql:QH) (us:List GV) (H:GH):RS:=U1 us fun x1=>
 K c 160 [x1] H fun t2 h3=>
 fQ (rG t2 false h3 (some (x1,h3))) fun t4 h5=>
 fQ (rG t2 false h5 (fQ (c 162 [t4] h5) DW)) fun t6 h7=>
 ob (uG t2 (.bool true) t6) fun t8=>
 fQ (rG t8 false h7 (some (x1,h7))) fun t9 h10=>
 fQ (rG t8 false h10 (ob (Bc y .eql 5 t9 (.int .u8 (.ofNat 95))) fun g11=>some (g11,h10))) fun t12 h13=>
 ob (uG t8 (.bool true) t12) fun t14=>
 oR [t14] h13
def Xy (c:CH) (ql:QH) (us:List GV) (H:GH):RS:=U1 us fun x1=>
 fQ (wV y 137 9 [(0,(.str 11822 2)),(1,(.str 15917 2)),(2,(.str 15674 2)),(3,(.str 9766 2)),(4,(.str 31868 2)),(5,(.str 15677 2)),(6,(.str 15649 2)),(7,(.str 15676 2)),(8,(.str 15678 2))] H) fun t2 h3=>
 ln 137 t2 fun t4=>
 jn (nB 0 (ql 42 [x1,t2,t4,(i 0)] h3)) fun vs5 h6=>U1 vs5 fun a7=>ob (Xr y 9 a7 (i 0)) fun t8=>
 K c 193 [(.str 172099982263598878148345807877454395 15),t8] h6 fun t9 h10=>
 bn .geq 3 t9 (i 0) fun t11=>
 ob (GV.asB t11) fun q12=>jn (bC q12 (oN [] h10) (oR [(i 1)] h10)) fun vs13 h14=>U0 vs13 (oR [(i 0)] h14)
def L42 (c:CH) (ql:QH) (us:List GV) (H:GH):RS:=U4 us fun a15 a16 a17 a18=>jn (bn .lss 3 a18 a17 fun t19=>
 ob (GV.asB t19) fun q20=>jn (bC q20 (oX 0 [a15] H) (oN [a15,a16,a17,a18] H)) fun vs21 h22=>U4 vs21 fun a23 a24 a25 a26=>jn (nB 1 (ix 137 a24 a26 fun t27=>
 ld 9 t27 h22 fun t28=>
 K c 192 [a23,t28] h22 fun t29 h30=>
 ob (GV.asB t29) fun q31=>jn (bC q31 (oN [a23,a24,a25,a26] h30) (oR [(i 2)] h30)) fun vs32 h33=>U4 vs32 fun a34 a35 a36 a37=>oN [a34,a35,a36,a37] h33)) fun vs38 h39=>U4 vs38 fun a40 a41 a42 a43=>bn .add 3 a43 (i 1) fun t44=>
 oN [a40,a41,a42,t44] h39) (ql 42)
def Xz (c:CH) (ql:QH) (us:List GV) (H:GH):RS:=U1 us fun x1=>
 ob (GV.nilck x1) fun t2=>
 fd 139 1 t2 fun t3=>
 ld 133 t3 H fun t4=>
 ln 133 t4 fun t5=>
 bn .eql 3 t5 (i 0) fun t6=>
 ob (GV.asB t6) fun q7=>jn (bC q7 (oN [x1] H) (oR [(.str 0 0)] H)) fun vs8 h9=>U1 vs8 fun a10=>ob (GV.nilck a10) fun t11=>
 fd 139 0 t11 fun t12=>
 ld 9 t12 h9 fun t13=>
 ob (GV.nilck a10) fun t14=>
 fd 139 1 t14 fun t15=>
 ld 133 t15 h9 fun t16=>
 ix 133 t16 (i 0) fun t17=>
 fd 176 1 t17 fun t18=>
 ld 3 t18 h9 fun t19=>
 ob (GV.nilck a10) fun t20=>
 fd 139 1 t20 fun t21=>
 ld 133 t21 h9 fun t22=>
 ix 133 t22 (i 0) fun t23=>
 fd 176 2 t23 fun t24=>
 ld 3 t24 h9 fun t25=>
 ob (zD y 9 t13 (some t19) (some t25) h9) fun t26=>
 oR [t26] h9
def XA (c:CH) (ql:QH) (us:List GV) (H:GH):RS:=U2 us fun x1 x2=>
 K c 210 [x1,x2] H fun t3 h4=>
 oR [t3] h4
def XB (c:CH) (ql:QH) (us:List GV) (H:GH):RS:=U2 us fun x1 x2=>
 bn .lss 3 x2 (i 0) fun t3=>
 fQ (rG t3 false H (some (x2,H))) fun t4 h5=>
 fQ (rG t3 false h5 (some (x1,h5))) fun t6 h7=>
 fQ (rG t3 false h7 (ob (Mb y 188 t6) fun g8=>some (g8,h7))) fun t9 h10=>
 fQ (rG t3 false h10 (ob (Bc y .geq 3 t4 t9) fun g11=>some (g11,h10))) fun t12 h13=>
 ob (uG t3 (.bool true) t12) fun t14=>
 ob (GV.asB t14) fun q15=>jn (bC q15 (oN [x1,x2] h13) (oR [(.int .i64 (.negSucc 0))] h13)) fun vs16 h17=>U2 vs16 fun a18 a19=>jn (nB 0 (ql 51 [a18,a19,(i 1)] h17)) fun vs20 h21=>U0 vs20 (oR [(.int .i64 (.negSucc 0))] h21)
def L51 (c:CH) (ql:QH) (us:List GV) (H:GH):RS:=U3 us fun a22 a23 a24=>jn (ln 188 a22 fun t25=>
 bn .lss 3 a23 t25 fun t26=>
 ob (GV.asB t26) fun q27=>jn (bC q27 (oX 0 [] H) (oN [a22,a23,a24] H)) fun vs28 h29=>U3 vs28 fun a30 a31 a32=>jn (nB 1 (ix 188 a30 a31 fun t33=>
 fd 251 0 t33 fun t34=>
 ld 3 t34 h29 fun t35=>
 K c 217 [t35] h29 fun t36 h37=>
 bn .lss 3 t36 (i 0) fun t38=>
 ob (GV.asB t38) fun q39=>jn (bC q39 (oN [a30,a31,a32,t36] h37) (oR [(.int .i64 (.negSucc 0))] h37)) fun vs40 h41=>U4 vs40 fun a42 a43 a44 a45=>bn .sub 3 a45 (i 1) fun t46=>
 bn .add 3 a44 t46 fun t47=>
 bn .eql 3 t47 (i 0) fun t48=>
 ob (GV.asB t48) fun q49=>jn (bC q49 (oN [a42,a43,t47] h41) (bn .add 3 a43 (i 1) fun t50=>
 oR [t50] h41)) fun vs51 h52=>U3 vs51 fun a53 a54 a55=>oN [a53,a54,a55] h52)) fun vs56 h57=>U3 vs56 fun a58 a59 a60=>bn .add 3 a59 (i 1) fun t61=>
 oN [a58,t61,a60] h57) (ql 51)
def XC (c:CH) (ql:QH) (us:List GV) (H:GH):RS:=U2 us fun x1 x2=>
 ln 9 x1 fun t3=>
 ln 9 x2 fun t4=>
 bn .geq 3 t3 t4 fun t5=>
 fQ (rG t5 true H (some (x1,H))) fun t6 h7=>
 fQ (rG t5 true h7 (some (x2,h7))) fun t8 h9=>
 fQ (rG t5 true h9 (ob (Mb y 9 t8) fun g10=>some (g10,h9))) fun t11 h12=>
 fQ (rG t5 true h12 (ob (zD y 9 t6 none (some t11) h12) fun g13=>some (g13,h12))) fun t14 h15=>
 fQ (rG t5 true h15 (some (x2,h15))) fun t16 h17=>
 fQ (rG t5 true h17 (ob (Bc y .eql 9 t14 t16) fun g18=>some (g18,h17))) fun t19 h20=>
 ob (uG t5 t19 (.bool false)) fun t21=>
 oR [t21] h20
def XD (c:CH) (ql:QH) (us:List GV) (H:GH):RS:=U1 us fun x1=>
 jn (nB 0 (bn .lss 3 x1 (i 1) fun t2=>
 fQ (rG t2 false H (some (x1,H))) fun t3 h4=>
 fQ (rG t2 false h4 (ob (Bc y .gtr 3 t3 (i 43)) fun g5=>some (g5,h4))) fun t6 h7=>
 ob (uG t2 (.bool true) t6) fun t8=>
 ob (GV.asB t8) fun q9=>jn (bC q9 (bn .leq 3 x1 (i 17) fun t10=>
 ob (GV.asB t10) fun q11=>jn (bC q11 (bn .leq 3 x1 (i 29) fun t12=>
 ob (GV.asB t12) fun q13=>jn (bC q13 (bn .leq 3 x1 (i 42) fun t14=>
 ob (GV.asB t14) fun q15=>jn (bC q15 (oN [] h7) (oR [(i 2)] h7)) fun vs16 h17=>U0 vs16 (oN [] h17)) (oR [(i 1)] h7)) fun vs18 h19=>U0 vs18 (oN [] h19)) (oR [(i 0)] h7)) fun vs20 h21=>U0 vs20 (oN [] h21)) (oR [(.int .i64 (.negSucc 0))] h7)) fun vs22 h23=>U0 vs22 (oN [] h23))) fun vs24 h25=>U0 vs24 (oR [(i 3)] h25)
def XE (c:CH) (ql:QH) (us:List GV) (H:GH):RS:=U2 us fun x1 x2=>
 K c 199 [x1,(i 0)] H fun t3 h4=>
 ln 188 x1 fun t5=>
 bn .neq 3 t3 t5 fun t6=>
 ob (GV.asB t6) fun q7=>jn (bC q7 (oN [x1,x2] h4) (oR [(i 0),(.bool false)] h4)) fun vs8 h9=>U2 vs8 fun a10 a11=>ln 188 a10 fun t12=>
 bn .sub 3 t12 (i 1) fun t13=>
 jn (nB 0 (ql 53 [a10,a11,.snil,t13] h9)) fun vs14 h15=>U1 vs14 fun a16=>ix 22 a16 (i 0) fun t17=>
 ld 3 t17 h15 fun t18=>
 oR [t18,(.bool true)] h15
def L53 (c:CH) (ql:QH) (us:List GV) (H:GH):RS:=U4 us fun a19 a20 a21 a22=>jn (bn .geq 3 a22 (i 0) fun t23=>
 ob (GV.asB t23) fun q24=>jn (bC q24 (oX 0 [a21] H) (oN [a19,a20,a21,a22] H)) fun vs25 h26=>U4 vs25 fun a27 a28 a29 a30=>jn (nB 1 (ln 22 a29 fun t31=>
 ix 188 a27 a30 fun t32=>
 fd 251 0 t32 fun t33=>
 ld 3 t33 h26 fun t34=>
 K c 217 [t34] h26 fun t35 h36=>
 bn .sub 3 t31 t35 fun t37=>
 ob (zD y 22 a29 (some t37) none h36) fun t38=>
 ln 22 t38 fun t39=>
 jn (nB 2 (ql 54 [a27,a28,a29,a30,t37,(i 0),t38,t39,(i 0)] h36)) fun vs40 h41=>U6 vs40 fun a42 a43 a44 a45 a46 a47=>ob (zD y 22 a44 none (some a46) h41) fun t48=>
 ix 188 a42 a45 fun t49=>
 fd 251 0 t49 fun t50=>
 ld 3 t50 h41 fun t51=>
 ob (GV.asF a43) fun p54=>fQ (c p54.1 (p54.2.1++[t51,a47]++p54.2.2) h41) fun t52 h53=>
 fQ (wV y 22 1 [(0,t52)] h53) fun t55 h56=>
 fQ (OV y 22 22 t48 t55 h56) fun t57 h58=>
 oN [a42,a43,t57,a45] h58)) fun vs59 h60=>U4 vs59 fun a61 a62 a63 a64=>bn .sub 3 a64 (i 1) fun t65=>
 oN [a61,a62,a63,t65] h60) (ql 53)
def L54 (c:CH) (ql:QH) (us:List GV) (H:GH):RS:=U9 us fun a66 a67 a68 a69 a70 a71 a72 a73 a74=>jn (bn .lss 3 a74 a73 fun t75=>
 ob (GV.asB t75) fun q76=>jn (bC q76 (oX 2 [a66,a67,a68,a69,a70,a71] H) (oN [a66,a67,a68,a69,a70,a71,a72,a73,a74] H)) fun vs77 h78=>U9 vs77 fun a79 a80 a81 a82 a83 a84 a85 a86 a87=>jn (nB 3 (ix 22 a85 a87 fun t88=>
 ld 3 t88 h78 fun t89=>
 ob (Ss a84 t89) fun t90=>
 oN [a79,a80,a81,a82,a83,t90,a85,a86,a87] h78)) fun vs91 h92=>U9 vs91 fun a93 a94 a95 a96 a97 a98 a99 a100 a101=>bn .add 3 a101 (i 1) fun t102=>
 oN [a93,a94,a95,a96,a97,a98,a99,a100,t102] h92) (ql 54)
def XF (c:CH) (ql:QH) (us:List GV) (H:GH):RS:=U3 us fun x1 x2 x3=>
 bn .eql 9 x1 (.str 0 0) fun t4=>
 ob (GV.asB t4) fun q5=>jn (bC q5 (oN [x1,x2,x3] H) (oR [(i 0)] H)) fun vs6 h7=>U3 vs6 fun a8 a9 a10=>ln 137 a10 fun t11=>
 jn (nB 0 (ql 56 [a8,a9,a10,t11,(i 0)] h7)) fun vs12 h13=>U0 vs12 (oR [(i 0)] h13)
def L56 (c:CH) (ql:QH) (us:List GV) (H:GH):RS:=U5 us fun a14 a15 a16 a17 a18=>jn (bn .lss 3 a18 a17 fun t19=>
 ob (GV.asB t19) fun q20=>jn (bC q20 (oX 0 [] H) (oN [a14,a15,a16,a17,a18] H)) fun vs21 h22=>U5 vs21 fun a23 a24 a25 a26 a27=>jn (nB 1 (ix 137 a25 a27 fun t28=>
 ld 9 t28 h22 fun t29=>
 bn .eql 9 t29 a23 fun t30=>
 ob (GV.asB t30) fun q31=>jn (bC q31 (oN [a23,a24,a25,a26,a27] h22) (bn .add 3 a24 a27 fun t32=>
 oR [t32] h22)) fun vs33 h34=>U5 vs33 fun a35 a36 a37 a38 a39=>oN [a35,a36,a37,a38,a39] h34)) fun vs40 h41=>U5 vs40 fun a42 a43 a44 a45 a46=>bn .add 3 a46 (i 1) fun t47=>
 oN [a42,a43,a44,a45,t47] h41) (ql 56)
def XG (c:CH) (ql:QH) (us:List GV) (H:GH):RS:=U2 us fun x1 x2=>
 jn (nB 0 (bn .eql 3 x1 (i 20) fun t3=>
 ob (GV.asB t3) fun q4=>jn (bC q4 (bn .eql 3 x1 (i 21) fun t11=>
 ob (GV.asB t11) fun q12=>jn (bC q12 (bn .eql 3 x1 (i 22) fun t18=>
 ob (GV.asB t18) fun q19=>jn (bC q19 (bn .eql 3 x1 (i 23) fun t22=>
 ob (GV.asB t22) fun q23=>jn (bC q23 (bn .eql 3 x1 (i 24) fun t26=>
 ob (GV.asB t26) fun q27=>jn (bC q27 (bn .eql 3 x1 (i 25) fun t32=>
 ob (GV.asB t32) fun q33=>jn (bC q33 (bn .eql 3 x1 (i 26) fun t38=>
 ob (GV.asB t38) fun q39=>jn (bC q39 (bn .eql 3 x1 (i 27) fun t46=>
 ob (GV.asB t46) fun q47=>jn (bC q47 (bn .eql 3 x1 (i 28) fun t50=>
 ob (GV.asB t50) fun q51=>jn (bC q51 (oN [x2] H) (K c 272 [x2] H fun t52 h53=>
 ex 0 t52 fun t54=>
 ex 1 t52 fun t55=>
 oR [t55] h53)) fun vs56 h57=>U1 vs56 fun a58=>oN [a58] h57) (K c 273 [x2] H fun t48 h49=>
 oR [t48] h49)) fun vs59 h60=>U1 vs59 fun a61=>oN [a61] h60) (ln 22 x2 fun t40=>
 jn (nB 3 (ql 58 [(i 0),x2,t40,(i 0)] H)) fun vs41 h42=>U1 vs41 fun a43=>K c 258 [a43] h42 fun t44 h45=>
 oR [t44] h45)) fun vs62 h63=>U1 vs62 fun a64=>oN [a64] h63) (K c 272 [x2] H fun t34 h35=>
 ex 0 t34 fun t36=>
 ex 1 t34 fun t37=>
 oR [t36] h35)) fun vs65 h66=>U1 vs65 fun a67=>oN [a67] h66) (ln 22 x2 fun t28=>
 jn (nB 1 (ql 57 [(i 1073741824),x2,t28,(i 0)] H)) fun vs29 h30=>U1 vs29 fun a31=>oR [a31] h30)) fun vs68 h69=>U1 vs68 fun a70=>oN [a70] h69) (K c 270 [x2,(.fn 271 [] [])] H fun t24 h25=>
 oR [t24] h25)) fun vs71 h72=>U1 vs71 fun a73=>oN [a73] h72) (K c 269 [x2] H fun t20 h21=>
 oR [t20] h21)) fun vs74 h75=>U1 vs74 fun a76=>oN [a76] h75) (K c 269 [x2] H fun t13 h14=>
 bn .gtr 3 t13 (i 0) fun t15=>
 K c 256 [t15] h14 fun t16 h17=>
 oR [t16] h17)) fun vs77 h78=>U1 vs77 fun a79=>oN [a79] h78) (K c 269 [x2] H fun t5 h6=>
 ln 22 x2 fun t7=>
 bn .eql 3 t5 t7 fun t8=>
 K c 256 [t8] h6 fun t9 h10=>
 oR [t9] h10)) fun vs80 h81=>U1 vs80 fun a82=>oN [a82] h81)) fun vs83 h84=>U1 vs83 fun a85=>ln 22 a85 fun t86=>
 bn .eql 3 t86 (i 0) fun t87=>
 ob (GV.asB t87) fun q88=>jn (bC q88 (oN [a85] h84) (oR [(i 0)] h84)) fun vs89 h90=>U1 vs89 fun a91=>ix 22 a91 (i 0) fun t92=>
 ld 3 t92 h90 fun t93=>
 oR [t93] h90
def L57 (c:CH) (ql:QH) (us:List GV) (H:GH):RS:=U4 us fun a94 a95 a96 a97=>jn (bn .lss 3 a97 a96 fun t98=>
 ob (GV.asB t98) fun q99=>jn (bC q99 (oX 1 [a94] H) (oN [a94,a95,a96,a97] H)) fun vs100 h101=>U4 vs100 fun a102 a103 a104 a105=>jn (nB 2 (ix 22 a103 a105 fun t106=>
 ld 3 t106 h101 fun t107=>
 ob (Su a102 t107) fun t108=>
 oN [t108,a103,a104,a105] h101)) fun vs109 h110=>U4 vs109 fun a111 a112 a113 a114=>bn .add 3 a114 (i 1) fun t115=>
 oN [a111,a112,a113,t115] h110) (ql 57)
def L58 (c:CH) (ql:QH) (us:List GV) (H:GH):RS:=U4 us fun a116 a117 a118 a119=>jn (bn .lss 3 a119 a118 fun t120=>
 ob (GV.asB t120) fun q121=>jn (bC q121 (oX 3 [a116] H) (oN [a116,a117,a118,a119] H)) fun vs122 h123=>U4 vs122 fun a124 a125 a126 a127=>jn (nB 4 (ix 22 a125 a127 fun t128=>
 ld 3 t128 h123 fun t129=>
 bn .add 3 a124 t129 fun t130=>
 oN [t130,a125,a126,a127] h123)) fun vs131 h132=>U4 vs131 fun a133 a134 a135 a136=>bn .add 3 a136 (i 1) fun t137=>
 oN [a133,a134,a135,t137] h132) (ql 58)
def d0:(Code×Cx)×eH:=gD (bU Tryz.f25 [1,1,1,0,1,0,0],fS Tryz.f25 [(0,128)]) 0
def d1:(Code×Cx)×eH:=YG (bU Tryz.f46 [1,1,0,1,0,0],fS Tryz.f46 [(0,12)]) 1 1 2
def d2:(Code×Cx)×eH:=gD (bU Tryz.f46 [1,1,0,1,0,0,1,1,0,0,1,1,1,0,0],fS Tryz.f46 [(2,3612),(1,3612),(0,12)]) 2
def d3:(Code×Cx)×eH:=((bU Tryz.f49 [1,1,0,1,0,0],fS Tryz.f49 [(0,38)]),L3)
def d4:(Code×Cx)×eH:=((bU Tryz.f49 [1,1,1,0,1,0,0],fS Tryz.f49 [(2,32)]),L4)
def d5:(Code×Cx)×eH:=((bU Tryz.f49 [1,1,1,0,1,0,0,1,1,0,0,1,1,1,0,0],fS Tryz.f49 [(4,100663334),(3,100663334),(2,32)]),L5)
def d6:(Code×Cx)×eH:=gD (bU Tryz.f67 [1,0,1,0,0],fS Tryz.f67 [(0,0)]) 6
def d7:(Code×Cx)×eH:=gD (bU Tryz.f72 [1,1,1,0,1,0,0],fS Tryz.f72 [(0,0)]) 7
def d8:(Code×Cx)×eH:=gD (bU Tryz.f73 [1,1,0,1,0,0],fS Tryz.f73 [(0,0)]) 8
def d9:(Code×Cx)×eH:=YG (bU Tryz.f74 [1,1,0,1,0,0],fS Tryz.f74 [(0,32)]) 1 9 10
def d10:(Code×Cx)×eH:=gD (bU Tryz.f74 [1,1,0,1,0,0,1,1,0,0,1,1,1,0,0],fS Tryz.f74 [(2,49196),(1,49196),(0,32)]) 10
def d11:(Code×Cx)×eH:=((bU Tryz.f82 [1,1,1,0,1,0,0],fS Tryz.f82 [(0,32)]),L11)
def d12:(Code×Cx)×eH:=((bU Tryz.f85 [1,1,1,0,1,0,0],fS Tryz.f85 [(0,2)]),L12)
def d13:(Code×Cx)×eH:=((bU Tryz.f85 [1,1,1,1,0,1,0,0],fS Tryz.f85 [(2,2)]),L13)
def d14:(Code×Cx)×eH:=((bU Tryz.f85 [1,1,1,1,1,1,0,1,0,0],fS Tryz.f85 [(4,0)]),L14)
def d15:(Code×Cx)×eH:=YG (bU Tryz.f103 [1,1,0,1,0,0],fS Tryz.f103 [(0,8)]) 1 15 16
def d16:(Code×Cx)×eH:=gD (bU Tryz.f103 [1,1,0,1,0,0,1,1,0,0,1,1,0,0],fS Tryz.f103 [(2,57352),(1,57352),(0,8)]) 16
def d17:(Code×Cx)×eH:=gD (bU Tryz.f104 [1,1,1,1,1,1,1,0,1,0,0],fS Tryz.f104 [(0,5378)]) 17
def d18:(Code×Cx)×eH:=gD (bU Tryz.f110 [1,1,0,1,0,0],fS Tryz.f110 [(0,8)]) 18
def d19:(Code×Cx)×eH:=gD (bU Tryz.f111 [1,1,0,1,0,0],fS Tryz.f111 [(0,0)]) 19
def d20:(Code×Cx)×eH:=gD (bU Tryz.f112 [1,1,0,1,0,0],fS Tryz.f112 [(0,0)]) 20
def d21:(Code×Cx)×eH:=YG (bU Tryz.f113 [1,1,0,1,0,0],fS Tryz.f113 [(0,32)]) 1 21 22
def d22:(Code×Cx)×eH:=gD (bU Tryz.f113 [1,1,0,1,0,0,1,1,0,0,1,1,1,0,0],fS Tryz.f113 [(2,3670056),(1,3670056),(0,32)]) 22
def d23:(Code×Cx)×eH:=gD (bU Tryz.f114 [1,1,0,1,0,0],fS Tryz.f114 [(0,32)]) 23
def d24:(Code×Cx)×eH:=gD (bU Tryz.f116 [1,0,1,0,0],fS Tryz.f116 [(0,0)]) 24
def d25:(Code×Cx)×eH:=((bU Tryz.f118 [1,0,0,0],fS Tryz.f118 [(0,2)]),L25)
def d26:(Code×Cx)×eH:=((bU Tryz.f118 [1,0,0,0,1,0,1,0,1,1,1,0,0,0],fS Tryz.f118 [(3,3),(2,3),(1,3),(0,2)]),L26)
def d27:(Code×Cx)×eH:=gD (bU Tryz.f123 [1,1,1,0,1,0,0],fS Tryz.f123 [(0,33)]) 27
def d28:(Code×Cx)×eH:=gD (bU Tryz.f124 [1,0,0],fS Tryz.f124 [(0,0)]) 28
def d29:(Code×Cx)×eH:=gD (bU Tryz.f126 [1,1,1,1,1,0,0,0],fS Tryz.f126 [(0,5)]) 29
def d30:(Code×Cx)×eH:=((bU Tryz.f129 [1,1,1,0,1,0,0],fS Tryz.f129 [(0,2)]),L30)
def d31:(Code×Cx)×eH:=((bU Tryz.f129 [1,1,1,1,1,0,1,0,0],fS Tryz.f129 [(2,0)]),L31)
def d32:(Code×Cx)×eH:=gD (bU Tryz.f131 [1,1,1,0,1,0,0],fS Tryz.f131 [(0,0)]) 32
def d33:(Code×Cx)×eH:=gD (bU Tryz.f132 [1,1,0,1,0,0],fS Tryz.f132 [(0,8)]) 33
def d34:(Code×Cx)×eH:=gD (bU Tryz.f133 [1,1,0,1,0,0],fS Tryz.f133 [(0,0)]) 34
def d35:(Code×Cx)×eH:=((bU Tryz.f144 [1,1,0,1,0,0],fS Tryz.f144 [(0,38)]),L35)
def d36:(Code×Cx)×eH:=((bU Tryz.f144 [1,1,1,1,1,0,0,0],fS Tryz.f144 [(2,32)]),L36)
def d37:(Code×Cx)×eH:=((bU Tryz.f144 [1,1,1,1,1,0,0,0,1,0,1,1,1,0,0],fS Tryz.f144 [(4,164),(3,164),(2,32)]),L37)
def d38:(Code×Cx)×eH:=gD (bU Tryz.f150 [1,1,0,1,0,0],fS Tryz.f150 [(0,128)]) 38
def d39:(Code×Cx)×eH:=gD (bU Tryz.f155 [1,1,1,0,1,0,0],fS Tryz.f155 [(0,8)]) 39
def d40:(Code×Cx)×eH:=((bU Tryz.f159 [1,1,0,0,0],fS Tryz.f159 [(0,32)]),L40)
def d41:(Code×Cx)×eH:=gD (bU Tryz.f163 [1,1,1,0,1,0,0],fS Tryz.f163 [(0,16)]) 41
def d42:(Code×Cx)×eH:=((bU Tryz.f164 [1,0,1,0,0],fS Tryz.f164 [(0,1)]),L42)
def d43:(Code×Cx)×eH:=gD (bU Tryz.f168 [1,1,0,1,0,0],fS Tryz.f168 [(0,1)]) 43
def d44:(Code×Cx)×eH:=gD (bU Tryz.f176 [1,1,0,1,0,0],fS Tryz.f176 [(0,1)]) 44
def d45:(Code×Cx)×eH:=gD (bU Tryz.f177 [1,1,0,1,0,0],fS Tryz.f177 [(0,7)]) 45
def d46:(Code×Cx)×eH:=gD (bU Tryz.f186 [1,1,0,1,0,0],fS Tryz.f186 [(0,512)]) 46
def d47:(Code×Cx)×eH:=gD (bU Tryz.f188 [1,0,1,0,0],fS Tryz.f188 [(0,0)]) 47
def d48:(Code×Cx)×eH:=gD (bU Tryz.f196 [1,1,1,0,0],fS Tryz.f196 [(0,16)]) 48
def d49:(Code×Cx)×eH:=gD (bU Tryz.f197 [1,1,0,1,0,0],fS Tryz.f197 [(0,32)]) 49
def d50:(Code×Cx)×eH:=gD (bU Tryz.f198 [1,0,1,0,0],fS Tryz.f198 [(0,0)]) 50
def d51:(Code×Cx)×eH:=((bU Tryz.f199 [1,1,0,1,0,0],fS Tryz.f199 [(0,0)]),L51)
def d52:(Code×Cx)×eH:=gD (bU Tryz.f203 [1,1,1,1,1,1,0,1,0,0],fS Tryz.f203 [(0,1408)]) 52
def d53:(Code×Cx)×eH:=((bU Tryz.f218 [1,1,1,0,1,0,0],fS Tryz.f218 [(0,64)]),L53)
def d54:(Code×Cx)×eH:=((bU Tryz.f218 [1,1,1,0,1,0,0,1,0,0,1,1,0,1,0,0],fS Tryz.f218 [(2,963),(1,195),(0,64)]),L54)
def d55:(Code×Cx)×eH:=gD (bU Tryz.f235 [1,1,1,0,1,0,0],fS Tryz.f235 [(0,903)]) 55
def d56:(Code×Cx)×eH:=((bU Tryz.f239 [1,1,0,1,0,0],fS Tryz.f239 [(0,0)]),L56)
def d57:(Code×Cx)×eH:=((bU Tryz.f257 [1,0,1,0,1,1,1,1,1,1,1,1,1,0,1,0,1,0,0],fS Tryz.f257 [(1,32),(0,2)]),L57)
def d58:(Code×Cx)×eH:=((bU Tryz.f257 [1,0,1,0,1,1,1,1,1,1,1,1,1,1,1,1,1,0,1,0,1,0,0],fS Tryz.f257 [(3,1024),(0,2)]),L58)
def d59:(Code×Cx)×eH:=gD (bU Tryz.f269 [1,1,0,1,0,0],fS Tryz.f269 [(0,8)]) 59
def d60:(Code×Cx)×eH:=gD (bU Tryz.f270 [1,0,1,0,0],fS Tryz.f270 [(0,0)]) 60
def d61:(Code×Cx)×eH:=gD (bU Tryz.f272 [1,1,0,1,0,0],fS Tryz.f272 [(0,12)]) 61
def d62:(Code×Cx)×eH:=gD (bU Tryz.f273 [1,1,0,0,0],fS Tryz.f273 [(0,8)]) 62
def d63:(Code×Cx)×eH:=gD (bU Tryz.f291 [1,0,1,0,0],fS Tryz.f291 [(0,0)]) 63
def Nn (f:Nat):Option (Func×eH):=(tN f 168 (tN f 114 (tN f 74 (tN f 49 (tN f 25 (tN f 17 (tN f 13 (tL f 11 (Tryz.f11,(gB Tryz.f11))) (tL f 13 (Tryz.f13,(gB Tryz.f13)))) (tN f 21 (tL f 17 (Tryz.f17,(gB Tryz.f17))) (tL f 21 (Tryz.f21,(gB Tryz.f21))))) (tN f 44 (tN f 30 (tL f 25 (Tryz.f25,(nS Tryz.f25 0))) (tL f 30 (Tryz.f30,(gB Tryz.f30)))) (tN f 46 (tL f 44 (Tryz.f44,(gB Tryz.f44))) (tL f 46 (Tryz.f46,(nS Tryz.f46 1)))))) (tN f 62 (tN f 60 (tN f 59 (tL f 49 (Tryz.f49,B49)) (tL f 59 (Tryz.f59,(gB Tryz.f59)))) (tN f 61 (tL f 60 (Tryz.f60,(gB Tryz.f60))) (tL f 61 (Tryz.f61,(gB Tryz.f61))))) (tN f 71 (tN f 67 (tL f 62 (Tryz.f62,(gB Tryz.f62))) (tL f 67 (Tryz.f67,(nS Tryz.f67 6)))) (tN f 72 (tL f 71 (Tryz.f71,(gB Tryz.f71))) (tN f 73 (tL f 72 (Tryz.f72,(nS Tryz.f72 7))) (tL f 73 (Tryz.f73,(nS Tryz.f73 8)))))))) (tN f 101 (tN f 82 (tN f 79 (tN f 77 (tL f 74 (Tryz.f74,(nS Tryz.f74 9))) (tL f 77 (Tryz.f77,(gB Tryz.f77)))) (tN f 80 (tL f 79 (Tryz.f79,(gB Tryz.f79))) (tL f 80 (Tryz.f80,(gB Tryz.f80))))) (tN f 85 (tN f 84 (tL f 82 (Tryz.f82,B82)) (tL f 84 (Tryz.f84,(gB Tryz.f84)))) (tN f 91 (tL f 85 (Tryz.f85,B85)) (tN f 100 (tL f 91 (Tryz.f91,(gB Tryz.f91))) (tL f 100 (Tryz.f100,(gB Tryz.f100))))))) (tN f 105 (tN f 103 (tN f 102 (tL f 101 (Tryz.f101,(gB Tryz.f101))) (tL f 102 (Tryz.f102,(gB Tryz.f102)))) (tN f 104 (tL f 103 (Tryz.f103,(nS Tryz.f103 15))) (tL f 104 (Tryz.f104,(nS Tryz.f104 17))))) (tN f 111 (tN f 110 (tL f 105 (Tryz.f105,(gB Tryz.f105))) (tL f 110 (Tryz.f110,(nS Tryz.f110 18)))) (tN f 112 (tL f 111 (Tryz.f111,(nS Tryz.f111 19))) (tN f 113 (tL f 112 (Tryz.f112,(nS Tryz.f112 20))) (tL f 113 (Tryz.f113,(nS Tryz.f113 21))))))))) (tN f 144 (tN f 125 (tN f 119 (tN f 116 (tN f 115 (tL f 114 (Tryz.f114,(nS Tryz.f114 23))) (tL f 115 (Tryz.f115,(gB Tryz.f115)))) (tN f 118 (tL f 116 (Tryz.f116,(nS Tryz.f116 24))) (tL f 118 (Tryz.f118,Xs)))) (tN f 123 (tN f 122 (tL f 119 (Tryz.f119,(gB Tryz.f119))) (tL f 122 (Tryz.f122,(gB Tryz.f122)))) (tN f 124 (tL f 123 (Tryz.f123,(nS Tryz.f123 27))) (tL f 124 (Tryz.f124,(nS Tryz.f124 28)))))) (tN f 129 (tN f 127 (tN f 126 (tL f 125 (Tryz.f125,(gB Tryz.f125))) (tL f 126 (Tryz.f126,(nS Tryz.f126 29)))) (tN f 128 (tL f 127 (Tryz.f127,(gB Tryz.f127))) (tL f 128 (Tryz.f128,(gB Tryz.f128))))) (tN f 131 (tN f 130 (tL f 129 (Tryz.f129,Xt)) (tL f 130 (Tryz.f130,(gB Tryz.f130)))) (tN f 132 (tL f 131 (Tryz.f131,(nS Tryz.f131 32))) (tN f 133 (tL f 132 (Tryz.f132,(nS Tryz.f132 33))) (tL f 133 (Tryz.f133,(nS Tryz.f133 34)))))))) (tN f 159 (tN f 154 (tN f 150 (tN f 148 (tL f 144 (Tryz.f144,Xu)) (tL f 148 (Tryz.f148,(gB Tryz.f148)))) (tN f 151 (tL f 150 (Tryz.f150,(nS Tryz.f150 38))) (tL f 151 (Tryz.f151,(gB Tryz.f151))))) (tN f 156 (tN f 155 (tL f 154 (Tryz.f154,(gB Tryz.f154))) (tL f 155 (Tryz.f155,(nS Tryz.f155 39)))) (tN f 157 (tL f 156 (Tryz.f156,(gB Tryz.f156))) (tN f 158 (tL f 157 (Tryz.f157,(gB Tryz.f157))) (tL f 158 (Tryz.f158,(gB Tryz.f158))))))) (tN f 163 (tN f 161 (tN f 160 (tL f 159 (Tryz.f159,Xv)) (tL f 160 (Tryz.f160,Xw))) (tN f 162 (tL f 161 (Tryz.f161,Xx)) (tL f 162 (Tryz.f162,(gB Tryz.f162))))) (tN f 165 (tN f 164 (tL f 163 (Tryz.f163,(nS Tryz.f163 41))) (tL f 164 (Tryz.f164,Xy))) (tN f 166 (tL f 165 (Tryz.f165,(gB Tryz.f165))) (tN f 167 (tL f 166 (Tryz.f166,Xz)) (tL f 167 (Tryz.f167,(gB Tryz.f167)))))))))) (tN f 217 (tN f 194 (tN f 176 (tN f 172 (tN f 170 (tN f 169 (tL f 168 (Tryz.f168,(nS Tryz.f168 43))) (tL f 169 (Tryz.f169,(gB Tryz.f169)))) (tN f 171 (tL f 170 (Tryz.f170,(gB Tryz.f170))) (tL f 171 (Tryz.f171,(gB Tryz.f171))))) (tN f 174 (tN f 173 (tL f 172 (Tryz.f172,(gB Tryz.f172))) (tL f 173 (Tryz.f173,(gB Tryz.f173)))) (tN f 175 (tL f 174 (Tryz.f174,(gB Tryz.f174))) (tL f 175 (Tryz.f175,(gB Tryz.f175)))))) (tN f 188 (tN f 186 (tN f 177 (tL f 176 (Tryz.f176,(nS Tryz.f176 44))) (tL f 177 (Tryz.f177,(nS Tryz.f177 45)))) (tN f 187 (tL f 186 (Tryz.f186,(nS Tryz.f186 46))) (tL f 187 (Tryz.f187,(gB Tryz.f187))))) (tN f 191 (tN f 189 (tL f 188 (Tryz.f188,(nS Tryz.f188 47))) (tL f 189 (Tryz.f189,(gB Tryz.f189)))) (tN f 192 (tL f 191 (Tryz.f191,(gB Tryz.f191))) (tN f 193 (tL f 192 (Tryz.f192,XA)) (tL f 193 (Tryz.f193,(gB Tryz.f193)))))))) (tN f 203 (tN f 198 (tN f 196 (tN f 195 (tL f 194 (Tryz.f194,(gB Tryz.f194))) (tL f 195 (Tryz.f195,(gB Tryz.f195)))) (tN f 197 (tL f 196 (Tryz.f196,(nS Tryz.f196 48))) (tL f 197 (Tryz.f197,(nS Tryz.f197 49))))) (tN f 200 (tN f 199 (tL f 198 (Tryz.f198,(nS Tryz.f198 50))) (tL f 199 (Tryz.f199,XB))) (tN f 201 (tL f 200 (Tryz.f200,(gB Tryz.f200))) (tN f 202 (tL f 201 (Tryz.f201,(gB Tryz.f201))) (tL f 202 (Tryz.f202,(gB Tryz.f202))))))) (tN f 212 (tN f 210 (tN f 209 (tL f 203 (Tryz.f203,(nS Tryz.f203 52))) (tL f 209 (Tryz.f209,(gB Tryz.f209)))) (tN f 211 (tL f 210 (Tryz.f210,XC)) (tL f 211 (Tryz.f211,(gB Tryz.f211))))) (tN f 214 (tN f 213 (tL f 212 (Tryz.f212,(gB Tryz.f212))) (tL f 213 (Tryz.f213,(gB Tryz.f213)))) (tN f 215 (tL f 214 (Tryz.f214,(gB Tryz.f214))) (tN f 216 (tL f 215 (Tryz.f215,(gB Tryz.f215))) (tL f 216 (Tryz.f216,(gB Tryz.f216))))))))) (tN f 257 (tN f 234 (tN f 221 (tN f 219 (tN f 218 (tL f 217 (Tryz.f217,XD)) (tL f 218 (Tryz.f218,XE))) (tN f 220 (tL f 219 (Tryz.f219,(gB Tryz.f219))) (tL f 220 (Tryz.f220,(gB Tryz.f220))))) (tN f 223 (tN f 222 (tL f 221 (Tryz.f221,(gB Tryz.f221))) (tL f 222 (Tryz.f222,(gB Tryz.f222)))) (tN f 224 (tL f 223 (Tryz.f223,(gB Tryz.f223))) (tN f 233 (tL f 224 (Tryz.f224,(gB Tryz.f224))) (tL f 233 (Tryz.f233,(gB Tryz.f233))))))) (tN f 239 (tN f 236 (tN f 235 (tL f 234 (Tryz.f234,(gB Tryz.f234))) (tL f 235 (Tryz.f235,(nS Tryz.f235 55)))) (tN f 238 (tL f 236 (Tryz.f236,(gB Tryz.f236))) (tL f 238 (Tryz.f238,(gB Tryz.f238))))) (tN f 241 (tN f 240 (tL f 239 (Tryz.f239,XF)) (tL f 240 (Tryz.f240,(gB Tryz.f240)))) (tN f 255 (tL f 241 (Tryz.f241,(gB Tryz.f241))) (tN f 256 (tL f 255 (Tryz.f255,(gB Tryz.f255))) (tL f 256 (Tryz.f256,(gB Tryz.f256)))))))) (tN f 271 (tN f 261 (tN f 259 (tN f 258 (tL f 257 (Tryz.f257,XG)) (tL f 258 (Tryz.f258,(gB Tryz.f258)))) (tN f 260 (tL f 259 (Tryz.f259,(gB Tryz.f259))) (tL f 260 (Tryz.f260,(gB Tryz.f260))))) (tN f 263 (tN f 262 (tL f 261 (Tryz.f261,(gB Tryz.f261))) (tL f 262 (Tryz.f262,(gB Tryz.f262)))) (tN f 269 (tL f 263 (Tryz.f263,(gB Tryz.f263))) (tN f 270 (tL f 269 (Tryz.f269,(nS Tryz.f269 59))) (tL f 270 (Tryz.f270,(nS Tryz.f270 60))))))) (tN f 275 (tN f 273 (tN f 272 (tL f 271 (Tryz.f271,(gB Tryz.f271))) (tL f 272 (Tryz.f272,(nS Tryz.f272 61)))) (tN f 274 (tL f 273 (Tryz.f273,(nS Tryz.f273 62))) (tL f 274 (Tryz.f274,(gB Tryz.f274))))) (tN f 287 (tN f 276 (tL f 275 (Tryz.f275,(gB Tryz.f275))) (tL f 276 (Tryz.f276,(gB Tryz.f276)))) (tN f 288 (tL f 287 (Tryz.f287,(gB Tryz.f287))) (tN f 291 (tL f 288 (Tryz.f288,(gB Tryz.f288))) (tL f 291 (Tryz.f291,(nS Tryz.f291 63)))))))))))
def Vl (f:Nat):Option ((Code×Cx)×eH):=(tN f 32 (tN f 16 (tN f 8 (tN f 4 (tN f 2 (tN f 1 (tL f 0 d0) (tL f 1 d1)) (tN f 3 (tL f 2 d2) (tL f 3 d3))) (tN f 6 (tN f 5 (tL f 4 d4) (tL f 5 d5)) (tN f 7 (tL f 6 d6) (tL f 7 d7)))) (tN f 12 (tN f 10 (tN f 9 (tL f 8 d8) (tL f 9 d9)) (tN f 11 (tL f 10 d10) (tL f 11 d11))) (tN f 14 (tN f 13 (tL f 12 d12) (tL f 13 d13)) (tN f 15 (tL f 14 d14) (tL f 15 d15))))) (tN f 24 (tN f 20 (tN f 18 (tN f 17 (tL f 16 d16) (tL f 17 d17)) (tN f 19 (tL f 18 d18) (tL f 19 d19))) (tN f 22 (tN f 21 (tL f 20 d20) (tL f 21 d21)) (tN f 23 (tL f 22 d22) (tL f 23 d23)))) (tN f 28 (tN f 26 (tN f 25 (tL f 24 d24) (tL f 25 d25)) (tN f 27 (tL f 26 d26) (tL f 27 d27))) (tN f 30 (tN f 29 (tL f 28 d28) (tL f 29 d29)) (tN f 31 (tL f 30 d30) (tL f 31 d31)))))) (tN f 48 (tN f 40 (tN f 36 (tN f 34 (tN f 33 (tL f 32 d32) (tL f 33 d33)) (tN f 35 (tL f 34 d34) (tL f 35 d35))) (tN f 38 (tN f 37 (tL f 36 d36) (tL f 37 d37)) (tN f 39 (tL f 38 d38) (tL f 39 d39)))) (tN f 44 (tN f 42 (tN f 41 (tL f 40 d40) (tL f 41 d41)) (tN f 43 (tL f 42 d42) (tL f 43 d43))) (tN f 46 (tN f 45 (tL f 44 d44) (tL f 45 d45)) (tN f 47 (tL f 46 d46) (tL f 47 d47))))) (tN f 56 (tN f 52 (tN f 50 (tN f 49 (tL f 48 d48) (tL f 49 d49)) (tN f 51 (tL f 50 d50) (tL f 51 d51))) (tN f 54 (tN f 53 (tL f 52 d52) (tL f 53 d53)) (tN f 55 (tL f 54 d54) (tL f 55 d55)))) (tN f 60 (tN f 58 (tN f 57 (tL f 56 d56) (tL f 57 d57)) (tN f 59 (tL f 58 d58) (tL f 59 d59))) (tN f 62 (tN f 61 (tL f 60 d60) (tL f 61 d61)) (tN f 63 (tL f 62 d62) (tL f 63 d63)))))))
def Dt:Cd:=⟨Nn,Vl⟩
def FO (f:Nat) (e:Func×eH):Prop:=(∀(c:CH) (lp:LH) us H,e.2 c (Dt.loop lp) us H=QB rR c lp e.1 us H)∧Tryz.prog.funcs[f]? = some e.1∧aN Tryz.prog f∧Xo y e.1=true
def LO (e:(Code×Cx)×eH):Prop:=∀(c:CH) (lp:LH) us H,e.2 c (Dt.loop lp) us H=Xl rR c lp e.1.1 e.1.2 us H
theorem e11:FO 11 (Tryz.f11,(gB Tryz.f11)):=⟨fun _ _ _ _=>by kernel_rfl,Tryz.func11,Tryz.call11,by kernel_rfl⟩
theorem e13:FO 13 (Tryz.f13,(gB Tryz.f13)):=⟨fun _ _ _ _=>by kernel_rfl,Tryz.func13,Tryz.call13,by kernel_rfl⟩
theorem e17:FO 17 (Tryz.f17,(gB Tryz.f17)):=⟨fun _ _ _ _=>by kernel_rfl,Tryz.func17,Tryz.call17,by kernel_rfl⟩
theorem e21:FO 21 (Tryz.f21,(gB Tryz.f21)):=⟨fun _ _ _ _=>by kernel_rfl,Tryz.func21,Tryz.call21,by kernel_rfl⟩
theorem e25:FO 25 (Tryz.f25,(nS Tryz.f25 0)):=⟨fun _ _ _ _=>by kernel_rfl,Tryz.func25,Tryz.call25,by kernel_rfl⟩
theorem e30:FO 30 (Tryz.f30,(gB Tryz.f30)):=⟨fun _ _ _ _=>by kernel_rfl,Tryz.func30,Tryz.call30,by kernel_rfl⟩
theorem e44:FO 44 (Tryz.f44,(gB Tryz.f44)):=⟨fun _ _ _ _=>by kernel_rfl,Tryz.func44,Tryz.call44,by kernel_rfl⟩
theorem e46:FO 46 (Tryz.f46,(nS Tryz.f46 1)):=⟨fun _ _ _ _=>by kernel_rfl,Tryz.func46,Tryz.call46,by kernel_rfl⟩
theorem e49:FO 49 (Tryz.f49,B49):=⟨fun _ _ _ _=>by kernel_rfl,Tryz.func49,Tryz.call49,by kernel_rfl⟩
theorem e59:FO 59 (Tryz.f59,(gB Tryz.f59)):=⟨fun _ _ _ _=>by kernel_rfl,Tryz.func59,Tryz.call59,by kernel_rfl⟩
theorem e60:FO 60 (Tryz.f60,(gB Tryz.f60)):=⟨fun _ _ _ _=>by kernel_rfl,Tryz.func60,Tryz.call60,by kernel_rfl⟩
theorem e61:FO 61 (Tryz.f61,(gB Tryz.f61)):=⟨fun _ _ _ _=>by kernel_rfl,Tryz.func61,Tryz.call61,by kernel_rfl⟩
theorem e62:FO 62 (Tryz.f62,(gB Tryz.f62)):=⟨fun _ _ _ _=>by kernel_rfl,Tryz.func62,Tryz.call62,by kernel_rfl⟩
theorem e67:FO 67 (Tryz.f67,(nS Tryz.f67 6)):=⟨fun _ _ _ _=>by kernel_rfl,Tryz.func67,Tryz.call67,by kernel_rfl⟩
theorem e71:FO 71 (Tryz.f71,(gB Tryz.f71)):=⟨fun _ _ _ _=>by kernel_rfl,Tryz.func71,Tryz.call71,by kernel_rfl⟩
theorem e72:FO 72 (Tryz.f72,(nS Tryz.f72 7)):=⟨fun _ _ _ _=>by kernel_rfl,Tryz.func72,Tryz.call72,by kernel_rfl⟩
theorem e73:FO 73 (Tryz.f73,(nS Tryz.f73 8)):=⟨fun _ _ _ _=>by kernel_rfl,Tryz.func73,Tryz.call73,by kernel_rfl⟩
theorem e74:FO 74 (Tryz.f74,(nS Tryz.f74 9)):=⟨fun _ _ _ _=>by kernel_rfl,Tryz.func74,Tryz.call74,by kernel_rfl⟩
theorem e77:FO 77 (Tryz.f77,(gB Tryz.f77)):=⟨fun _ _ _ _=>by kernel_rfl,Tryz.func77,Tryz.call77,by kernel_rfl⟩
theorem e79:FO 79 (Tryz.f79,(gB Tryz.f79)):=⟨fun _ _ _ _=>by kernel_rfl,Tryz.func79,Tryz.call79,by kernel_rfl⟩
theorem e80:FO 80 (Tryz.f80,(gB Tryz.f80)):=⟨fun _ _ _ _=>by kernel_rfl,Tryz.func80,Tryz.call80,by kernel_rfl⟩
theorem e82:FO 82 (Tryz.f82,B82):=⟨fun _ _ _ _=>by kernel_rfl,Tryz.func82,Tryz.call82,by kernel_rfl⟩
theorem e84:FO 84 (Tryz.f84,(gB Tryz.f84)):=⟨fun _ _ _ _=>by kernel_rfl,Tryz.func84,Tryz.call84,by kernel_rfl⟩
theorem e85:FO 85 (Tryz.f85,B85):=⟨fun _ _ _ _=>by kernel_rfl,Tryz.func85,Tryz.call85,by kernel_rfl⟩
theorem e91:FO 91 (Tryz.f91,(gB Tryz.f91)):=⟨fun _ _ _ _=>by kernel_rfl,Tryz.func91,Tryz.call91,by kernel_rfl⟩
theorem YW:FO 100 (Tryz.f100,(gB Tryz.f100)):=⟨fun _ _ _ _=>by kernel_rfl,Tryz.func100,Tryz.call100,by kernel_rfl⟩
theorem YX:FO 101 (Tryz.f101,(gB Tryz.f101)):=⟨fun _ _ _ _=>by kernel_rfl,Tryz.func101,Tryz.call101,by kernel_rfl⟩
theorem YY:FO 102 (Tryz.f102,(gB Tryz.f102)):=⟨fun _ _ _ _=>by kernel_rfl,Tryz.func102,Tryz.call102,by kernel_rfl⟩
theorem YZ:FO 103 (Tryz.f103,(nS Tryz.f103 15)):=⟨fun _ _ _ _=>by kernel_rfl,Tryz.func103,Tryz.call103,by kernel_rfl⟩
theorem Y_:FO 104 (Tryz.f104,(nS Tryz.f104 17)):=⟨fun _ _ _ _=>by kernel_rfl,Tryz.func104,Tryz.call104,by kernel_rfl⟩
theorem Za:FO 105 (Tryz.f105,(gB Tryz.f105)):=⟨fun _ _ _ _=>by kernel_rfl,Tryz.func105,Tryz.call105,by kernel_rfl⟩
theorem Zb:FO 110 (Tryz.f110,(nS Tryz.f110 18)):=⟨fun _ _ _ _=>by kernel_rfl,Tryz.func110,Tryz.call110,by kernel_rfl⟩
theorem Zc:FO 111 (Tryz.f111,(nS Tryz.f111 19)):=⟨fun _ _ _ _=>by kernel_rfl,Tryz.func111,Tryz.call111,by kernel_rfl⟩
theorem Zd:FO 112 (Tryz.f112,(nS Tryz.f112 20)):=⟨fun _ _ _ _=>by kernel_rfl,Tryz.func112,Tryz.call112,by kernel_rfl⟩
theorem Ze:FO 113 (Tryz.f113,(nS Tryz.f113 21)):=⟨fun _ _ _ _=>by kernel_rfl,Tryz.func113,Tryz.call113,by kernel_rfl⟩
theorem Zf:FO 114 (Tryz.f114,(nS Tryz.f114 23)):=⟨fun _ _ _ _=>by kernel_rfl,Tryz.func114,Tryz.call114,by kernel_rfl⟩
theorem Zg:FO 115 (Tryz.f115,(gB Tryz.f115)):=⟨fun _ _ _ _=>by kernel_rfl,Tryz.func115,Tryz.call115,by kernel_rfl⟩
theorem Zh:FO 116 (Tryz.f116,(nS Tryz.f116 24)):=⟨fun _ _ _ _=>by kernel_rfl,Tryz.func116,Tryz.call116,by kernel_rfl⟩
theorem Zi:FO 118 (Tryz.f118,Xs):=⟨fun _ _ _ _=>by kernel_rfl,Tryz.func118,Tryz.call118,by kernel_rfl⟩
theorem Zj:FO 119 (Tryz.f119,(gB Tryz.f119)):=⟨fun _ _ _ _=>by kernel_rfl,Tryz.func119,Tryz.call119,by kernel_rfl⟩
theorem Zk:FO 122 (Tryz.f122,(gB Tryz.f122)):=⟨fun _ _ _ _=>by kernel_rfl,Tryz.func122,Tryz.call122,by kernel_rfl⟩
theorem Zl:FO 123 (Tryz.f123,(nS Tryz.f123 27)):=⟨fun _ _ _ _=>by kernel_rfl,Tryz.func123,Tryz.call123,by kernel_rfl⟩
theorem Zm:FO 124 (Tryz.f124,(nS Tryz.f124 28)):=⟨fun _ _ _ _=>by kernel_rfl,Tryz.func124,Tryz.call124,by kernel_rfl⟩
theorem Zn:FO 125 (Tryz.f125,(gB Tryz.f125)):=⟨fun _ _ _ _=>by kernel_rfl,Tryz.func125,Tryz.call125,by kernel_rfl⟩
theorem Zo:FO 126 (Tryz.f126,(nS Tryz.f126 29)):=⟨fun _ _ _ _=>by kernel_rfl,Tryz.func126,Tryz.call126,by kernel_rfl⟩
theorem Zp:FO 127 (Tryz.f127,(gB Tryz.f127)):=⟨fun _ _ _ _=>by kernel_rfl,Tryz.func127,Tryz.call127,by kernel_rfl⟩
theorem Zq:FO 128 (Tryz.f128,(gB Tryz.f128)):=⟨fun _ _ _ _=>by kernel_rfl,Tryz.func128,Tryz.call128,by kernel_rfl⟩
theorem Zr:FO 129 (Tryz.f129,Xt):=⟨fun _ _ _ _=>by kernel_rfl,Tryz.func129,Tryz.call129,by kernel_rfl⟩
theorem Zs:FO 130 (Tryz.f130,(gB Tryz.f130)):=⟨fun _ _ _ _=>by kernel_rfl,Tryz.func130,Tryz.call130,by kernel_rfl⟩
theorem Zt:FO 131 (Tryz.f131,(nS Tryz.f131 32)):=⟨fun _ _ _ _=>by kernel_rfl,Tryz.func131,Tryz.call131,by kernel_rfl⟩
theorem Zu:FO 132 (Tryz.f132,(nS Tryz.f132 33)):=⟨fun _ _ _ _=>by kernel_rfl,Tryz.func132,Tryz.call132,by kernel_rfl⟩
theorem Zv:FO 133 (Tryz.f133,(nS Tryz.f133 34)):=⟨fun _ _ _ _=>by kernel_rfl,Tryz.func133,Tryz.call133,by kernel_rfl⟩
theorem Zw:FO 144 (Tryz.f144,Xu):=⟨fun _ _ _ _=>by kernel_rfl,Tryz.func144,Tryz.call144,by kernel_rfl⟩
theorem Zx:FO 148 (Tryz.f148,(gB Tryz.f148)):=⟨fun _ _ _ _=>by kernel_rfl,Tryz.func148,Tryz.call148,by kernel_rfl⟩
theorem Zy:FO 150 (Tryz.f150,(nS Tryz.f150 38)):=⟨fun _ _ _ _=>by kernel_rfl,Tryz.func150,Tryz.call150,by kernel_rfl⟩
theorem Zz:FO 151 (Tryz.f151,(gB Tryz.f151)):=⟨fun _ _ _ _=>by kernel_rfl,Tryz.func151,Tryz.call151,by kernel_rfl⟩
theorem ZA:FO 154 (Tryz.f154,(gB Tryz.f154)):=⟨fun _ _ _ _=>by kernel_rfl,Tryz.func154,Tryz.call154,by kernel_rfl⟩
theorem ZB:FO 155 (Tryz.f155,(nS Tryz.f155 39)):=⟨fun _ _ _ _=>by kernel_rfl,Tryz.func155,Tryz.call155,by kernel_rfl⟩
theorem ZC:FO 156 (Tryz.f156,(gB Tryz.f156)):=⟨fun _ _ _ _=>by kernel_rfl,Tryz.func156,Tryz.call156,by kernel_rfl⟩
theorem ZD:FO 157 (Tryz.f157,(gB Tryz.f157)):=⟨fun _ _ _ _=>by kernel_rfl,Tryz.func157,Tryz.call157,by kernel_rfl⟩
theorem ZE:FO 158 (Tryz.f158,(gB Tryz.f158)):=⟨fun _ _ _ _=>by kernel_rfl,Tryz.func158,Tryz.call158,by kernel_rfl⟩
theorem ZF:FO 159 (Tryz.f159,Xv):=⟨fun _ _ _ _=>by kernel_rfl,Tryz.func159,Tryz.call159,by kernel_rfl⟩
theorem ZG:FO 160 (Tryz.f160,Xw):=⟨fun _ _ _ _=>by kernel_rfl,Tryz.func160,Tryz.call160,by kernel_rfl⟩
theorem ZH:FO 161 (Tryz.f161,Xx):=⟨fun _ _ _ _=>by kernel_rfl,Tryz.func161,Tryz.call161,by kernel_rfl⟩
theorem ZI:FO 162 (Tryz.f162,(gB Tryz.f162)):=⟨fun _ _ _ _=>by kernel_rfl,Tryz.func162,Tryz.call162,by kernel_rfl⟩
theorem ZJ:FO 163 (Tryz.f163,(nS Tryz.f163 41)):=⟨fun _ _ _ _=>by kernel_rfl,Tryz.func163,Tryz.call163,by kernel_rfl⟩
theorem ZK:FO 164 (Tryz.f164,Xy):=⟨fun _ _ _ _=>by kernel_rfl,Tryz.func164,Tryz.call164,by kernel_rfl⟩
theorem ZL:FO 165 (Tryz.f165,(gB Tryz.f165)):=⟨fun _ _ _ _=>by kernel_rfl,Tryz.func165,Tryz.call165,by kernel_rfl⟩
theorem ZM:FO 166 (Tryz.f166,Xz):=⟨fun _ _ _ _=>by kernel_rfl,Tryz.func166,Tryz.call166,by kernel_rfl⟩
theorem ZN:FO 167 (Tryz.f167,(gB Tryz.f167)):=⟨fun _ _ _ _=>by kernel_rfl,Tryz.func167,Tryz.call167,by kernel_rfl⟩
theorem ZO:FO 168 (Tryz.f168,(nS Tryz.f168 43)):=⟨fun _ _ _ _=>by kernel_rfl,Tryz.func168,Tryz.call168,by kernel_rfl⟩
theorem ZP:FO 169 (Tryz.f169,(gB Tryz.f169)):=⟨fun _ _ _ _=>by kernel_rfl,Tryz.func169,Tryz.call169,by kernel_rfl⟩
theorem ZQ:FO 170 (Tryz.f170,(gB Tryz.f170)):=⟨fun _ _ _ _=>by kernel_rfl,Tryz.func170,Tryz.call170,by kernel_rfl⟩
theorem ZR:FO 171 (Tryz.f171,(gB Tryz.f171)):=⟨fun _ _ _ _=>by kernel_rfl,Tryz.func171,Tryz.call171,by kernel_rfl⟩
theorem ZS:FO 172 (Tryz.f172,(gB Tryz.f172)):=⟨fun _ _ _ _=>by kernel_rfl,Tryz.func172,Tryz.call172,by kernel_rfl⟩
theorem ZT:FO 173 (Tryz.f173,(gB Tryz.f173)):=⟨fun _ _ _ _=>by kernel_rfl,Tryz.func173,Tryz.call173,by kernel_rfl⟩
theorem ZU:FO 174 (Tryz.f174,(gB Tryz.f174)):=⟨fun _ _ _ _=>by kernel_rfl,Tryz.func174,Tryz.call174,by kernel_rfl⟩
theorem ZV:FO 175 (Tryz.f175,(gB Tryz.f175)):=⟨fun _ _ _ _=>by kernel_rfl,Tryz.func175,Tryz.call175,by kernel_rfl⟩
theorem ZW:FO 176 (Tryz.f176,(nS Tryz.f176 44)):=⟨fun _ _ _ _=>by kernel_rfl,Tryz.func176,Tryz.call176,by kernel_rfl⟩
theorem ZX:FO 177 (Tryz.f177,(nS Tryz.f177 45)):=⟨fun _ _ _ _=>by kernel_rfl,Tryz.func177,Tryz.call177,by kernel_rfl⟩
theorem ZY:FO 186 (Tryz.f186,(nS Tryz.f186 46)):=⟨fun _ _ _ _=>by kernel_rfl,Tryz.func186,Tryz.call186,by kernel_rfl⟩
theorem ZZ:FO 187 (Tryz.f187,(gB Tryz.f187)):=⟨fun _ _ _ _=>by kernel_rfl,Tryz.func187,Tryz.call187,by kernel_rfl⟩
theorem Z_:FO 188 (Tryz.f188,(nS Tryz.f188 47)):=⟨fun _ _ _ _=>by kernel_rfl,Tryz.func188,Tryz.call188,by kernel_rfl⟩
theorem aaa:FO 189 (Tryz.f189,(gB Tryz.f189)):=⟨fun _ _ _ _=>by kernel_rfl,Tryz.func189,Tryz.call189,by kernel_rfl⟩
theorem aab:FO 191 (Tryz.f191,(gB Tryz.f191)):=⟨fun _ _ _ _=>by kernel_rfl,Tryz.func191,Tryz.call191,by kernel_rfl⟩
theorem aac:FO 192 (Tryz.f192,XA):=⟨fun _ _ _ _=>by kernel_rfl,Tryz.func192,Tryz.call192,by kernel_rfl⟩
theorem aad:FO 193 (Tryz.f193,(gB Tryz.f193)):=⟨fun _ _ _ _=>by kernel_rfl,Tryz.func193,Tryz.call193,by kernel_rfl⟩
theorem aae:FO 194 (Tryz.f194,(gB Tryz.f194)):=⟨fun _ _ _ _=>by kernel_rfl,Tryz.func194,Tryz.call194,by kernel_rfl⟩
theorem aaf:FO 195 (Tryz.f195,(gB Tryz.f195)):=⟨fun _ _ _ _=>by kernel_rfl,Tryz.func195,Tryz.call195,by kernel_rfl⟩
theorem aag:FO 196 (Tryz.f196,(nS Tryz.f196 48)):=⟨fun _ _ _ _=>by kernel_rfl,Tryz.func196,Tryz.call196,by kernel_rfl⟩
theorem aah:FO 197 (Tryz.f197,(nS Tryz.f197 49)):=⟨fun _ _ _ _=>by kernel_rfl,Tryz.func197,Tryz.call197,by kernel_rfl⟩
theorem aai:FO 198 (Tryz.f198,(nS Tryz.f198 50)):=⟨fun _ _ _ _=>by kernel_rfl,Tryz.func198,Tryz.call198,by kernel_rfl⟩
theorem aaj:FO 199 (Tryz.f199,XB):=⟨fun _ _ _ _=>by kernel_rfl,Tryz.func199,Tryz.call199,by kernel_rfl⟩
theorem aak:FO 200 (Tryz.f200,(gB Tryz.f200)):=⟨fun _ _ _ _=>by kernel_rfl,Tryz.func200,Tryz.call200,by kernel_rfl⟩
theorem aal:FO 201 (Tryz.f201,(gB Tryz.f201)):=⟨fun _ _ _ _=>by kernel_rfl,Tryz.func201,Tryz.call201,by kernel_rfl⟩
theorem aam:FO 202 (Tryz.f202,(gB Tryz.f202)):=⟨fun _ _ _ _=>by kernel_rfl,Tryz.func202,Tryz.call202,by kernel_rfl⟩
theorem aan:FO 203 (Tryz.f203,(nS Tryz.f203 52)):=⟨fun _ _ _ _=>by kernel_rfl,Tryz.func203,Tryz.call203,by kernel_rfl⟩
theorem aao:FO 209 (Tryz.f209,(gB Tryz.f209)):=⟨fun _ _ _ _=>by kernel_rfl,Tryz.func209,Tryz.call209,by kernel_rfl⟩
theorem aap:FO 210 (Tryz.f210,XC):=⟨fun _ _ _ _=>by kernel_rfl,Tryz.func210,Tryz.call210,by kernel_rfl⟩
theorem aaq:FO 211 (Tryz.f211,(gB Tryz.f211)):=⟨fun _ _ _ _=>by kernel_rfl,Tryz.func211,Tryz.call211,by kernel_rfl⟩
theorem aar:FO 212 (Tryz.f212,(gB Tryz.f212)):=⟨fun _ _ _ _=>by kernel_rfl,Tryz.func212,Tryz.call212,by kernel_rfl⟩
theorem aas:FO 213 (Tryz.f213,(gB Tryz.f213)):=⟨fun _ _ _ _=>by kernel_rfl,Tryz.func213,Tryz.call213,by kernel_rfl⟩
theorem aat:FO 214 (Tryz.f214,(gB Tryz.f214)):=⟨fun _ _ _ _=>by kernel_rfl,Tryz.func214,Tryz.call214,by kernel_rfl⟩
theorem aau:FO 215 (Tryz.f215,(gB Tryz.f215)):=⟨fun _ _ _ _=>by kernel_rfl,Tryz.func215,Tryz.call215,by kernel_rfl⟩
theorem aav:FO 216 (Tryz.f216,(gB Tryz.f216)):=⟨fun _ _ _ _=>by kernel_rfl,Tryz.func216,Tryz.call216,by kernel_rfl⟩
theorem aaw:FO 217 (Tryz.f217,XD):=⟨fun _ _ _ _=>by kernel_rfl,Tryz.func217,Tryz.call217,by kernel_rfl⟩
theorem aax:FO 218 (Tryz.f218,XE):=⟨fun _ _ _ _=>by kernel_rfl,Tryz.func218,Tryz.call218,by kernel_rfl⟩
theorem aay:FO 219 (Tryz.f219,(gB Tryz.f219)):=⟨fun _ _ _ _=>by kernel_rfl,Tryz.func219,Tryz.call219,by kernel_rfl⟩
theorem aaz:FO 220 (Tryz.f220,(gB Tryz.f220)):=⟨fun _ _ _ _=>by kernel_rfl,Tryz.func220,Tryz.call220,by kernel_rfl⟩
theorem aaA:FO 221 (Tryz.f221,(gB Tryz.f221)):=⟨fun _ _ _ _=>by kernel_rfl,Tryz.func221,Tryz.call221,by kernel_rfl⟩
theorem aaB:FO 222 (Tryz.f222,(gB Tryz.f222)):=⟨fun _ _ _ _=>by kernel_rfl,Tryz.func222,Tryz.call222,by kernel_rfl⟩
theorem aaC:FO 223 (Tryz.f223,(gB Tryz.f223)):=⟨fun _ _ _ _=>by kernel_rfl,Tryz.func223,Tryz.call223,by kernel_rfl⟩
theorem aaD:FO 224 (Tryz.f224,(gB Tryz.f224)):=⟨fun _ _ _ _=>by kernel_rfl,Tryz.func224,Tryz.call224,by kernel_rfl⟩
theorem aaE:FO 233 (Tryz.f233,(gB Tryz.f233)):=⟨fun _ _ _ _=>by kernel_rfl,Tryz.func233,Tryz.call233,by kernel_rfl⟩
theorem aaF:FO 234 (Tryz.f234,(gB Tryz.f234)):=⟨fun _ _ _ _=>by kernel_rfl,Tryz.func234,Tryz.call234,by kernel_rfl⟩
theorem aaG:FO 235 (Tryz.f235,(nS Tryz.f235 55)):=⟨fun _ _ _ _=>by kernel_rfl,Tryz.func235,Tryz.call235,by kernel_rfl⟩
theorem aaH:FO 236 (Tryz.f236,(gB Tryz.f236)):=⟨fun _ _ _ _=>by kernel_rfl,Tryz.func236,Tryz.call236,by kernel_rfl⟩
theorem aaI:FO 238 (Tryz.f238,(gB Tryz.f238)):=⟨fun _ _ _ _=>by kernel_rfl,Tryz.func238,Tryz.call238,by kernel_rfl⟩
theorem aaJ:FO 239 (Tryz.f239,XF):=⟨fun _ _ _ _=>by kernel_rfl,Tryz.func239,Tryz.call239,by kernel_rfl⟩
theorem aaK:FO 240 (Tryz.f240,(gB Tryz.f240)):=⟨fun _ _ _ _=>by kernel_rfl,Tryz.func240,Tryz.call240,by kernel_rfl⟩
theorem aaL:FO 241 (Tryz.f241,(gB Tryz.f241)):=⟨fun _ _ _ _=>by kernel_rfl,Tryz.func241,Tryz.call241,by kernel_rfl⟩
theorem aaM:FO 255 (Tryz.f255,(gB Tryz.f255)):=⟨fun _ _ _ _=>by kernel_rfl,Tryz.func255,Tryz.call255,by kernel_rfl⟩
theorem aaN:FO 256 (Tryz.f256,(gB Tryz.f256)):=⟨fun _ _ _ _=>by kernel_rfl,Tryz.func256,Tryz.call256,by kernel_rfl⟩
theorem aaO:FO 257 (Tryz.f257,XG):=⟨fun _ _ _ _=>by kernel_rfl,Tryz.func257,Tryz.call257,by kernel_rfl⟩
theorem aaP:FO 258 (Tryz.f258,(gB Tryz.f258)):=⟨fun _ _ _ _=>by kernel_rfl,Tryz.func258,Tryz.call258,by kernel_rfl⟩
theorem aaQ:FO 259 (Tryz.f259,(gB Tryz.f259)):=⟨fun _ _ _ _=>by kernel_rfl,Tryz.func259,Tryz.call259,by kernel_rfl⟩
theorem aaR:FO 260 (Tryz.f260,(gB Tryz.f260)):=⟨fun _ _ _ _=>by kernel_rfl,Tryz.func260,Tryz.call260,by kernel_rfl⟩
theorem aaS:FO 261 (Tryz.f261,(gB Tryz.f261)):=⟨fun _ _ _ _=>by kernel_rfl,Tryz.func261,Tryz.call261,by kernel_rfl⟩
theorem aaT:FO 262 (Tryz.f262,(gB Tryz.f262)):=⟨fun _ _ _ _=>by kernel_rfl,Tryz.func262,Tryz.call262,by kernel_rfl⟩
theorem aaU:FO 263 (Tryz.f263,(gB Tryz.f263)):=⟨fun _ _ _ _=>by kernel_rfl,Tryz.func263,Tryz.call263,by kernel_rfl⟩
theorem aaV:FO 269 (Tryz.f269,(nS Tryz.f269 59)):=⟨fun _ _ _ _=>by kernel_rfl,Tryz.func269,Tryz.call269,by kernel_rfl⟩
theorem aaW:FO 270 (Tryz.f270,(nS Tryz.f270 60)):=⟨fun _ _ _ _=>by kernel_rfl,Tryz.func270,Tryz.call270,by kernel_rfl⟩
theorem aaX:FO 271 (Tryz.f271,(gB Tryz.f271)):=⟨fun _ _ _ _=>by kernel_rfl,Tryz.func271,Tryz.call271,by kernel_rfl⟩
theorem aaY:FO 272 (Tryz.f272,(nS Tryz.f272 61)):=⟨fun _ _ _ _=>by kernel_rfl,Tryz.func272,Tryz.call272,by kernel_rfl⟩
theorem aaZ:FO 273 (Tryz.f273,(nS Tryz.f273 62)):=⟨fun _ _ _ _=>by kernel_rfl,Tryz.func273,Tryz.call273,by kernel_rfl⟩
theorem aa_:FO 274 (Tryz.f274,(gB Tryz.f274)):=⟨fun _ _ _ _=>by kernel_rfl,Tryz.func274,Tryz.call274,by kernel_rfl⟩
theorem aba:FO 275 (Tryz.f275,(gB Tryz.f275)):=⟨fun _ _ _ _=>by kernel_rfl,Tryz.func275,Tryz.call275,by kernel_rfl⟩
theorem abb:FO 276 (Tryz.f276,(gB Tryz.f276)):=⟨fun _ _ _ _=>by kernel_rfl,Tryz.func276,Tryz.call276,by kernel_rfl⟩
theorem abc:FO 287 (Tryz.f287,(gB Tryz.f287)):=⟨fun _ _ _ _=>by kernel_rfl,Tryz.func287,Tryz.call287,by kernel_rfl⟩
theorem abd:FO 288 (Tryz.f288,(gB Tryz.f288)):=⟨fun _ _ _ _=>by kernel_rfl,Tryz.func288,Tryz.call288,by kernel_rfl⟩
theorem abe:FO 291 (Tryz.f291,(nS Tryz.f291 63)):=⟨fun _ _ _ _=>by kernel_rfl,Tryz.func291,Tryz.call291,by kernel_rfl⟩
theorem l0:LO d0:=fun _ _ _ _=>by kernel_rfl
theorem l1:LO d1:=fun _ _ _ _=>by kernel_rfl
theorem l2:LO d2:=fun _ _ _ _=>by kernel_rfl
theorem l3:LO d3:=fun _ _ _ _=>by kernel_rfl
theorem l4:LO d4:=fun _ _ _ _=>by kernel_rfl
theorem l5:LO d5:=fun _ _ _ _=>by kernel_rfl
theorem l6:LO d6:=fun _ _ _ _=>by kernel_rfl
theorem l7:LO d7:=fun _ _ _ _=>by kernel_rfl
theorem l8:LO d8:=fun _ _ _ _=>by kernel_rfl
theorem l9:LO d9:=fun _ _ _ _=>by kernel_rfl
theorem l10:LO d10:=fun _ _ _ _=>by kernel_rfl
theorem l11:LO d11:=fun _ _ _ _=>by kernel_rfl
theorem YK:LO d12:=fun _ _ _ _=>by kernel_rfl
theorem l13:LO d13:=fun _ _ _ _=>by kernel_rfl
theorem l14:LO d14:=fun _ _ _ _=>by kernel_rfl
theorem l15:LO d15:=fun _ _ _ _=>by kernel_rfl
theorem l16:LO d16:=fun _ _ _ _=>by kernel_rfl
theorem Xn:LO d17:=fun _ _ _ _=>by kernel_rfl
theorem l18:LO d18:=fun _ _ _ _=>by kernel_rfl
theorem l19:LO d19:=fun _ _ _ _=>by kernel_rfl
theorem l20:LO d20:=fun _ _ _ _=>by kernel_rfl
theorem l21:LO d21:=fun _ _ _ _=>by kernel_rfl
theorem l22:LO d22:=fun _ _ _ _=>by kernel_rfl
theorem l23:LO d23:=fun _ _ _ _=>by kernel_rfl
theorem l24:LO d24:=fun _ _ _ _=>by kernel_rfl
theorem l25:LO d25:=fun _ _ _ _=>by kernel_rfl
theorem l26:LO d26:=fun _ _ _ _=>by kernel_rfl
theorem l27:LO d27:=fun _ _ _ _=>by kernel_rfl
theorem l28:LO d28:=fun _ _ _ _=>by kernel_rfl
theorem l29:LO d29:=fun _ _ _ _=>by kernel_rfl
theorem l30:LO d30:=fun _ _ _ _=>by kernel_rfl
theorem l31:LO d31:=fun _ _ _ _=>by kernel_rfl
theorem l32:LO d32:=fun _ _ _ _=>by kernel_rfl
theorem l33:LO d33:=fun _ _ _ _=>by kernel_rfl
theorem l34:LO d34:=fun _ _ _ _=>by kernel_rfl
theorem l35:LO d35:=fun _ _ _ _=>by kernel_rfl
theorem l36:LO d36:=fun _ _ _ _=>by kernel_rfl
theorem l37:LO d37:=fun _ _ _ _=>by kernel_rfl
theorem l38:LO d38:=fun _ _ _ _=>by kernel_rfl
theorem l39:LO d39:=fun _ _ _ _=>by kernel_rfl
theorem l40:LO d40:=fun _ _ _ _=>by kernel_rfl
theorem l41:LO d41:=fun _ _ _ _=>by kernel_rfl
theorem l42:LO d42:=fun _ _ _ _=>by kernel_rfl
theorem l43:LO d43:=fun _ _ _ _=>by kernel_rfl
theorem l44:LO d44:=fun _ _ _ _=>by kernel_rfl
theorem l45:LO d45:=fun _ _ _ _=>by kernel_rfl
theorem l46:LO d46:=fun _ _ _ _=>by kernel_rfl
theorem l47:LO d47:=fun _ _ _ _=>by kernel_rfl
theorem l48:LO d48:=fun _ _ _ _=>by kernel_rfl
theorem l49:LO d49:=fun _ _ _ _=>by kernel_rfl
theorem l50:LO d50:=fun _ _ _ _=>by kernel_rfl
theorem l51:LO d51:=fun _ _ _ _=>by kernel_rfl
theorem l52:LO d52:=fun _ _ _ _=>by kernel_rfl
theorem l53:LO d53:=fun _ _ _ _=>by kernel_rfl
theorem l54:LO d54:=fun _ _ _ _=>by kernel_rfl
theorem l55:LO d55:=fun _ _ _ _=>by kernel_rfl
theorem l56:LO d56:=fun _ _ _ _=>by kernel_rfl
theorem l57:LO d57:=fun _ _ _ _=>by kernel_rfl
theorem l58:LO d58:=fun _ _ _ _=>by kernel_rfl
theorem l59:LO d59:=fun _ _ _ _=>by kernel_rfl
theorem l60:LO d60:=fun _ _ _ _=>by kernel_rfl
theorem l61:LO d61:=fun _ _ _ _=>by kernel_rfl
theorem l62:LO d62:=fun _ _ _ _=>by kernel_rfl
theorem l63:LO d63:=fun _ _ _ _=>by kernel_rfl
theorem Hj {f:Nat} {e:Func×eH}:Nn f=some e->FO f e:=(rN (rN (rN (rN (rN (rN (rN (rL e11) (rL e13)) (rN (rL e17) (rL e21))) (rN (rN (rL e25) (rL e30)) (rN (rL e44) (rL e46)))) (rN (rN (rN (rL e49) (rL e59)) (rN (rL e60) (rL e61))) (rN (rN (rL e62) (rL e67)) (rN (rL e71) (rN (rL e72) (rL e73)))))) (rN (rN (rN (rN (rL e74) (rL e77)) (rN (rL e79) (rL e80))) (rN (rN (rL e82) (rL e84)) (rN (rL e85) (rN (rL e91) (rL YW))))) (rN (rN (rN (rL YX) (rL YY)) (rN (rL YZ) (rL Y_))) (rN (rN (rL Za) (rL Zb)) (rN (rL Zc) (rN (rL Zd) (rL Ze))))))) (rN (rN (rN (rN (rN (rL Zf) (rL Zg)) (rN (rL Zh) (rL Zi))) (rN (rN (rL Zj) (rL Zk)) (rN (rL Zl) (rL Zm)))) (rN (rN (rN (rL Zn) (rL Zo)) (rN (rL Zp) (rL Zq))) (rN (rN (rL Zr) (rL Zs)) (rN (rL Zt) (rN (rL Zu) (rL Zv)))))) (rN (rN (rN (rN (rL Zw) (rL Zx)) (rN (rL Zy) (rL Zz))) (rN (rN (rL ZA) (rL ZB)) (rN (rL ZC) (rN (rL ZD) (rL ZE))))) (rN (rN (rN (rL ZF) (rL ZG)) (rN (rL ZH) (rL ZI))) (rN (rN (rL ZJ) (rL ZK)) (rN (rL ZL) (rN (rL ZM) (rL ZN)))))))) (rN (rN (rN (rN (rN (rN (rL ZO) (rL ZP)) (rN (rL ZQ) (rL ZR))) (rN (rN (rL ZS) (rL ZT)) (rN (rL ZU) (rL ZV)))) (rN (rN (rN (rL ZW) (rL ZX)) (rN (rL ZY) (rL ZZ))) (rN (rN (rL Z_) (rL aaa)) (rN (rL aab) (rN (rL aac) (rL aad)))))) (rN (rN (rN (rN (rL aae) (rL aaf)) (rN (rL aag) (rL aah))) (rN (rN (rL aai) (rL aaj)) (rN (rL aak) (rN (rL aal) (rL aam))))) (rN (rN (rN (rL aan) (rL aao)) (rN (rL aap) (rL aaq))) (rN (rN (rL aar) (rL aas)) (rN (rL aat) (rN (rL aau) (rL aav))))))) (rN (rN (rN (rN (rN (rL aaw) (rL aax)) (rN (rL aay) (rL aaz))) (rN (rN (rL aaA) (rL aaB)) (rN (rL aaC) (rN (rL aaD) (rL aaE))))) (rN (rN (rN (rL aaF) (rL aaG)) (rN (rL aaH) (rL aaI))) (rN (rN (rL aaJ) (rL aaK)) (rN (rL aaL) (rN (rL aaM) (rL aaN)))))) (rN (rN (rN (rN (rL aaO) (rL aaP)) (rN (rL aaQ) (rL aaR))) (rN (rN (rL aaS) (rL aaT)) (rN (rL aaU) (rN (rL aaV) (rL aaW))))) (rN (rN (rN (rL aaX) (rL aaY)) (rN (rL aaZ) (rL aa_))) (rN (rN (rL aba) (rL abb)) (rN (rL abc) (rN (rL abd) (rL abe)))))))))
theorem RR {f:Nat} {e:(Code×Cx)×eH}:Vl f=some e->LO e:=(rN (rN (rN (rN (rN (rN (rL (R:=fun _=>LO) l0) (rL (R:=fun _=>LO) l1)) (rN (rL (R:=fun _=>LO) l2) (rL (R:=fun _=>LO) l3))) (rN (rN (rL (R:=fun _=>LO) l4) (rL (R:=fun _=>LO) l5)) (rN (rL (R:=fun _=>LO) l6) (rL (R:=fun _=>LO) l7)))) (rN (rN (rN (rL (R:=fun _=>LO) l8) (rL (R:=fun _=>LO) l9)) (rN (rL (R:=fun _=>LO) l10) (rL (R:=fun _=>LO) l11))) (rN (rN (rL (R:=fun _=>LO) YK) (rL (R:=fun _=>LO) l13)) (rN (rL (R:=fun _=>LO) l14) (rL (R:=fun _=>LO) l15))))) (rN (rN (rN (rN (rL (R:=fun _=>LO) l16) (rL (R:=fun _=>LO) Xn)) (rN (rL (R:=fun _=>LO) l18) (rL (R:=fun _=>LO) l19))) (rN (rN (rL (R:=fun _=>LO) l20) (rL (R:=fun _=>LO) l21)) (rN (rL (R:=fun _=>LO) l22) (rL (R:=fun _=>LO) l23)))) (rN (rN (rN (rL (R:=fun _=>LO) l24) (rL (R:=fun _=>LO) l25)) (rN (rL (R:=fun _=>LO) l26) (rL (R:=fun _=>LO) l27))) (rN (rN (rL (R:=fun _=>LO) l28) (rL (R:=fun _=>LO) l29)) (rN (rL (R:=fun _=>LO) l30) (rL (R:=fun _=>LO) l31)))))) (rN (rN (rN (rN (rN (rL (R:=fun _=>LO) l32) (rL (R:=fun _=>LO) l33)) (rN (rL (R:=fun _=>LO) l34) (rL (R:=fun _=>LO) l35))) (rN (rN (rL (R:=fun _=>LO) l36) (rL (R:=fun _=>LO) l37)) (rN (rL (R:=fun _=>LO) l38) (rL (R:=fun _=>LO) l39)))) (rN (rN (rN (rL (R:=fun _=>LO) l40) (rL (R:=fun _=>LO) l41)) (rN (rL (R:=fun _=>LO) l42) (rL (R:=fun _=>LO) l43))) (rN (rN (rL (R:=fun _=>LO) l44) (rL (R:=fun _=>LO) l45)) (rN (rL (R:=fun _=>LO) l46) (rL (R:=fun _=>LO) l47))))) (rN (rN (rN (rN (rL (R:=fun _=>LO) l48) (rL (R:=fun _=>LO) l49)) (rN (rL (R:=fun _=>LO) l50) (rL (R:=fun _=>LO) l51))) (rN (rN (rL (R:=fun _=>LO) l52) (rL (R:=fun _=>LO) l53)) (rN (rL (R:=fun _=>LO) l54) (rL (R:=fun _=>LO) l55)))) (rN (rN (rN (rL (R:=fun _=>LO) l56) (rL (R:=fun _=>LO) l57)) (rN (rL (R:=fun _=>LO) l58) (rL (R:=fun _=>LO) l59))) (rN (rN (rL (R:=fun _=>LO) l60) (rL (R:=fun _=>LO) l61)) (rN (rL (R:=fun _=>LO) l62) (rL (R:=fun _=>LO) l63)))))))
theorem CF:EQ Dt rR:=⟨fun h=>(Hj h).1,RR⟩
theorem RQ {f:Nat} {e:Func×eH} (h:Nn f=some e):Tryz.prog.funcs[f]? = some e.1∧aN Tryz.prog f∧Xo y e.1=true:=(Hj h).2
end
end Go.Gx
end
section
namespace Go.Gx
open Go Go.Sx
section
section
variable {P:Program} {gs:tX} {w0:cV gs} {tb:TB}
theorem Jr:oB P w0 (fun _ _ _=>none):=fun f us H g H' h=>by cases h
theorem DT:CZ P w0 tb (fun _ _ _ _=>none):=fun b cx vs H out h=>by cases h
theorem Uc {ch:CH} {lp:LH} (hT:dK P tb) (hm:P.follows .mixedOrders=true) (hcall:∀w0:cV gs,oB P w0 ch) (hloop:CZ P w0 tb lp) {f:Nat} {fn:Func} {us:List GV} {H:GH} {out:IU} (h1:P.funcs[f]? = some fn) (hok:Xo tb fn=true) (h:QB tb ch lp fn us H=some out) (he:out.e = .ret) {ρ:cK} {w:World} {vs:List Value} (R:dR w0 ρ H w) (hr:lR ρ us vs):
  Calls P f vs.toArray w fun e w'=>∃v ρ',e = .returned v∧ρ.le ρ'∧dR w0 ρ' out.H w'∧Rl ρ' (OH out.vs) v:=by
 obtain⟨h3,h4⟩:=JO hok
 obtain⟨body,hb,h⟩:=aA.1 (show ob fn.body _=some out from h)
 obtain⟨σ,hσ,h⟩:=nC h
 rw[List.range_eq_range']at hσ
 have hlen:=EW hσ
 have hvl:vs.length<=fn.ntmps:=by rw[<-hr.len,hlen];exact h4
 refine oZ h1 hb ?_
 have F:iQ ρ fn.ntmps σ {tmps:=vs.toArray++Array.replicate (fn.ntmps - vs.toArray.size) undef,defers:=[]}:=by
  refine HJ rfl (by simp;omega) hr (fun j v hv=> ?_) hσ
  have hlt:=aU hv
  rw[Nat.zero_add,Array.getElem?_append_left (by simpa using hlt)]
  simpa using hv
 refine yN hT hm hcall hloop body _ _ _ ⟨σ,H⟩ out ρ _ w _ (h3 body hb) h F R ⟨fun s' ρ' a' w' hk hle' F' R'=> ?_,fun id s' ρ' a' w' hk hle' F' R'=> ?_,fun s' ρ' a' w' hk hle' F' R'=> ?_⟩
 ·obtain⟨e1,v,hv,hres⟩:=CE (fn:=fn) hT rfl F' R' hk
  exact Sx.body_end (.inr rfl) F'.defers hres ⟨v,ρ',rfl,hle',by rw[e1];exact R',hv⟩
 ·have:=vH hk
  rw[he]at this;cases this
 ·obtain⟨e1,v,hv,hres⟩:=CE (fn:=fn) hT rfl F' R' hk
  exact Sx.body_end (.inl rfl) F'.defers hres ⟨v,ρ',rfl,hle',by rw[e1];exact R',hv⟩
noncomputable def GM (tb:TB) (f:Nat) (fn:Func):CH:=fun g us H=>bif Nat.beq g f then Hi (QB tb (fun _ _ _=>none) (fun _ _ _ _=>none) fn us H)else none
theorem Qi (hT:dK P tb) (hm:P.follows .mixedOrders=true) {f:Nat} {fn:Func} (h1:P.funcs[f]? = some fn) (hb:aN P f) (hok:Xo tb fn=true):oB P w0 (GM tb f fn):=fun g us H x H' h ρ w vs R hr=>by
 unfold GM at h
 cases h2:Nat.beq g f with
 |false=>rw[h2]at h;cases h
 |true=>
 rw[h2]at h
 have h2:=Nat.eq_of_beq_eq_true h2
 subst h2
 replace h:Hi (QB tb (fun _ _ _=>none) (fun _ _ _ _=>none) fn us H)=some (x,H'):=h
 unfold Hi at h
 obtain⟨o,h3,h4⟩:=aA.1 h
 cases he:o.e with
 |normal=>rw[he]at h4;cases h4
 |exit id=>rw[he]at h4;cases h4
 |ret=>
  rw[he]at h4;cases h4
  exact .inr ⟨hb _ w,Uc hT hm (fun _=>Jr) DT h1 hok h3 he R hr⟩
theorem OY {id:Nat} {o:Oper} {l:List Oper} {Q:Exit->Act->List Frame->World->Prop} {a:Act} {cs:List Frame} {w:World} (hnd:l.all gK=true) (hg:o.guard=none) (hrun:(execOp a.eval o).run P w = .ok .recover w)
  (hrec:recoverD cs=none) (h:Sx.wpList P (o::l).toArray (fun e a' w'=>Q e a' cs w') l (a.put o.dst .nilIface) w):(Code.region id (o::l).toArray false).wpSIn (FR none) 0 P Q a cs w:=by
 intro b k hb hro hF hroom
 have ho:(o::l).toArray[0]? = some o:=by simp
 obtain⟨e,a',w',hq,harr⟩:=wp_opsIn (F:=FR none) (n:=0) (Q:=fun e a' w'=>Q e a' cs w') (ops:=(o::l).toArray) (List.range' 1 l.length) (a.put o.dst .nilIface) w
  (by rw[wpOpsIn_eq_wpListIn l 1 (by intro j;simp[Nat.add_comm 1 j])];exact Sx.wpList_in l _ w hnd h) b k cs hro hF hroom
 have hw:Region.wanted o (yielded (o::l).toArray a.tmps)=true:=by simp[Region.wanted,hg]
 have h0:(lone (b.atR a (.inRegion (o::l).toArray (0::List.range' 1 l.length)::k)) cs w).fenced P (FR none):=fenced_oper hF hroom ho (fun _ _=>trivial)
 have hg':=stepGR_op (P:=P) (b:=b) (k:=k) (cs:=cs) (w:=w) (rest:=List.range' 1 l.length) ho hw
 rw[hro,Oper.semAt_none]at hg'
 have hfin:∀v,(b.atR a (.inRegion (o::l).toArray (0::List.range' 1 l.length)::k)).finish v=b.atR (a.put o.dst v) (.inRegion (o::l).toArray (List.range' 1 l.length)::k):=by
  intro v;rw[Frame.finish_atR,ho];rfl
 have hk:(b.atR a (.inRegion (o::l).toArray (0::List.range' 1 l.length)::k)).kind = .deferred:=hb
 have htr:=tryRecover_deferred hk cs
 have hr:List.range (o::l).toArray.size=0::List.range' 1 l.length:=by simp[List.range_eq_range',List.range'_succ]
 have hs:=stepR_region (P:=P) (b:=b) (a:=a) (k:=k) (cs:=cs) (w:=w) (id:=id) (ops:=(o::l).toArray)
 rw[hr]at hs
 refine⟨e,a',cs,w',rfl,hq,.of_steps (.head (fenced_calm hF hroom rfl) hs (.one h0 (step_lone_go ?_))) harr⟩
 rw[hg',<-hfin]
 simp only[Frame.atR,hro]at htr ⊢
 simp[stepG.apply,hrun,htr,hrec]
theorem N_ {ch:CH} {lp:LH} (hT:dK P tb) (hm:P.follows .mixedOrders=true) {f:Nat} {fn:Func} {id m d:Nat} {o:Oper} {l:List Oper} {rest:Code} {cx:Cx} {out:IU} {args:Array Value} {w:World}
  (hcall:∀w0:cV WN,oB P w0 ch) (hloop:CZ P (cV.one w) tb lp) (hf:P.funcs[f]? = some fn) (hb:fn.body=some (.seq (.region id (o::l).toArray false) rest)) (hg:o.guard=none) (hd:o.dst=some d) (hdn:d<fn.ntmps)
  (hrun:∀ρ w,(execOp ρ o).run P w = .ok .recover w) (hl:l.all (Dp fn.ntmps)=true) (hr:CW tb fn.ntmps rest=true) (hres:fn.results = #[]) (hsz:args.size<=fn.ntmps)
  (h:Bh tb ch (o::l) (Ub tb ch lp rest m cx (CC [])) l ⟨[(d,.inil)],H0⟩=some out) (he:out.e = .normal):
  CallsDIn (FR none) 0 P f args .returning w fun e u' w'=>∃v,e = .returned v∧u' = .returning∧Hy w w':=by
 have hnd:l.all gK=true:=List.all_eq_true.2 fun o hmo=>(pH (List.all_eq_true.1 hl o hmo)).1
 refine callsDIn_of_wpSIn hf hb trivial fun c₀ cs hu=> ?_
 have hrec:recoverD (c₀::cs)=none:=by simp[recoverD,hu]
 refine wpSIn_seq (OY hnd hg (hrun _ _) hrec ?_)
 have F:iQ (fun _=>none) fn.ntmps [(d,.inil)] (({tmps:=args++Array.replicate (fn.ntmps - args.size) undef,defers:=[]}:Act).put o.dst .nilIface):=by
  rw[hd]
  refine iQ.put ⟨rfl,by simp;omega,fun t g hg=>(by cases hg)⟩ hdn ?_
  exact .inil
 refine Cn hT (hcall (cV.one w)) l ⟨[(d,.inil)],H0⟩ _ _ w hl F (dR.start (cV.one w) rfl) h fun s' ρ' a' w' hk hle' F' R'=> ?_
 refine wpSIn_of_wpIn rfl ?_
 refine yN hT hm hcall hloop rest _ _ _ s' out ρ' a' w' _ hr hk F' R' ⟨fun s2 ρ2 a2 w2 hk2 hle2 F2 R2=> ?_,fun id s2 ρ2 a2 w2 hk2 hle2 F2 R2=> ?_,fun s2 ρ2 a2 w2 hk2 hle2 F2 R2=> ?_⟩
 ·refine⟨F2.defers,c₀.mode,rfl,.tuple #[],?_,_,rfl,hu,R2.ext.ext⟩
  simp[results,hres]
 ·have:=vH hk2
  rw[he]at this;cases this
 ·have:=Im hk2
  rw[he]at this;cases this
theorem EI {o:Oper} {l:List Oper} {ops:Array Oper} {Q:Exit->Act->World->Prop} {a:Act} {w w':World} {v:Value} (hg:o.guard=none) (hr:(execOp a.eval o).run P w = .ok (.value v) w') (h:Sx.wpList P ops Q l (a.put o.dst v) w'):Sx.wpList P ops Q (o::l) a w:=by
 unfold Sx.wpList
 rw[if_pos (by simp[Region.wanted,hg])]
 exact .inl (by simp only[Oper.wp,hr,Oper.upon];exact h)
theorem KE {o:Oper} {l:List Oper} {ops:Array Oper} {Q:Exit->Act->World->Prop} {a:Act} {w w':World} (hg:o.guard=none) (hr:(execOp a.eval o).run P w = .ok .skip w') (h:Sx.wpList P ops Q l (a.put o.dst undef) w'):Sx.wpList P ops Q (o::l) a w:=by
 unfold Sx.wpList
 rw[if_pos (by simp[Region.wanted,hg])]
 exact .inl (by simp only[Oper.wp,hr,Oper.upon];exact h)
theorem OZ {o:Oper} {l:List Oper} {ops:Array Oper} {Q:Exit->Act->World->Prop} {a:Act} {w:World} {f:Nat} {args:Array Value} {S:Value->World->Prop} (hg:o.guard=none) (hr:(execOp a.eval o).run P w = .ok (.enter f args) w)
  (hc:Calls P f args w fun e w'=>∃v,e = .returned v∧S v w') (h:∀v w',S v w'->Sx.wpList P ops Q l (a.put o.dst v) w'):Sx.wpList P ops Q (o::l) a w:=by
 unfold Sx.wpList
 rw[if_pos (by simp[Region.wanted,hg])]
 refine .inl ?_
 simp only[Oper.wp,hr,Oper.upon]
 refine hc.mono ?_
 rintro e w' ⟨v,rfl,hs⟩
 exact h v w' hs
theorem We (hT:dK P tb) {c cc T1 T2 i0 i1 i2 i3 y0 y1 y2 y3 y4 y5 y6 y7:Nat} {p0 p1 p2 p3 p4 p5 p6 p7:String} {e0 e1 e2 e3 e4 e5 e6 e7:Array Edge} {fn:Func} (hf:P.funcs[c]? = some fn) (hbd:aN P c) (hcc:aN P cc)
  (hb:fn.body=some (.seq (.region i0 #[⟨some 2,.alloc T1,y0,p0,e0,none⟩,⟨some 3,.alloc T2,y1,p1,e1,none⟩] false)
   (.seq (.region i1 #[⟨some 4,.makeFunc (.func cc) #[] #[.tmp 2,.tmp 3],y2,p2,e2,none⟩,⟨none,.defer ⟨.value (.tmp 4),#[],#[]⟩,y3,p3,e3,none⟩] false)
   (.seq (.region i2 #[⟨some 5,.move (.tmp 0),y4,p4,e4,none⟩,⟨some 6,.call ⟨.value (.tmp 5),#[],#[]⟩,y5,p5,e5,none⟩] false)
   (.seq (.region i3 #[⟨none,.store T1 (.tmp 2) (.const (.int .i64 0)),y6,p6,e6,none⟩,⟨none,.store T2 (.tmp 3) (.const (.int .i64 0)),y7,p7,e7,none⟩] false) .ret)))))
  (hn:fn.ntmps=7) (hres:fn.results = #[.cell 2 T1,.cell 3 T2])
  (hA1:∀H,rH tb T1 H=some (.ptr H.n 0,H.new (.cells [sQ]))) (hA2:∀H,rH tb T2 H=some (.ptr H.n 0,H.new (.cells [sQ])))
  (hS1:∀H h c,GH.cells H h=some [c]->oV tb T1 (.ptr h 0) sQ H=some (.un,H.set h (.cells [sQ]))) (hS2:∀H h c,GH.cells H h=some [c]->oV tb T2 (.ptr h 0) sQ H=some (.un,H.set h (.cells [sQ])))
  (hL1:∀H h,GH.cells H h=some [sQ]->sO tb T1 (.ptr h 0) H=some sQ) (hL2:∀H h,GH.cells H h=some [sQ]->sO tb T2 (.ptr h 0) H=some sQ)
  (hdef:∀args w,args.size=2->CallsDIn (FR none) 0 P cc args .returning w fun e u' w'=>∃v,e = .returned v∧u' = .returning∧Hy w w')
  {ρ:cK} {g:Nat} {us cs:List Value} {w:World} {H H':GH} {c1 c2:GV} (R:dR w0 ρ H w) (hc:∀ρ' w',ρ.le ρ'->dR w0 ρ' ((H.new (.cells [sQ])).new (.cells [sQ])) w'->∃x,iP P w0 ρ' g (us++cs) w' x H') (h1:H'.cells H.n=some [c1]) (h2:H'.cells (H.n+1)=some [c2]):
  iP P w0 ρ c [.func (.func g) us.toArray cs.toArray] w (.tup [sQ,sQ]) ((((H'.set H.n (.cells [sQ])).set (H.n+1) (.cells [sQ])).del H.n).del (H.n+1)):=by
 refine .inr ⟨hbd _ w,?_⟩
 refine Js (r:=none) (n:=0) (callsIn_of_wp_defers hf hb trivial ?_)
 rw[hn]
 obtain⟨v1,w1,ρ1,hr1,hle1,R1,hv1⟩:=Dy (P:=P) hT R (hA1 H)
 obtain⟨v2,w2,ρ2,hr2,hle2,R2,hv2⟩:=Dy (P:=P) hT R1 (hA2 _)
 obtain⟨x,hx⟩:=hc ρ2 w2 (cK.le_trans hle1 hle2) R2
 refine wpIn_seq (oW rfl ?_)
 refine EI rfl (v:=v1) (w':=w1) (by simp[execOp,hr1]) ?_
 refine EI rfl (v:=v2) (w':=w2) (by simp[execOp,hr2]) ?_
 show Code.wpIn (FR none) 0 P _ _ (⟨#[.func (.func g) us.toArray cs.toArray,undef,v1,v2,undef,undef,undef],[]⟩:Act) w2
 refine wpIn_seq (wpIn_region_lit ?_)
 refine wpListIn_plain rfl fun K hK=>⟨fun _ _=>trivial,?_⟩
 have hm:(Oper.semAt (FR none).round (⟨#[.func (.func g) us.toArray cs.toArray,undef,v1,v2,undef,undef,undef],[]⟩:Act).eval ⟨some 4,.makeFunc (.func cc) #[] #[.tmp 2,.tmp 3],y2,p2,e2,none⟩).run P w2 = .ok (.value (.func (.func cc) #[] #[v1,v2])) w2:=by
  rw[show(FR none).round=none from rfl,Oper.semAt_none]
  simp[execOp,Instr.makeFunc,Act.eval]
 rw[hm]
 refine hK _ _ ?_
 show wpListIn _ _ _ _ _ _ (⟨#[.func (.func g) us.toArray cs.toArray,undef,v1,v2,.func (.func cc) #[] #[v1,v2],undef,undef],[]⟩:Act) w2
 refine wpListIn_plain rfl fun K hK=>⟨fun _ _=>trivial,?_⟩
 have hm:(Oper.semAt (FR none).round (⟨#[.func (.func g) us.toArray cs.toArray,undef,v1,v2,.func (.func cc) #[] #[v1,v2],undef,undef],[]⟩:Act).eval ⟨none,.defer ⟨.value (.tmp 4),#[],#[]⟩,y3,p3,e3,none⟩).run P w2 = .ok (.defer ⟨.fn (.func cc) #[v1,v2],#[]⟩) w2:=by
  rw[show(FR none).round=none from rfl,Oper.semAt_none]
  simp[execOp,resolve,Act.eval,Deferred.ofValue]
 rw[hm]
 refine hK _ _ ?_
 show Code.wpIn (FR none) 0 P _ _ (⟨#[.func (.func g) us.toArray cs.toArray,undef,v1,v2,.func (.func cc) #[] #[v1,v2],undef,undef],[⟨.fn (.func cc) #[v1,v2],#[]⟩]⟩:Act) w2
 refine wpIn_seq (oW rfl ?_)
 refine EI rfl (v:= .func (.func g) us.toArray cs.toArray) (w':=w2) (by simp[execOp,Act.eval]) ?_
 show Sx.wpList _ _ _ _ (⟨#[.func (.func g) us.toArray cs.toArray,undef,v1,v2,.func (.func cc) #[] #[v1,v2],.func (.func g) us.toArray cs.toArray,undef],[⟨.fn (.func cc) #[v1,v2],#[]⟩]⟩:Act) w2
 have go:∀v w3 ρ3,ρ2.le ρ3->dR w0 ρ3 H' w3->Code.wpIn (FR none) 0 P (.seq (.region i3 #[⟨none,.store T1 (.tmp 2) (.const (.int .i64 0)),y6,p6,e6,none⟩,⟨none,.store T2 (.tmp 3) (.const (.int .i64 0)),y7,p7,e7,none⟩] false) .ret) (bodyPostDIn (FR none) 0 P fn fun e w'=>∃v ρ',e = .returned v∧ρ.le ρ'∧dR w0 ρ' ((((H'.set H.n (.cells [sQ])).set (H.n+1) (.cells [sQ])).del H.n).del (H.n+1)) w'∧Rl ρ' (.tup [sQ,sQ]) v) (⟨#[.func (.func g) us.toArray cs.toArray,undef,v1,v2,.func (.func cc) #[] #[v1,v2],.func (.func g) us.toArray cs.toArray,v],[⟨.fn (.func cc) #[v1,v2],#[]⟩]⟩:Act) w3:=by
  intro v w3 ρ3 hle3 R3
  have hz:∀ρ,Rl ρ sQ (.int .i64 0):=fun ρ=> .int _ _
  obtain⟨_,w4,ρ4,hr4,hle4,R4⟩:=DC (P:=P) (T:=T1) hT R3 ((hv1.le hle2).le hle3) (hz _) (hS1 _ _ _ h1)
  have h2':(H'.set H.n (.cells [sQ])).cells (H.n+1)=some [c2]:=by
   rw[fH]at h2 ⊢
   rw[oC,if_neg (by omega)];exact h2
  obtain⟨_,w5,ρ5,hr5,hle5,R5⟩:=DC (P:=P) (T:=T2) hT R4 ((hv2.le hle3).le hle4) (hz _) (hS2 _ _ _ h2')
  refine wpIn_seq (oW rfl ?_)
  refine KE rfl (w':=w4) (by simp[execOp,Act.eval,hr4]) ?_
  refine KE rfl (w':=w5) (by simp[execOp,Act.eval,Act.put,hr5]) ?_
  refine wpIn_ret ?_
  show LeavesIn (FR none) 0 P fn #[.func (.func g) us.toArray cs.toArray,undef,v1,v2,.func (.func cc) #[] #[v1,v2],.func (.func g) us.toArray cs.toArray,v] _ [⟨.fn (.func cc) #[v1,v2],#[]⟩] .returning w5
  refine leavesIn_cons (f:=cc) (args:= #[v1,v2]) (by simp) (by simp[FR,Fence.wide]) (by simp[invoke,hcc _ w5]) (fun _ _=>trivial) ?_
  refine(hdef #[v1,v2] w5 rfl).mono ?_
  rintro e u' w6 ⟨x6,rfl,rfl,hext⟩
  have R6:=R5.ext' hext
  have F:iQ ρ5 7 [(2,.ptr H.n 0),(3,.ptr (H.n+1) 0)] (⟨#[.func (.func g) us.toArray cs.toArray,undef,v1,v2,.func (.func cc) #[] #[v1,v2],.func (.func g) us.toArray cs.toArray,v],[]⟩:Act):=by
   refine⟨rfl,rfl,fun t g hg=> ?_⟩
   rw[vR]at hg
   by_cases h2:t=2
   ·rw[if_pos h2]at hg;cases hg;rw[h2]
    exact(((hv1.le hle2).le hle3).le hle4).le hle5
   ·rw[if_neg h2,vR]at hg
    by_cases h3:t=3
    ·rw[if_pos h3]at hg;cases hg;rw[h3]
     exact((hv2.le hle3).le hle4).le hle5
    ·rw[if_neg h3]at hg;cases hg
  have hres':LQ tb ⟨fn.results.toList,0,[]⟩ ⟨[(2,.ptr H.n 0),(3,.ptr (H.n+1) 0)],(H'.set H.n (.cells [sQ])).set (H.n+1) (.cells [sQ])⟩=some ⟨.ret,[sQ,sQ],(H'.set H.n (.cells [sQ])).set (H.n+1) (.cells [sQ])⟩:=by
   rw[hres]
   have q1:sO tb T1 (.ptr H.n 0) ((H'.set H.n (.cells [sQ])).set (H.n+1) (.cells [sQ]))=some sQ:=hL1 _ _ (by rw[fH,oC,if_neg (by omega),oC,if_pos rfl])
   have q2:sO tb T2 (.ptr (H.n+1) 0) ((H'.set H.n (.cells [sQ])).set (H.n+1) (.cells [sQ]))=some sQ:=hL2 _ _ (by rw[fH,oC,if_pos rfl])
   show ob (ob (sO tb T1 (.ptr H.n 0) _) fun v=>ob (ob (sO tb T2 (.ptr (H.n+1) 0) _) fun v=>ob (some []) fun vs=>some (v::vs)) fun vs=>some (v::vs)) _=_
   rw[q1,q2];rfl
  obtain⟨_,v6,hv6,hr6⟩:=CE (fn:=fn) (P:=P) hT rfl F R6 hres'
  exact⟨v6,hr6,v6,ρ5,rfl,cK.le_trans hle1 (cK.le_trans hle2 (cK.le_trans hle3 (cK.le_trans hle4 hle5))),(R6.del _).del _,hv6⟩
 rcases hx with⟨v,w3,ρ3,hr,hle3,R3,_⟩|⟨hr,hcalls⟩
 ·refine EI rfl (v:=v) (w':=w3) (by simpa [execOp,resolve,Act.eval,Deferred.ofValue,invoke]using hr) ?_
  exact go v w3 ρ3 hle3 R3
 ·refine OZ rfl (f:=g) (args:=(us++cs).toArray) (S:=fun v w'=>∃ρ',ρ2.le ρ'∧dR w0 ρ' H' w') (by simpa [execOp,resolve,Act.eval,Deferred.ofValue,invoke]using hr) (hcalls.mono ?_) fun v w3 ⟨ρ3,hle3,R3⟩=>go v w3 ρ3 hle3 R3
  rintro e w' ⟨v,ρ',rfl,hle,R',_⟩
  exact⟨v,rfl,ρ',hle,R'⟩
end
end
section
noncomputable section
def Ly (n c:Nat) (len:Nat):Nat->Option Nat:=Nat.rec (motive:=fun _=>Nat->Option Nat) (fun _=>none) (fun _ ih i=>Bool.casesOn (motive:=fun _=>Option Nat) (Nat.beq (Nat.mod (Nat.shiftRight n (Nat.mul 8 i)) 256) c) (ih (Nat.succ i)) (some i)) len
def abm (k:IntKind):Bool:=match k with
 | .u8=>true
 |_=>false
def QN (fx:Nat) (f:Nat) (us:List GV):Option GV:=bif Nat.beq f fx then List.casesOn (motive:=fun _=>Option GV) us none (fun a r=>List.casesOn (motive:=fun _=>Option GV) r none fun c r=>List.casesOn (motive:=fun _=>Option GV) r (ob a.asStr fun s=>ob c.asI fun p=>ob (VF p.2) fun k=>
 bif abm p.1 then(bif Nat.blt k 256 then Option.casesOn (motive:=fun _=>Option GV) (Ly s.1 k s.2 0) (some (.int .i64 (.negSucc 0))) (fun i=>some (.int .i64 (.ofNat i)))else none)else none) fun _ _=>none)else none
theorem MS (x:List UInt8) (c:Nat) (hc:c<256):∀k i,i+k=x.length->(match Ly (jB x) c k i with|none=>(-1:Int)|some j=>(j:Int))=(if Lib.indexByte (x.drop i) c.toUInt8 = -1 then -1 else Lib.indexByte (x.drop i) c.toUInt8+i)
 |0,i,h=>by
  rw[List.drop_of_length_le (by omega)]
  simp[Ly,Lib.indexByte]
 | k + 1, i, h => by
  have ih:=MS x c hc k (i+1) (by omega)
  have hi:i<x.length:=by omega
  have e:Ly (jB x) c (k+1) i=Bool.casesOn (motive:=fun _=>Option Nat) (Nat.beq (Nat.mod (Nat.shiftRight (jB x) (Nat.mul 8 i)) 256) c) (Ly (jB x) c k (i+1)) (some i):=rfl
  rw[e,ML x i hi,List.drop_eq_getElem_cons hi]
  have hcc:(x[i]).toNat=c↔x[i]=c.toUInt8:=by
   rw[<-UInt8.toNat_inj]
   have:c.toUInt8.toNat=c:=by simp[Nat.toUInt8];omega
   rw[this]
  unfold Lib.indexByte
  cases hb:Nat.beq (x[i]).toNat c with
  |true=>
   have:=hcc.1 (Nat.eq_of_beq_eq_true hb)
   simp[this]
  | false =>
   have hne:¬x[i]=c.toUInt8:=fun h'=>by
    have:=hcc.2 h'
    rw[this]at hb
    simp at hb
   have hge:=Lib.indexByte_ge (x.drop (i+1)) c.toUInt8
   simp only[beq_iff_eq,hne,if_false]
   rw[ih]
   by_cases h1:Lib.indexByte (x.drop (i+1)) c.toUInt8 = -1
   ·simp[h1]
   ·rw[if_neg h1,if_neg h1,if_neg (by omega)]
    push_cast;omega
section
variable {P:Program} {gs:tX} {w0:cV gs}
theorem Uh {fx:Nat} {fn:Func} (hf:P.funcs[fx]? = some fn) (hname:(fn.name == "runtime.NumGoroutine")=false) (hb:fn.body.isNone=true) (hn:Extern.findNext fn=none) (he:Extern.find fn=some Extern.BytealgIndexByte.indexByte)
  {f:Nat} {us:List GV} {g:GV} (h:QN fx f us=some g) (ρ:cK) (w:World) (vs:List Value) (H:GH) (R:dR w0 ρ H w) (hr:lR ρ us vs):iP P w0 ρ f vs w g H:=by
 unfold QN at h
 replace h:=a_.1 h
 have h1:=Nat.eq_of_beq_eq_true h.1
 replace h:=h.2
 subst h1
 cases us with
 |nil=>cases h
 |cons a us=>
 cases us with
 |nil=>cases h
 |cons c us=>
 cases us with
 |cons _ _=>cases h
 |nil=>
 obtain⟨s,hs,h⟩:=aA.1 (show ob a.asStr _=some g from h)
 obtain⟨p,hp,h⟩:=aA.1 h
 obtain⟨k,hk,h⟩:=aA.1 h
 obtain⟨hu,h⟩:=a_.1 h
 obtain⟨hlt,h⟩:=a_.1 h
 obtain⟨v,vs,rfl,hv,hr⟩:=hr.of_cons
 obtain⟨v',vs,rfl,hv',hr⟩:=hr.of_cons
 rw[hr.of_nil]
 rw[mG hs]at hv
 rw[kY hp]at hv'
 obtain⟨S,rfl,e1,e2⟩:=hv.str_inv
 have hv':=hv'.int_inv
 subst hv'
 have hpu:p.1 = .u8:=by cases hq:p.1<;>rw[hq]at hu<;>first|rfl|cases hu
 have hk':p.2=(k:Int):=Db hk
 have hlt:k<256:=by simpa using hlt
 refine .inl ⟨.int .i64 (Lib.indexByte S.data.toList p.2.toNat.toUInt8),w,ρ,?_,cK.le_refl _,R,?_⟩
 ·rw[run_callFunc_extern hf hname hb hn he,hpu,Lib.run_indexByteString]
  rfl
 ·have key:=MS (aX S) k hlt s.2 0 (by omega)
  rw[e1]at h
  rw[List.drop_zero]at key
  have e3:Lib.indexByte S.data.toList p.2.toNat.toUInt8=(match Ly (jB (aX S)) k s.2 0 with|none=>(-1:Int)|some j=>(j:Int)):=by
   rw[key,hk']
   have:aX S=S.data.toList:=rfl
   rw[this]
   simp only[Int.toNat_natCast]
   split
   ·assumption
   ·omega
  rw[e3]
  cases hx:Ly (jB (aX S)) k s.2 0 with
  |none=>rw[hx]at h;cases h;exact .int _ _
  |some j=>rw[hx]at h;cases h;exact .int _ _
end
end
end
section
noncomputable section
def Wk {β:Type} (sz:Nat) (d:List GV->Option β) (n:Nat):List GV->Option (List β):=Nat.rec (motive:=fun _=>List GV->Option (List β)) (fun _=>some []) (fun _ ih cs=>ob (d (cs.take sz)) fun y=>ob (ih (cs.drop sz)) fun ys=>some (y::ys)) n
def Jx {β:Type} (H:GH) (sz:Nat) (d:List GV->Option β) (v:GV):Option (List β):=ob (o_ H sz v) fun p=>bif Nat.ble p.1 1099511627776 then Wk sz d p.1 p.2 else none
def dI (k:IntKind) (cs:List GV):Option Int:=List.casesOn (motive:=fun _=>Option Int) cs none fun c r=>List.casesOn (motive:=fun _=>Option Int) r (ob c.asI fun p=>bif decide (p.1=k)then some p.2 else none) fun _ _=>none
def dP {α β:Type} (n:Nat) (d:List GV->Option α) (e:List GV->Option β) (cs:List GV):Option (α×β):=ob (d (cs.take n)) fun x=>ob (e (cs.drop n)) fun y=>some (x,y)
def dS {β:Type} (H:GH) (sz:Nat) (d:List GV->Option β) (cs:List GV):Option (List β):=List.casesOn (motive:=fun _=>Option (List β)) cs none fun c r=>List.casesOn (motive:=fun _=>Option (List β)) r (Jx H sz d c) fun _ _=>none
end
section
variable {P:Program} {gs:tX} {w0:cV gs} {w:World} {ρ:cK} {H:GH} {S:Nat->Prop}
def All (_:Nat):Prop:=True
def fJ {α β:Type} (S:Nat->Prop) (ρ:cK) (w:World) (d:List GV->Option β) (r:dJ α) (er:α->β):Prop:=∀gs vs y,lR ρ gs vs->d gs=some y->gs.length=r.sz->∃z,er z=y∧r.R w S vs z
theorem fJ.int (k:IntKind):fJ S ρ w (dI k) (dJ.int k) id:=fun gs vs y hr h _=>by
 cases gs with
 |nil=>cases h
 |cons c gs=>
 cases gs with
 |cons _ _=>cases h
 |nil=>
 obtain⟨p,hp,h⟩:=aA.1 (show ob c.asI _=some y from h)
 obtain⟨hk,h⟩:=a_.1 h
 cases h
 obtain⟨v,vs,rfl,hv,hr⟩:=hr.of_cons
 rw[hr.of_nil]
 rw[kY hp]at hv
 rw[hv.int_inv]
 have hk:=of_decide_eq_true hk
 exact⟨p.2,rfl,by rw[hk];rfl⟩
theorem fJ.pair {α β α' β':Type} {d:List GV->Option α'} {e:List GV->Option β'} {r:dJ α} {s:dJ β} {er:α->α'} {es:β->β'} (h1:fJ S ρ w d r er) (h2:fJ S ρ w e s es):fJ S ρ w (dP r.sz d e) (dJ.pair r s) (fun z=>(er z.1,es z.2)):=fun gs vs y hr h hl=>by
 obtain⟨x,hx,h⟩:=aA.1 (show ob (d (gs.take r.sz)) _=some y from h)
 obtain⟨x',hx',h⟩:=aA.1 h
 cases h
 have hl:gs.length=r.sz+s.sz:=hl
 have hv:=hr.len
 obtain⟨z,rfl,hz⟩:=h1 _ (vs.take r.sz) _ (by simpa using hr.sub 0 r.sz) hx (by simp;omega)
 obtain⟨z',rfl,hz'⟩:=h2 _ (vs.drop r.sz) _ ⟨by simp;omega,fun i g v hg hv'=>by rw[List.getElem?_drop]at hg hv';exact hr.at' _ _ _ hg hv'⟩ hx' (by simp;omega)
 exact⟨(z,z'),rfl,_,_,(List.take_append_drop r.sz vs).symm,hz,hz'⟩
theorem MK {α β:Type} {d:List GV->Option β} {r:dJ α} {er:α->β} (hd:fJ S ρ w d r er) (b:Nat):∀(n:Nat) (cs:List GV) (ns:List Value) (off:Nat) (ys:List β),Wk r.sz d n cs=some ys->lR ρ cs ns->cs.length=n*r.sz->(∀(j:Nat) x,ns[j]? = some x->w.cell? ⟨b,off+j,none⟩=some x)->
  ∃zs:List α,zs.map er=ys∧zs.length=n∧∀(i:Nat) z,zs[i]? = some z->∃es,(∀(j:Nat) e,es[j]? = some e->w.cell? ⟨b,off+(i*r.sz+j),none⟩=some e)∧r.R w S es z
 |0,cs,ns,off,ys,h,hr,hl,hc=>by
  cases h
  exact⟨[],rfl,rfl,fun i z hz=>by simp at hz⟩
 | n + 1, cs, ns, off, ys, h, hr, hl, hc => by
  obtain⟨y,hy,h⟩:=aA.1 (show ob (d (cs.take r.sz)) (fun y=>ob (Wk r.sz d n (cs.drop r.sz)) fun ys=>some (y::ys))=some ys from h)
  obtain⟨ys',hys,h⟩:=aA.1 h
  cases h
  rw[Nat.succ_mul]at hl
  have hv:=hr.len
  obtain⟨z,rfl,hz⟩:=hd _ (ns.take r.sz) _ (by simpa using hr.sub 0 r.sz) hy (by simp;omega)
  obtain⟨zs,rfl,hzl,hzs⟩:=MK hd b n (cs.drop r.sz) (ns.drop r.sz) (off+r.sz) ys' hys ⟨by simp;omega,fun i g v hg hv'=>by rw[List.getElem?_drop]at hg hv';exact hr.at' _ _ _ hg hv'⟩ (by simp;omega) (fun j x hx=>by
   rw[List.getElem?_drop]at hx
   rw[Nat.add_assoc];exact hc _ _ hx)
  refine⟨z::zs,rfl,by simp[hzl],fun i z' hz'=> ?_⟩
  cases i with
  | zero =>
   simp at hz';subst hz'
   refine⟨_,fun j e he=> ?_,hz⟩
   rw[List.getElem?_take]at he
   by_cases hj:j<r.sz
   ·rw[if_pos hj]at he
    have:=hc j e he
    simpa using this
   ·rw[if_neg hj]at he;cases he
  |succ i=>
   simp at hz'
   obtain⟨es,h1,h2⟩:=hzs i z' hz'
   refine⟨es,fun j e he=> ?_,h2⟩
   have:=h1 j e he
   rw[Nat.succ_mul]
   rw[show off+(i*r.sz+r.sz+j)=off+r.sz+(i*r.sz+j) by omega]
   exact this
theorem Jv (R:dR w0 ρ H w) {v:GV} {V:Value} {sz:Nat} {p:Nat×List GV} (hv:Rl ρ v V) (h:o_ H sz v=some p):
  p.2.length=p.1*sz∧∃a cap,V = .slice a p.1 cap∧p.1<=cap∧(p.1=0∨∃b off ns,a=some ⟨b,off,none⟩∧w0.mine b∧lR ρ p.2 ns∧∀(j:Nat) x,ns[j]? = some x->w.cell? ⟨b,off+j,none⟩=some x):=by
 obtain⟨ns,C⟩:=yM R hv h
 refine⟨by rw[C.rel.len,C.len],?_⟩
 obtain⟨base,cap,hV,hc,hh⟩:=C.val
 refine⟨base,cap,hV,hc,?_⟩
 rcases hh with⟨_,h0,_⟩|⟨A,rfl,hcell⟩
 ·exact .inl h0
 ·by_cases h0:p.1=0
  ·exact .inl h0
  ·refine .inr ?_
   unfold o_ at h
   cases hz:v.isSnil with
   |true=>rw[hz]at h;cases h;exact absurd rfl h0
   | false =>
    rw[hz]at h
    obtain⟨s,hs,h⟩:=aA.1 (show ob v.asS _=some p from h)
    rw[xA hs,hV]at hv
    obtain⟨l,cap',A',hl,e,hc',ha⟩:=hv.sl_inv
    injection e with e1 e2 e3
    injection e1 with e1
    rcases ha with ha|⟨ha,_⟩
    ·omega
    ·rw[ha]at e1
     subst e1
     have hm:w0.mine l.b:=by
      obtain⟨_,h⟩:=a_.1 h
      obtain⟨cs,hcs,_⟩:=aA.1 h
      obtain⟨l',hl',hm,_⟩:=R.live _ _ (fH.1 hcs)
      rw[hl]at hl';cases hl';exact hm
     exact⟨l.b,l.off+s.2.1,ns,rfl,hm,C.rel,fun j x hx=>by have:=hcell j x hx;rwa[cY]at this⟩
theorem AJ {α β:Type} {d:List GV->Option β} {r:dJ α} {er:α->β} (R:dR w0 ρ H w) (hS:∀k,w0.mine k->S k) (hd:fJ S ρ w d r er) {v:GV} {V:Value} {ys:List β} (hv:Rl ρ v V) (h:Jx H r.sz d v=some ys):∃zs:List α,zs.map er=ys∧HE r w S V zs:=by
 obtain⟨p,hp,h⟩:=aA.1 (show ob (o_ H r.sz v) _=some ys from h)
 obtain⟨hle,h⟩:=a_.1 h
 have hle:p.1<=1099511627776:=by simpa using hle
 obtain⟨hlen,a,cap,rfl,hc,hh⟩:=Jv R hv hp
 rcases hh with h0|⟨b,off,ns,rfl,hm,hr,hcell⟩
 ·rw[h0]at h;cases h
  exact⟨[],rfl,a,cap,by rw[h0];rfl,by simp,.inl rfl⟩
 ·obtain⟨zs,rfl,hl,hz⟩:=MK hd b p.1 p.2 ns off ys h hr hlen hcell
  exact⟨zs,rfl,some ⟨b,off,none⟩,cap,by rw[hl],by rw[hl];omega,.inr ⟨b,off,rfl,hS b hm,hz⟩⟩
theorem fJ.sl {α β:Type} {d:List GV->Option β} {r:dJ α} {er:α->β} (R:dR w0 ρ H w) (hS:∀k,w0.mine k->S k) (hd:fJ S ρ w d r er):fJ S ρ w (dS H r.sz d) (dJ.sl r) (fun z=>z.2.map er):=fun gs vs y hr h hl=>by
 cases gs with
 |nil=>cases h
 |cons c gs=>
 cases gs with
 |cons _ _=>cases h
 |nil=>
 have h:Jx H r.sz d c=some y:=h
 obtain⟨v,vs,rfl,hv,hr⟩:=hr.of_cons
 rw[hr.of_nil]
 obtain⟨zs,rfl,hz⟩:=AJ R hS hd hv h
 exact⟨(v,zs),rfl,rfl,hz⟩
end
end
section
noncomputable section
def qS {α:Type} (sz:Nat) (g:α->List GV) (xss:List (List α)):GH->List GV×GH:=List.rec (motive:=fun _=>GH->List GV×GH) (fun H=>([],H)) (fun xs _ ih H=>let r:=ih (H.new (.cells (xs.flatMap g)));(.sl H.n 0 xs.length sz::r.1,r.2)) xss
end
section
variable {P:Program} {gs:tX} {w0:cV gs} {w:World} {ρ:cK} {H:GH}
def Bd (ρ:cK) (H:GH) (B:Nat->Prop):Prop:=∀h o l,H.get h=some o->ρ h=some l->¬B l.b
theorem Bd.mono {B B':Nat->Prop} (h:Bd ρ H B) (hB:∀k,B' k->B k):Bd ρ H B':=fun a o l h1 h2 h3=>h a o l h1 h2 (hB _ h3)
theorem Bd.start (R:dR w0 ρ H w):Bd ρ H (fun k=>w.heap.size<=k):=fun h o l hg hl hb=>by
 obtain⟨l',hl',_,ho⟩:=R.live h o hg
 rw[hl]at hl';cases hl'
 have:=ho.lt
 omega
theorem Dl {α:Type} {e:dH α} {xs:List α} {cs:List GV} {v:Value} {B F:Nat->Prop} (R:dR w0 ρ H w) (A:Bd ρ H B) (hB:∀k,B k->w0.mine k) (hFB:∀k,F k->B k) (ha:AC e w F v xs) (hne:xs≠[]) (hcs:lR ρ cs (cellsOf e xs)):
  ∃ρ',ρ.le ρ'∧dR w0 ρ' (H.new (.cells cs)) w∧Rl ρ' (.sl H.n 0 xs.length e.sz) v∧Bd ρ' (H.new (.cells cs)) (fun k=>B k∧¬F k):=by
 obtain⟨_,hone,hh⟩:=ha
 rcases hh with⟨_,h0⟩|⟨b,off,cap,T,cur,rfl,hF,hb,hc,hsz,hcells⟩
 ·exact absurd h0 hne
 have hlen:(cellsOf e xs).length=xs.length*e.sz:=by
  rw[<-hcells]
  simp
  have:xs.length*e.sz<=cap*e.sz:=Nat.mul_le_mul_right _ hc
  omega
 have hle:ρ.le (ρ.upd H.n ⟨b,off,cur.size,.cells cur T (0,0),.cells cs⟩):=sX (R.fresh _ (Nat.le_refl _))
 have hcap:xs.length*e.sz<=cap*e.sz:=Nat.mul_le_mul_right _ hc
 obtain⟨_,R'⟩:=R.new (o:= .cells cs) (l:=⟨b,off,cur.size,.cells cur T (0,0),.cells cs⟩) R.ext (fun h o' l' hg hl=>⟨rfl,fun e'=>A h o' l' hg hl (by rw[e'];exact hFB _ hF)⟩) (hB _ (hFB _ hF)) ⟨cur,T,hb,rfl,by
   show off+cs.length<=cur.size
   have:=hcs.len;omega,fun i g hg=>by
   obtain⟨x,hx,hr⟩:=hcs.get hg
   refine⟨x,?_,hr.le hle,List.all_eq_true.1 hone x (List.mem_of_getElem? hx)⟩
   rw[<-hcells,List.getElem?_take]at hx
   by_cases hi:i<xs.length*e.sz
   ·rw[if_pos hi,List.getElem?_drop,Array.getElem?_toList]at hx;exact hx
   ·rw[if_neg hi]at hx;cases hx⟩ hb
 refine⟨_,hle,R',.sl (by simp[cK.upd];rfl) hc (.inr ⟨rfl,hsz⟩),fun h o l hg hl hk=> ?_⟩
 rw[mV]at hg
 by_cases e1:h=H.n
 ·rw[e1]at hl
  simp[cK.upd]at hl
  subst hl
  exact hk.2 hF
 ·rw[if_neg e1]at hg
  simp only[cK.upd,if_neg e1]at hl
  exact A h o l hg hl hk.1
theorem HU {α:Type} {e:dH α} {g:α->List GV} (hg:∀x,lR ρ (g x) (e.enc x)):∀xs:List α,lR ρ (xs.flatMap g) (cellsOf e xs)
 | []=> .nil
 |x::xs=>(hg x).append (HU hg xs)
theorem Fx {α:Type} {e:dH α} {g:α->List GV} (hg:∀ρ x,lR ρ (g x) (e.enc x)):∀(xss:List (List α)) (vs:List Value) (G:Nat->Nat->Prop) (B:Nat->Prop) (ρ:cK) (H:GH),dR w0 ρ H w->Bd ρ H B->(∀k,B k->w0.mine k)->vs.length=xss.length->
  (∀xs∈xss,xs≠[])->(∀i v xs,vs[i]? = some v->xss[i]? = some xs->AC e w (G i) v xs)->(∀i k,G i k->B k)->(∀i j k,G i k->G j k->i=j)->
  ∃ρ',ρ.le ρ'∧dR w0 ρ' (qS e.sz g xss H).2 w∧lR ρ' (qS e.sz g xss H).1 vs∧Bd ρ' (qS e.sz g xss H).2 (fun k=>B k∧∀i,¬G i k)
 | [],vs,G,B,ρ,H,R,A,hB,hl,_,h1,h2,h3=>by
  have:vs=[]:=List.eq_nil_of_length_eq_zero hl
  subst this
  exact⟨ρ,cK.le_refl _,R,.nil,A.mono fun k hk=>hk.1⟩
 |xs::xss,[],G,B,ρ,H,R,A,hB,hl,_,h1,h2,h3=>by simp at hl
 |xs::xss,v::vs,G,B,ρ,H,R,A,hB,hl,hne,h1,h2,h3=>by
  obtain⟨ρ1,hle1,R1,hv,A1⟩:=Dl R A hB (h2 0) (h1 0 v xs rfl rfl) (hne xs (by simp)) (HU (hg ρ) xs)
  obtain⟨ρ2,hle2,R2,hvs,A2⟩:=Fx hg xss vs (fun i=>G (i+1)) _ ρ1 _ R1 A1 (fun k hk=>hB k hk.1) (by simpa using hl) (fun y hy=>hne y (by simp[hy])) (fun i v' xs' hv' hx'=>h1 (i+1) v' xs' (by simpa using hv') (by simpa using hx')) (fun i k hk=>⟨h2 _ k hk,fun h0=>by have:=h3 _ _ k hk h0;omega⟩) (fun i j k hi hj=>by have:=h3 _ _ k hi hj;omega)
  refine⟨ρ2,cK.le_trans hle1 hle2,R2,.cons (hv.le hle2) hvs,A2.mono fun k hk=>⟨⟨hk.1,hk.2 0⟩,fun i=>hk.2 (i+1)⟩⟩
theorem Hh:∀vs:List Value,cellsOf dH.raw vs=vs
 | []=>rfl
 |v::vs=>by show v::cellsOf dH.raw vs=_;rw[Hh vs]
end
end
section
section
variable {P:Program} {gs:tX} {w0:cV gs} {w:World} {ρ:cK} {H:GH}
theorem BK {f:Nat} {vs:List Value} {L:List aR} {V:Value} {g:GV} (hb:aN P f) (hm:aT P f vs.toArray L (fun _:Unit=>V) (fun _ l=>l) (fun _ l=>l)) (R:dR w0 ρ H w) (hL:∀h∈L,h.p w All) (hv:∀ρ,Rl ρ g V):iP P w0 ρ f vs w g H:=by
 refine .inr ⟨hb _ w,(hm w All hL).mono ?_⟩
 rintro e w' ⟨_,rfl,t⟩
 exact⟨V,ρ,rfl,cK.le_refl _,R.ext' t.old.ext,hv _⟩
theorem Lw {α β:Type} {e:dH α} {g:α->List GV} {e':dH β} {g':β->List GV} (hg:∀ρ x,lR ρ (g x) (e.enc x)) (hg':∀ρ x,lR ρ (g' x) (e'.enc x)) {f:Nat} {vs:List Value} {L:List aR} {r:List α×List (List β)} (h1:r.1≠[]) (h2:r.2≠[]) (h3:∀xs∈r.2,xs≠[]) (hb:aN P f)
  (hm:aT P f vs.toArray L (fun x:Value×Value×List Value=>Value.agg #[x.1,x.2.1]) (fun x l=>Ar e x.1 r.1::Ar dH.raw x.2.1 x.2.2::jW e' x.2.2 r.2::l) (fun _ l=>l)) (R:dR w0 ρ H w) (hL:∀h∈L,h.p w All):
  iP P w0 ρ f vs w (.agg [.sl H.n 0 r.1.length e.sz,.sl (qS e'.sz g' r.2 (H.new (.cells (r.1.flatMap g)))).2.n 0 r.2.length 1]) ((qS e'.sz g' r.2 (H.new (.cells (r.1.flatMap g)))).2.new (.cells (qS e'.sz g' r.2 (H.new (.cells (r.1.flatMap g)))).1)):=by
 refine .inr ⟨hb _ w,(hm w All hL).mono ?_⟩
 rintro en w' ⟨x,rfl,t⟩
 obtain⟨F,O,_⟩:=t.own
 have q0:AC _ w' (F 0) x.1 r.1:=O.res 0 _ rfl
 have q1:AC dH.raw w' (F 1) x.2.1 x.2.2:=O.res 1 _ rfl
 obtain⟨ql,G,q2,q3,q4⟩:(jW e' x.2.2 r.2).p w' (F 2):=O.res 2 _ rfl
 have R':=R.ext' t.old.ext
 have hF:∀i k,F i k->w.heap.size<=k:=fun i k hk=>by
  rcases(O.rng i k hk).1 with h|h
  ·exact h
  exact h.elim
 obtain⟨ρ1,hle1,R1,hv1,A1⟩:=Dl (B:=fun k=>w.heap.size<=k) R' (fun a o l h1 h2=>Bd.start R a o l h1 h2) (fun k hk=> .inl (Nat.le_trans R.ext.size hk)) (hF 0) q0 h1 (HU (hg ρ) r.1)
 obtain⟨ρ2,hle2,R2,hv2,A2⟩:=Fx hg' r.2 x.2.2 G _ ρ1 _ R1 A1 (fun k hk=> .inl (Nat.le_trans R.ext.size hk.1)) ql h3 q2 (fun i k hk=>⟨hF _ _ (q3 i k hk),fun h0=>by have:=O.dis _ _ k (q3 i k hk) h0;omega⟩) q4
 have hne:x.2.2≠[]:=fun h0=>by rw[h0]at ql;exact h2 (List.eq_nil_of_length_eq_zero ql.symm)
 obtain⟨ρ3,hle3,R3,hv3,_⟩:=Dl (cs:=(qS e'.sz g' r.2 (H.new (.cells (r.1.flatMap g)))).1) (F:=F 1) R2 A2 (fun k hk=> .inl (Nat.le_trans R.ext.size hk.1.1)) (fun k hk=>⟨⟨hF _ _ hk,fun h0=>by have:=O.dis _ _ k hk h0;omega⟩,fun i hi=>by have:=O.dis _ _ k hk (q3 i k hi);omega⟩) q1 hne (by rw[Hh];exact hv2)
 refine⟨_,ρ3,rfl,cK.le_trans hle1 (cK.le_trans hle2 hle3),R3,?_⟩
 refine Cc (vs:=[x.1,x.2.1]) (.cons ((hv1.le hle2).le hle3) (.cons (by rw[<-ql];exact hv3) .nil)) fun v hv=>?_
 have one_of:∀{γ:Type} {e:dH γ} {F:Nat->Prop} {v:Value} {xs:List γ},AC e w' F v xs->one v=true:=fun h=>by
  obtain⟨_,_,h⟩:=h
  rcases h with⟨rfl,_⟩|⟨b,off,cap,T,cur,rfl,_⟩<;>rfl
 simp at hv
 rcases hv with rfl|rfl
 ·exact one_of q0
 exact one_of q1
end
noncomputable section
def GN (H:GH) (v:GV):Option (List Int):=Jx H 1 (dI .i64) v
def Qr (H:GH) (v:GV):Option (List (List (Int×Int))):=Jx H 1 (dS H 2 (dP 1 (dI .i64) (dI .i64))) v
def Qq (H:GH) (v:GV):Option (List Int×List (List (Int×Int))):=ob v.asA fun cs=>List.casesOn (motive:=fun _=>Option (List Int×List (List (Int×Int)))) cs none fun a r=>List.casesOn (motive:=fun _=>Option (List Int×List (List (Int×Int)))) r none fun b r=>List.casesOn (motive:=fun _=>Option (List Int×List (List (Int×Int)))) r (ob (GN H a) fun x=>ob (Qr H b) fun y=>some (x,y)) fun _ _=>none
end
section
variable {P:Program} {gs:tX} {w0:cV gs} {w:World} {ρ:cK} {H:GH}
theorem Cj (R:dR w0 ρ H w) {v:GV} {V:Value} {xs:List Int} (hv:Rl ρ v V) (h:GN H v=some xs):(Sl (dJ.int .i64) V xs).p w All:=by
 obtain⟨zs,rfl,hz⟩:=AJ R (fun _ _=>trivial) (fJ.int .i64) hv h
 rw[List.map_id]
 exact hz
theorem Oh (R:dR w0 ρ H w) {v:GV} {V:Value} {xs:List (List (Int×Int))} (hv:Rl ρ v V) (h:Qr H v=some xs):∃zs,(S2 (dJ.pair (dJ.int .i64) (dJ.int .i64)) V zs xs).p w All:=by
 obtain⟨zs,rfl,hz⟩:=AJ R (fun _ _=>trivial) (fJ.sl R (fun _ _=>trivial) (fJ.pair (fJ.int .i64) (fJ.int .i64))) hv h
 exact⟨zs,hz,by simp⟩
theorem Og (R:dR w0 ρ H w) {v:GV} {V:Value} {p:List Int×List (List (Int×Int))} (hv:Rl ρ v V) (h:Qq H v=some p):∃v0 v1 z2,V = .agg #[v0,v1]∧(Sl (dJ.int .i64) v0 p.1).p w All∧(S2 (dJ.pair (dJ.int .i64) (dJ.int .i64)) v1 z2 p.2).p w All:=by
 obtain⟨cs,hcs,h⟩:=aA.1 (show ob v.asA _=some p from h)
 rw[EX hcs]at hv
 obtain⟨vs,rfl,hr,_⟩:=hv.agg_inv
 cases cs with
 |nil=>cases h
 |cons a cs=>
 cases cs with
 |nil=>cases h
 |cons b cs=>
 cases cs with
 |cons _ _=>cases h
 |nil=>
 obtain⟨x,hx,h⟩:=aA.1 (show ob (GN H a) _=some p from h)
 obtain⟨y,hy,h⟩:=aA.1 h
 cases h
 obtain⟨v0,vs,rfl,h0,hr⟩:=hr.of_cons
 obtain⟨v1,vs,rfl,h1,hr⟩:=hr.of_cons
 rw[hr.of_nil]
 obtain⟨z2,hz⟩:=Oh R h1 hy
 exact⟨v0,v1,z2,rfl,Cj R h0 hx,hz⟩
end
end
section
noncomputable section
section
variable {α R:Type}
def a0 (us:List α) (k:Option R):Option R:=List.casesOn (motive:=fun _=>Option R) us k (fun _ _=>none)
def a1 (us:List α) (k:α->Option R):Option R:=List.casesOn (motive:=fun _=>Option R) us none fun a r=>a0 r (k a)
def a2 (us:List α) (k:α->α->Option R):Option R:=List.casesOn (motive:=fun _=>Option R) us none fun a r=>a1 r (k a)
def a3 (us:List α) (k:α->α->α->Option R):Option R:=List.casesOn (motive:=fun _=>Option R) us none fun a r=>a2 r (k a)
def a4 (us:List α) (k:α->α->α->α->Option R):Option R:=List.casesOn (motive:=fun _=>Option R) us none fun a r=>a3 r (k a)
def a5 (us:List α) (k:α->α->α->α->α->Option R):Option R:=List.casesOn (motive:=fun _=>Option R) us none fun a r=>a4 r (k a)
def a6 (us:List α) (k:α->α->α->α->α->α->Option R):Option R:=List.casesOn (motive:=fun _=>Option R) us none fun a r=>a5 r (k a)
theorem S_ {us:List α} {k:Option R} {r:R} (h:a0 us k=some r):us=[]∧k=some r:=by
 cases us with
 |nil=>exact⟨rfl,h⟩
 |cons _ _=>cases h
theorem Mm {us:List α} {k:α->Option R} {r:R} (h:a1 us k=some r):∃x,us=[x]∧k x=some r:=by
 cases us with
 |nil=>cases h
 |cons x us=>obtain⟨rfl,h⟩:=S_ h;exact⟨x,rfl,h⟩
theorem Mn {us:List α} {k:α->α->Option R} {r:R} (h:a2 us k=some r):∃x y,us=[x,y]∧k x y=some r:=by
 cases us with
 |nil=>cases h
 |cons x us=>obtain⟨y,rfl,h⟩:=Mm h;exact⟨x,y,rfl,h⟩
theorem Ta {us:List α} {k:α->α->α->Option R} {r:R} (h:a3 us k=some r):∃x y z,us=[x,y,z]∧k x y z=some r:=by
 cases us with
 |nil=>cases h
 |cons x us=>obtain⟨y,z,rfl,h⟩:=Mn h;exact⟨x,y,z,rfl,h⟩
theorem HF {us:List α} {k:α->α->α->α->Option R} {r:R} (h:a4 us k=some r):∃x y z u,us=[x,y,z,u]∧k x y z u=some r:=by
 cases us with
 |nil=>cases h
 |cons x us=>obtain⟨y,z,u,rfl,h⟩:=Ta h;exact⟨x,y,z,u,rfl,h⟩
theorem Tb {us:List α} {k:α->α->α->α->α->Option R} {r:R} (h:a5 us k=some r):∃x y z u v,us=[x,y,z,u,v]∧k x y z u v=some r:=by
 cases us with
 |nil=>cases h
 |cons x us=>obtain⟨y,z,u,v,rfl,h⟩:=HF h;exact⟨x,y,z,u,v,rfl,h⟩
theorem Tc {us:List α} {k:α->α->α->α->α->α->Option R} {r:R} (h:a6 us k=some r):∃x y z u v w,us=[x,y,z,u,v,w]∧k x y z u v w=some r:=by
 cases us with
 |nil=>cases h
 |cons x us=>obtain⟨y,z,u,v,w,rfl,h⟩:=Tb h;exact⟨x,y,z,u,v,w,rfl,h⟩
end

def TY (k:IntKind) (v:GV):Option Int:=ob v.asI fun p=>bif Wp p.1 k then some p.2 else none
def Qs (H:GH) (v:GV):Option (List Int):=Jx H 1 (dI .u32) v
def XY (H:GH) (v:GV):Option (Int×List Int×List Int×List Int×Bool×Bool):=ob v.asA fun cs=>a6 cs fun a b c d e f=>ob (TY .i64 a) fun n=>ob (GN H b) fun x=>ob (GN H c) fun y=>ob (GN H d) fun z=>ob e.asB fun p=>ob f.asB fun q=>some (n,x,y,z,p,q)

def gI (n:Int):List GV:=[.int .i64 n]
def gP (p:Int×Int):List GV:=[.int .i64 p.1,.int .i64 p.2]
def fcI {R:Type} (l:List Int):(List Int->R)->R:=List.rec (motive:=fun _=>(List Int->R)->R) (fun k=>k []) (fun x _ ih k=>fi x fun x=>ih fun r=>k (x::r)) l
def YF {R:Type} (l:List (Int×Int)):(List (Int×Int)->R)->R:=List.rec (motive:=fun _=>(List (Int×Int)->R)->R) (fun k=>k []) (fun x _ ih k=>fi x.1 fun a=>fi x.2 fun b=>ih fun r=>k ((a,b)::r)) l
def fcR {R:Type} (l:List (List (Int×Int))):(List (List (Int×Int))->R)->R:=List.rec (motive:=fun _=>(List (List (Int×Int))->R)->R) (fun k=>k []) (fun x _ ih k=>YF x fun x=>ih fun r=>k (x::r)) l
theorem QE {R:Type}:∀(l:List Int) (k:List Int->R),fcI l k=k l
 | [],k=>rfl
 |x::l,k=>by
  show fi x (fun x=>fcI l fun r=>k (x::r))=_
  rw[GX,QE l]
theorem QF {R:Type}:∀(l:List (Int×Int)) (k:List (Int×Int)->R),YF l k=k l
 | [],k=>rfl
 |x::l,k=>by
  show fi x.1 (fun a=>fi x.2 fun b=>YF l fun r=>k ((a,b)::r))=_
  rw[GX,GX,QF l]
theorem QG {R:Type}:∀(l:List (List (Int×Int))) (k:List (List (Int×Int))->R),fcR l k=k l
 | [],k=>rfl
 |x::l,k=>by
  show YF x (fun x=>fcR l fun r=>k (x::r))=_
  rw[QF,QG l]
def Rv (b:Bool) (H:GH):OR:=Bool.casesOn (motive:=fun _=>OR) b (some (.bool false,H)) (some (.bool true,H))
def LJ (r:List Int×List (List (Int×Int))) (H:GH):OR:=fcI r.1 fun x=>fcR r.2 fun y=>bif Nat.beq x.length 0 then none else bif Nat.beq y.length 0 then none else bif y.any fun l=>Nat.beq l.length 0 then none else
 fc (x.flatMap gI) fun l=>H.newK (.cells l) fun h H1=>fc (qS 2 gP y H1).1 fun rs=>sn x.length fun n=>sn y.length fun m=>(qS 2 gP y H1).2.newK (.cells rs) fun h2 H2=>some (.agg [.sl h 0 n 1,.sl h2 0 m 1],H2)
end
section
variable {P:Program} {gs:tX} {w0:cV gs} {w:World} {ρ:cK} {H H':GH} {g:GV}
theorem lR.one {x:GV} {vs:List Value} (h:lR ρ [x] vs):∃V,vs=[V]∧Rl ρ x V:=by
 obtain⟨v,vs,rfl,h1,h2⟩:=h.of_cons
 rw[h2.of_nil];exact⟨v,rfl,h1⟩
theorem Ae {k:IntKind} {v:GV} {V:Value} {n:Int} (hv:Rl ρ v V) (h:TY k v=some n):V = .int k n:=by
 obtain⟨p,hp,h⟩:=aA.1 (show ob v.asI _=some n from h)
 obtain⟨hk,h⟩:=a_.1 h
 cases h
 rw[kY hp]at hv
 rw[hv.int_inv,Dh hk]
theorem PV {v:GV} {V:Value} {b:Bool} (hv:Rl ρ v V) (h:v.asB=some b):V = .bool b:=by
 rw[w_ h]at hv;exact hv.bool_inv
theorem Jw (R:dR w0 ρ H w) {v:GV} {V:Value} {xs:List Int} (hv:Rl ρ v V) (h:Qs H v=some xs):(Sl (dJ.int .u32) V xs).p w All:=by
 obtain⟨zs,rfl,hz⟩:=AJ R (fun _ _=>trivial) (fJ.int .u32) hv h
 rw[List.map_id]
 exact hz
theorem TX (R:dR w0 ρ H w) {v:GV} {V:Value} {p:Int×List Int×List Int×List Int×Bool×Bool} (hv:Rl ρ v V) (h:XY H v=some p):
  ∃v0 v1 v2,V = .agg #[.int .i64 p.1,v0,v1,v2,.bool p.2.2.2.2.1,.bool p.2.2.2.2.2]∧(Sl (dJ.int .i64) v0 p.2.1).p w All∧(Sl (dJ.int .i64) v1 p.2.2.1).p w All∧(Sl (dJ.int .i64) v2 p.2.2.2.1).p w All:=by
 obtain⟨cs,hcs,h⟩:=aA.1 (show ob v.asA _=some p from h)
 obtain⟨a,b,c,d,e,f,rfl,h⟩:=Tc h
 obtain⟨n,hn,h⟩:=aA.1 h
 obtain⟨x,hx,h⟩:=aA.1 h
 obtain⟨y,hy,h⟩:=aA.1 h
 obtain⟨z,hz,h⟩:=aA.1 h
 obtain⟨q,hq,h⟩:=aA.1 h
 obtain⟨r,hr,h⟩:=aA.1 h
 cases h
 rw[EX hcs]at hv
 obtain⟨vs,rfl,hl,_⟩:=hv.agg_inv
 obtain⟨va,vs,rfl,ha,hl⟩:=hl.of_cons
 obtain⟨vb,vs,rfl,hb,hl⟩:=hl.of_cons
 obtain⟨vc,vs,rfl,hc,hl⟩:=hl.of_cons
 obtain⟨vd,vs,rfl,hd,hl⟩:=hl.of_cons
 obtain⟨ve,vs,rfl,he,hl⟩:=hl.of_cons
 obtain⟨vf,rfl,hf⟩:=hl.one
 have e1:=Ae ha hn
 have e2:=PV he hq
 have e3:=PV hf hr
 subst e1 e2 e3
 exact⟨vb,vc,vd,rfl,Cj R hb hx,Cj R hc hy,Cj R hd hz⟩
theorem FM {b:Bool} (h:Rv b H=some (g,H')):g = .bool b∧H'=H:=by
 cases b<;>cases h<;>exact⟨rfl,rfl⟩
theorem JN {r:List Int×List (List (Int×Int))} (h:LJ r H=some (g,H')):r.1≠[]∧r.2≠[]∧(∀xs∈r.2,xs≠[])∧
  g = .agg [.sl H.n 0 r.1.length 1,.sl (qS 2 gP r.2 (H.new (.cells (r.1.flatMap gI)))).2.n 0 r.2.length 1]∧H'=(qS 2 gP r.2 (H.new (.cells (r.1.flatMap gI)))).2.new (.cells (qS 2 gP r.2 (H.new (.cells (r.1.flatMap gI)))).1):=by
 unfold LJ at h
 rw[QE,QG]at h
 obtain⟨h1,h⟩:=iK.1 h
 obtain⟨h2,h⟩:=iK.1 h
 obtain⟨h3,h⟩:=iK.1 h
 rw[MN,fU,MN,rP,rP,fU]at h
 cases h
 refine⟨fun e=>(by rw[e]at h1;cases h1),fun e=>(by rw[e]at h2;cases h2),fun xs hx e=>?_,rfl,rfl⟩
 have:=List.any_eq_false.1 h3 xs hx
 rw[e]at this
 exact this rfl
theorem Ya (ρ:cK) (x:Int):lR ρ (gI x) [.int .i64 x]:= .cons (.int _ _) .nil
theorem Yb (ρ:cK) (x:Int×Int):lR ρ (gP x) [.int .i64 x.1,.int .i64 x.2]:= .cons (.int _ _) (.cons (.int _ _) .nil)
def glb (b:Nat) (cs:List Value) (T:Nat):tX:=⟨[(b,.cells cs.toArray T (0,0))],[]⟩
theorem QP {b:Nat} {cs:List Value} (w:World) (S:Nat->Prop) (h:∀h∈[Gb b cs],h.p w S):∃T,DF (glb b cs T) w fun _=>False:=by
 obtain⟨_,T,hT⟩:=h _ (List.mem_singleton.2 rfl)
 exact⟨T,fun p hp=>by obtain rfl:=List.mem_singleton.1 hp;exact⟨hT,id⟩⟩
theorem dR.glb {b:Nat} {cs:List Value} {T:Nat} {w1:cV (glb b cs T)} {w:World} {ρ:cK} {H:GH} (R:dR w1 ρ H w):(Gb b cs).p w All:=⟨trivial,T,(R.glo _ (List.mem_singleton.2 rfl)).1⟩
theorem Ie {gs:Nat->tX} {f:Nat} {V:Value} {L:List aR} (hL:∀w S,(∀h∈L,h.p w S)->∃T,DF (gs T) w fun _=>False) (hb:aN P f) (hv:∀ρ V',Rl ρ g V'->V'=V) (h:∀T (b:cV (gs T)),iP P b (fun _=>none) f [] b.w g H'):aT P f #[] L (fun _:Unit=>V) (fun _ l=>l) (fun _ l=>l):=by
 intro w0 S0 hw
 obtain⟨T,hT⟩:=hL w0 S0 hw
 rcases h T (.of w0 hT)with⟨v,w',ρ',hr,_⟩|⟨_,hc⟩
 ·have hq:=hb #[] w0
  rw[show([]:List Value).toArray = #[]from rfl]at hr
  rw[show(cV.of w0 hT).w=w0 from rfl,hq]at hr;cases hr
 refine hc.mono ?_
 rintro e w' ⟨v,ρ',rfl,_,R,hr⟩
 exact⟨(),by rw[hv _ _ hr],R.ext,fun _ _=>False,⟨fun i m hm=>by simp at hm,fun i k h=>h.elim,fun i j k h=>h.elim⟩,fun f hf=>by simp at hf⟩

section
variable {tb:TB} {T:TypeId}
theorem Ms (h:xK tb T=some [sQ]) (H:GH):rH tb T H=some (.ptr H.n 0,H.new (.cells [sQ])):=by
 unfold rH
 rw[h]
 show H.newK (.cells [sQ]) (fun h H'=>some (GV.ptr h 0,H'))=_
 rw[fU]
theorem Nv {t:Ty} (h:tb T=some t) (hs:t.size=1) (H:GH) (k:Nat) (c:GV) (hc:GH.cells H k=some [c]):oV tb T (.ptr k 0) sQ H=some (.un,H.set k (.cells [sQ])):=by
 show ob (H.cells k) (fun cs=>ob (tb T) fun t=>bif Nat.beq 1 t.size then bif Nat.beq t.size 0 then none else ob (Co [sQ] 0 cs) fun cs'=>H.setK k (.cells cs') fun H'=>some (GV.un,H')else none)=_
 rw[hc,h]
 show(bif Nat.beq 1 t.size then bif Nat.beq t.size 0 then none else ob (Co [sQ] 0 [c]) fun cs'=>H.setK k (.cells cs') fun H'=>some (GV.un,H')else none)=_
 rw[hs]
 show H.setK k (.cells [sQ]) (fun H'=>some (GV.un,H'))=_
 rw[sV]
theorem Re {t:Ty} (h:tb T=some t) (ha:s_ t.desc=false) (H:GH) (k:Nat) (hc:GH.cells H k=some [sQ]):sO tb T (.ptr k 0) H=some sQ:=by
 show ob (H.cells k) (fun cs=>ob (tb T) fun t=>wS t cs 0)=_
 rw[hc,h]
 show wS t [sQ] 0=_
 unfold wS
 rw[ha];rfl
end
def HP (fn:Func):List Oper:=match fn.body with
 |some (.seq (.region _ ops _) _)=>ops.toList
 |_=>[]
def Qg (fn:Func):Code:=match fn.body with
 |some (.seq _ c)=>c
 |_=> .skip
def TW (fn:Func):Nat:=match HP fn with
 |o::_=>o.dst.getD 0
 | []=>0
def okN (r:RS):Bool:=match r with
 |some o=>match o.e with
  | .normal=>true
  |_=>false
 |none=>false
theorem Rx {r:RS} (h:okN r=true):∃out,r=some out∧out.e = .normal:=by
 unfold okN at h
 cases r with
 |none=>cases h
 |some o=>
  refine⟨o,rfl,?_⟩
  cases he:o.e<;>simp only[he]at h<;>first|rfl|cases h
def okT (r:OR):Bool:=match r with
 |some (.bool true,_)=>true
 |_=>false
theorem Ry {r:OR} (h:okT r=true):∃H',r=some (.bool true,H'):=by
 unfold okT at h
 split at h
 ·exact⟨_,rfl⟩
 ·cases h
end
end
end Go.Gx
end
