/- Models and proofs. Conditions: none. -/
import Derived.Test.YthnplbmmlbnelaaGreatZCJn8
import Derived.Test.YthnplbmmlbnelaaGreatZCJn1
import Derived.RecoverIn
import Derived.DefersIn
import Derived.Lib.Bytealg
import Derived.Test.YthnplbmmlbnelaaGreatZCJn7
import Derived.Test.YthnplbmmlbnelaaGreatZCJn5
import Derived.Test.YthnplbmmlbnelaaGreatZCJn6
set_option linter.unusedVariables false
set_option linter.unusedSimpArgs false
set_option maxHeartbeats 4000000
set_option maxRecDepth 20000
section
namespace Go.Gx
open Go Go.Sx Go.RowKit
section
section
variable {R α:Type}
theorem zN (r:OR) (k:GV->GH->Option R):f_ r k=f_ (f_ r EA) k:=by
 cases r with
 |none=>rfl
 |some p=>rfl
theorem eO (x:Option α) {f:α->Option R} {g:α->OR} {k:GV->GH->Option R} (h:∀a,f a=f_ (g a) k):ob x f=f_ (ob x g) k:=by
 cases x with
 |none=>rfl
 |some a=>exact h a
theorem Ts {tb:TB} {ih:CH} {σ:GF} {H:GH} (o:Op) (k:GV->GH->Option R):KR tb ih o σ H k=f_ (KR tb ih o σ H EA) k:=by
 have e1:∀x (f:GV->Option GV),k1 x f σ H k=f_ (k1 x f σ H EA) k:=fun x f=>eO _ fun x=>eO _ fun v=>eO _ fun g=>rfl
 have e2:∀x y (f:GV->GV->Option GV),k2 x y f σ H k=f_ (k2 x y f σ H EA) k:=fun x y f=>eO _ fun x=>eO _ fun v=>eO _ fun u=>eO _ fun g=>rfl
 have e3:∀x y z (f:GV->GV->GV->Option GV),k3 x y z f σ H k=f_ (k3 x y z f σ H EA) k:=fun x y z f=>eO _ fun x=>eO _ fun v=>eO _ fun u=>eO _ fun t=>eO _ fun g=>rfl
 cases o with
 |move x=>exact eO _ fun v=>rfl
 |assign x=>exact eO _ fun v=>rfl
 |pick c x y=>exact e3 _ _ _ _
 |alloc T=>exact zN _ _
 |box T x=>exact eO _ fun v=>zN _ _
 |build T ps=>exact eO _ fun vs=>eO _ fun g=>rfl
 |buildSlice T m ps=>exact eO _ fun x=>zN _ _
 |load T x=>exact eO _ fun v=>eO _ fun g=>rfl
 |store T x y=>exact eO _ fun v=>eO _ fun u=>zN _ _
 |nilCheck x=>exact e1 _ _
 |binOp op T x y T'=>exact e2 _ _ _
 |unOp op T x=>exact e1 _ _
 |convert S D x=>exact e1 _ _
 |makeFunc fn first caps=>
  cases fn with
  |func f=>exact eO _ fun us=>eO _ fun vs=>rfl
  |_=>rfl
 |makeMap T q=>
  cases q with
  |none=>exact zN _ _
  |some x=>rfl
 |makeSlice T x y=>exact eO _ fun v=>eO _ fun u=>zN _ _
 |slice T x lo hi mx=>
  cases mx with
  |none=>exact eO _ fun v=>eO _ fun l=>eO _ fun h=>eO _ fun g=>rfl
  |some y=>rfl
 |fieldAddr T x f=>exact e1 _ _
 |field T x f=>exact e1 _ _
 |indexAddr T x y=>exact e2 _ _ _
 |index T x y=>exact e2 _ _ _
 |lookup T x y ok=>exact eO _ fun v=>eO _ fun u=>eO _ fun g=>rfl
 |mapUpdate T x y z=>exact eO _ fun v=>eO _ fun u=>eO _ fun t=>zN _ _
 |extract x i=>exact e1 _ _
 | call c =>
  obtain⟨cal,xs,ts⟩:=c
  cases cal with
  |value f=>exact eO _ fun v=>eO _ fun g=>eO _ fun us=>zN _ _
  |invoke x m=>rfl
  | builtin b =>
   show Nb tb xs ts b σ H k=f_ (Nb tb xs ts b σ H EA) k
   obtain⟨xs⟩:=xs
   cases b with
   |len=>
    match xs with
    | []=>rfl
    | [x]=>exact eO _ fun T=>eO _ fun v=>eO _ fun g=>rfl
    |_::_::_=>rfl
   |max=>
    match xs with
    | []=>rfl
    | [x]=>rfl
    | [x,y]=>exact e2 _ _ _
    |_::_::_::_=>rfl
   |min=>
    match xs with
    | []=>rfl
    | [x]=>rfl
    | [x,y]=>exact e2 _ _ _
    |_::_::_::_=>rfl
   |append=>
    match xs with
    | []=>rfl
    | [x]=>rfl
    | [x,y]=>exact eO _ fun T=>eO _ fun T'=>eO _ fun v=>eO _ fun u=>zN _ _
    |_::_::_::_=>rfl
   |copy=>
    match xs with
    | []=>rfl
    | [x]=>rfl
    | [x,y]=>exact eO _ fun T=>eO _ fun v=>eO _ fun u=>zN _ _
    |_::_::_::_=>rfl
   |cap=>
    match xs with
    | []=>rfl
    | [x]=>exact eO _ fun T=>eO _ fun v=>eO _ fun g=>rfl
    |_::_::_=>rfl
   |_=>rfl
 |_=>rfl
theorem Cz {σ σ':GF}:∀{xs:List Operand},(∀x∈xs,kB σ x=kB σ' x)->EU σ xs=EU σ' xs
 | [],_=>rfl
 |x::xs,h=>by
  show ob (kB σ x) (fun v=>ob (EU σ xs) fun vs=>some (v::vs))=ob (kB σ' x) (fun v=>ob (EU σ' xs) fun vs=>some (v::vs))
  rw[h x List.mem_cons_self,Cz fun y hy=>h y (List.mem_cons_of_mem _ hy)]
theorem CB {σ σ':GF}:∀{xs:List (Nat×Operand)},(∀x∈xs,kB σ x.2=kB σ' x.2)->uX σ xs=uX σ' xs
 | [],_=>rfl
 |x::xs,h=>by
  show ob (kB σ x.2) (fun v=>ob (uX σ xs) fun vs=>some ((x.1,v)::vs))=ob (kB σ' x.2) (fun v=>ob (uX σ' xs) fun vs=>some ((x.1,v)::vs))
  rw[h x List.mem_cons_self,CB fun y hy=>h y (List.mem_cons_of_mem _ hy)]
theorem HU {σ σ':GF} {o:Option Operand} (h:∀x∈o.toArray,kB σ x=kB σ' x):Gm σ o=Gm σ' o:=by
 cases o with
 |none=>rfl
 |some x=>
  show ob (kB σ x) (fun v=>some (some v))=ob (kB σ' x) (fun v=>some (some v))
  rw[h x (by simp)]
theorem Pk {tb:TB} {ih:CH} {σ σ':GF} {H:GH} {o:Op} {k:GV->GH->Option R} (h:∀x∈o.operands,kB σ x=kB σ' x):KR tb ih o σ H k=KR tb ih o σ' H k:=by
 have e1:∀x (f:GV->Option GV),kB σ x=kB σ' x->k1 x f σ H k=k1 x f σ' H k:=fun x f e=>by simp only[k1,ob,e]
 have e2:∀x y (f:GV->GV->Option GV),kB σ x=kB σ' x->kB σ y=kB σ' y->k2 x y f σ H k=k2 x y f σ' H k:=fun x y f e e'=>by simp only[k2,ob,e,e']
 have e3:∀x y z (f:GV->GV->GV->Option GV),kB σ x=kB σ' x->kB σ y=kB σ' y->kB σ z=kB σ' z->k3 x y z f σ H k=k3 x y z f σ' H k:=fun x y z f e e' e''=>by simp only[k3,ob,e,e',e'']
 cases o with
 |move x=>show GQ x σ H k=GQ x σ' H k;simp only[GQ,ob,h x (by simp[Op.operands])]
 |assign x=>show GQ x σ H k=GQ x σ' H k;simp only[GQ,ob,h x (by simp[Op.operands])]
 |pick c x y=>exact e3 _ _ _ _ (h _ (by simp[Op.operands])) (h _ (by simp[Op.operands])) (h _ (by simp[Op.operands]))
 |alloc T=>rfl
 |box T x=>show Tt x σ H k=Tt x σ' H k;simp only[Tt,ob,h x (by simp[Op.operands])]
 | build T ps =>
  show ob (uX σ ps.toList) _=ob (uX σ' ps.toList) _
  rw[CB fun x hx=>h x.2 (by
   have:x∈ps:=by simpa using hx
   simp only[Op.operands,List.mem_toArray,List.mem_map];exact⟨x,hx,rfl⟩)]
 | buildSlice T m ps =>
  show ob (uX σ ps.toList) _=ob (uX σ' ps.toList) _
  rw[CB fun x hx=>h x.2 (by
   simp only[Op.operands,List.mem_toArray,List.mem_map];exact⟨x,hx,rfl⟩)]
 |load T x=>show Oa tb T x σ H k=Oa tb T x σ' H k;simp only[Oa,ob,h x (by simp[Op.operands])]
 |store T x y=>show Kn tb T x y σ H k=Kn tb T x y σ' H k;simp only[Kn,ob,h x (by simp[Op.operands]),h y (by simp[Op.operands])]
 |nilCheck x=>exact e1 _ _ (h _ (by simp[Op.operands]))
 |binOp op T x y T'=>exact e2 _ _ _ (h _ (by simp[Op.operands])) (h _ (by simp[Op.operands]))
 |unOp op T x=>exact e1 _ _ (h _ (by simp[Op.operands]))
 |convert S D x=>exact e1 _ _ (h _ (by simp[Op.operands]))
 | makeFunc fn first caps =>
  cases fn with
  | func f =>
   show ob (EU σ first.toList) _=ob (EU σ' first.toList) _
   rw[Cz fun x hx=>h x (by simp only[Op.operands,Array.mem_append];exact .inl (by simpa using hx)),
    Cz (xs:=caps.toList) fun x hx=>h x (by simp only[Op.operands,Array.mem_append];exact .inr (by simpa using hx))]
  |_=>rfl
 |makeMap T q=>
  cases q with
  |none=>rfl
  |some x=>rfl
 |makeSlice T x y=>show Oc tb T x y σ H k=Oc tb T x y σ' H k;simp only[Oc,ob,h x (by simp[Op.operands]),h y (by simp[Op.operands])]
 | slice T x lo hi mx =>
  cases mx with
  |none=>
   show ob (some x) (fun x=>ob (kB σ x) fun v=>ob (Gm σ lo) fun l=>ob (Gm σ hi) fun h=>ob (CU tb T v l h H) fun g=>k g H)=ob (some x) (fun x=>ob (kB σ' x) fun v=>ob (Gm σ' lo) fun l=>ob (Gm σ' hi) fun h=>ob (CU tb T v l h H) fun g=>k g H)
   have hlo:Gm σ lo=Gm σ' lo:=HU fun y hy=>h y (by simp only[Op.operands,Array.mem_append];exact .inl (.inl (.inr hy)))
   have hhi:Gm σ hi=Gm σ' hi:=HU fun y hy=>h y (by simp only[Op.operands,Array.mem_append];exact .inl (.inr hy))
   have hx:kB σ x=kB σ' x:=h x (by simp only[Op.operands,Array.mem_append];exact .inl (.inl (.inl (by simp))))
   simp only[ob,hlo,hhi,hx]
  |some y=>rfl
 |fieldAddr T x f=>exact e1 _ _ (h _ (by simp[Op.operands]))
 |field T x f=>exact e1 _ _ (h _ (by simp[Op.operands]))
 |indexAddr T x y=>exact e2 _ _ _ (h _ (by simp[Op.operands])) (h _ (by simp[Op.operands]))
 |index T x y=>exact e2 _ _ _ (h _ (by simp[Op.operands])) (h _ (by simp[Op.operands]))
 |lookup T x y ok=>show Ob tb T x y ok σ H k=Ob tb T x y ok σ' H k;simp only[Ob,ob,h x (by simp[Op.operands]),h y (by simp[Op.operands])]
 |mapUpdate T x y z=>show Km tb T x y z σ H k=Km tb T x y z σ' H k;simp only[Km,ob,h x (by simp[Op.operands]),h y (by simp[Op.operands]),h z (by simp[Op.operands])]
 |extract x i=>exact e1 _ _ (h _ (by simp[Op.operands]))
 | call c =>
  obtain⟨cal,xs,ts⟩:=c
  cases cal with
  |value f=>
   have hf:kB σ f=kB σ' f:=h f (by simp[Op.operands,Call.operands])
   have hxs:EU σ xs.toList=EU σ' xs.toList:=Cz fun x hx=>h x (by simp[Op.operands,Call.operands];exact .inr (by simpa using hx))
   show ob (kB σ f) _=ob (kB σ' f) _
   simp only[ob,hf,hxs]
  |invoke x m=>rfl
  | builtin b =>
   show Nb tb xs ts b σ H k=Nb tb xs ts b σ' H k
   have hx:∀x∈xs,kB σ x=kB σ' x:=fun x hx=>h x (by simp[Op.operands,Call.operands];exact hx)
   obtain⟨xs⟩:=xs
   cases b with
   |len=>
    match xs,hx with
    | [],_=>rfl
    | [x],hx=>show Ps tb ts.toList x σ H k=Ps tb ts.toList x σ' H k;simp only[Ps,ob,hx x (by simp)]
    |_::_::_,_=>rfl
   |max=>
    match xs,hx with
    | [],_=>rfl
    | [x],_=>rfl
    | [x,y],hx=>exact e2 _ _ _ (hx _ (by simp)) (hx _ (by simp))
    |_::_::_::_,_=>rfl
   |min=>
    match xs,hx with
    | [],_=>rfl
    | [x],_=>rfl
    | [x,y],hx=>exact e2 _ _ _ (hx _ (by simp)) (hx _ (by simp))
    |_::_::_::_,_=>rfl
   |append=>
    match xs,hx with
    | [],_=>rfl
    | [x],_=>rfl
    | [x,y],hx=>show Rj tb ts.toList x y σ H k=Rj tb ts.toList x y σ' H k;simp only[Rj,ob,hx x (by simp),hx y (by simp)]
    |_::_::_::_,_=>rfl
   |copy=>
    match xs,hx with
    | [],_=>rfl
    | [x],_=>rfl
    | [x,y],hx=>show Lt tb ts.toList x y σ H k=Lt tb ts.toList x y σ' H k;simp only[Lt,ob,hx x (by simp),hx y (by simp)]
    |_::_::_::_,_=>rfl
   |cap=>
    match xs,hx with
    | [],_=>rfl
    | [x],hx=>show Pq tb ts.toList x σ H k=Pq tb ts.toList x σ' H k;simp only[Pq,ob,hx x (by simp)]
    |_::_::_,_=>rfl
   |_=>rfl
 |_=>rfl
end
noncomputable def En (tb:TB) (ih:CH) (all:List Oper) (o:Oper) (σ:GF) (H:GH):OR:=Option.casesOn (motive:=fun _=>OR) o.guard (KR tb ih o.op σ H EA) fun g=>ob (Ga all g.1) fun oj=>ob oj.dst fun dj=>ob (Eo σ dj) fun v=>Wm tb ih o ⟨σ,H⟩ g.2 v
theorem Tl {tb:TB} {ih:CH} {all:List Oper} {o:Oper} {k:GS->RS} {s:GS}:HQ tb ih all o k s=f_ (En tb ih all o s.σ s.H) (FD o.dst s k):=by
 unfold HQ En
 cases o.guard with
 |none=>exact Ts _ _
 |some g=>exact eO _ fun oj=>eO _ fun dj=>eO _ fun v=>rfl
theorem Ed {tb:TB} {ih:CH} {all:List Oper} {o:Oper} {k:GS->RS} {s:GS} {out:Lc} (h:HQ tb ih all o k s=some out):∃g H',En tb ih all o s.σ s.H=some (g,H')∧k ⟨putD o.dst g s.σ,H'⟩=some out:=by
 rw[Tl]at h
 obtain⟨g,H',h1,h2⟩:=mA h
 exact⟨g,H',h1,h2⟩
theorem MU {tb:TB} {ih:CH} {all:List Oper} {o:Oper} {σ σ':GF} {H:GH} (h:∀t∈o.looksAt all.toArray,Eo σ t=Eo σ' t):En tb ih all o σ H=En tb ih all o σ' H:=by
 have hop:KR tb ih o.op σ H EA=KR tb ih o.op σ' H EA:=Pk fun x hx=>by
  cases x with
  |tmp t=>exact h t (List.mem_append_left _ (List.mem_filterMap.2 ⟨.tmp t,by simpa using hx,rfl⟩))
  |_=>rfl
 unfold En
 cases hg:o.guard with
 |none=>exact hop
 | some g =>
  show ob (Ga all g.1) _=ob (Ga all g.1) _
  cases hn:Ga all g.1 with
  |none=>rfl
  | some oj =>
   show ob oj.dst _=ob oj.dst _
   cases hd:oj.dst with
   |none=>rfl
   | some dj =>
    have ht:dj∈o.looksAt all.toArray:=by
     rw[uY]at hn
     simp[Oper.looksAt,hg,hn,hd]
    show ob (Eo σ dj) (fun v=>Wm tb ih o ⟨σ,H⟩ g.2 v)=ob (Eo σ' dj) (fun v=>Wm tb ih o ⟨σ',H⟩ g.2 v)
    rw[h dj ht]
    cases Eo σ' dj with
    |none=>rfl
    | some v =>
     show Wm tb ih o ⟨σ,H⟩ g.2 v=Wm tb ih o ⟨σ',H⟩ g.2 v
     cases v with
     |bool q=>
      show Bool.casesOn (motive:=fun _=>OR) (NV q g.2) (some (.un,H)) (KR tb ih o.op σ H EA)=Bool.casesOn (motive:=fun _=>OR) (NV q g.2) (some (.un,H)) (KR tb ih o.op σ' H EA)
      rw[hop]
     |_=>rfl
section
variable {P:Program} {tb:TB} {gs:BQ} {w0:iQ gs}
theorem Ec {ih:CH} {all:List Oper} {n:Nat} {o:Oper} {σ:GF} {H H':GH} {g:GV} {ρ:gH} {a:Act} (F:kU ρ n σ a) (h:En tb ih all o σ H=some (g,H')):
  (Region.wanted o (yielded all.toArray a.tmps)=true∧KR tb ih o.op σ H EA=some (g,H'))∨(Region.wanted o (yielded all.toArray a.tmps)=false∧g = .un∧H'=H):=by
 unfold En at h
 cases hg:o.guard with
 |none=>
  rw[hg]at h
  exact .inl ⟨by simp[Region.wanted,hg],h⟩
 | some gd =>
  rw[hg]at h
  obtain⟨oj,hoj,h⟩:=aN.1 (show ob (Ga all gd.1) _=some (g,H')from h)
  obtain⟨dj,hdj,h⟩:=aN.1 h
  obtain⟨v,hv,hgv⟩:=aN.1 h
  have hslot:=F.slot dj v hv
  rw[uY]at hoj
  have hy:yielded all.toArray a.tmps gd.1=(match a.tmps[dj]? with|some (.bool b)=>some b|_=>none):=by
   unfold yielded
   have:(all.toArray[gd.1]?).bind (·.dst)=some dj:=by simp[hoj,hdj]
   rw[this];rfl
  cases v with
  | bool q =>
   have he:=hslot.bool_inv
   have hq:a.tmps[dj]? = some (.bool q):=by
    simp only[Act.eval,Array.getD_eq_getD_getElem?]at he
    cases hx:a.tmps[dj]? with
    |none=>rw[hx]at he;cases he
    |some z=>rw[hx]at he;simp at he;rw[he]
   rw[hq]at hy
   have hgv':Bool.casesOn (motive:=fun _=>OR) (NV q gd.2) (some (.un,H)) (KR tb ih o.op σ H EA)=some (g,H'):=hgv
   rw[ER]at hgv'
   have hw:Region.wanted o (yielded all.toArray a.tmps)=(q==gd.2):=by
    simp only[Region.wanted,hg]
    rw[hy]
    cases q<;>cases gd.2<;>rfl
   cases hqb:(q==gd.2)with
   |true=>rw[hqb]at hgv';exact .inl ⟨by rw[hw,hqb],hgv'⟩
   |false=>rw[hqb]at hgv';cases hgv';exact .inr ⟨by rw[hw,hqb],rfl,rfl⟩
  | un =>
   have he:=hslot.un_inv
   cases hgv
   refine .inr ⟨?_,rfl,rfl⟩
   simp only[Region.wanted,hg]
   rw[hy]
   have:(match a.tmps[dj]? with|some (.bool b)=>some b|_=>none)=(none:Option Bool):=by
    simp only[Act.eval,Array.getD_eq_getD_getElem?]at he
    cases hx:a.tmps[dj]? with
    |none=>rfl
    |some z=>rw[hx]at he;simp at he;rw[he];rfl
   rw[this];rfl
  |_=>cases hgv
theorem Hj {ih:CH} (hG:fZ P tb) (hih:sU P w0 ih) {all:List Oper} {n:Nat} {o:Oper} {σ:GF} {H H':GH} {g:GV} {ρ:gH} {a:Act} {w:World} (ho:Gs n o=true) (F:kU ρ n σ a) (R:jG w0 ρ H w) (h:En tb ih all o σ H=some (g,H')):
  (Region.wanted o (yielded all.toArray a.tmps)=true∧BX P w0 ρ σ a w o g H H')∨(Region.wanted o (yielded all.toArray a.tmps)=false∧g = .un∧H'=H):=by
 obtain⟨_,_,h3⟩:=uO ho
 rcases Ec F h with⟨hw,hg⟩|h
 ·obtain⟨g',H'',hk,hs⟩:=MY hG hih F R h3 hg
  cases hk
  exact .inl ⟨hw,hs⟩
 ·exact .inr h
def RR (tb:TB) (T:TypeId):Bool:=match tb T with
 |some t=>(match t.desc with|.array .. => false|_=>true)
 |none=>false
def pureOp (tb:TB):Op->Bool
 | .move _ | .assign _ | .pick .. | .build .. | .nilCheck _ | .binOp .. | .unOp .. | .convert .. | .makeFunc .. | .fieldAddr .. | .field .. | .indexAddr .. | .index .. | .extract .. => true
 | .slice T _ _ _ _=>RR tb T
 | .call ⟨.builtin .len,_,_⟩ | .call ⟨.builtin .max,_,_⟩ | .call ⟨.builtin .min,_,_⟩=>true
 |_=>false
def isFloat:Op->Bool
 | .buildSlice .. | .alloc .. | .box .. | .makeSlice .. => true
 |_=>false
theorem gX {ρ:gH} {g:GV} {s:Sem Value} {a:Act} {o:Oper} (h:Co P ρ s g) (he:∀w v,s.run P w = .ok v w->(execOp a.eval o).run P w = .ok (.value v) w):∃v,Rl ρ g v∧∀w,(execOp a.eval o).run P w = .ok (.value v) w:=
 let ⟨v,hv,hr⟩:=h;⟨v,hv,fun w=>he w v (hr w)⟩
theorem Rf {ih:CH} (hG:fZ P tb) {ρ:gH} {n:Nat} {σ:GF} {a:Act} (F:kU ρ n σ a) {o:Oper} {H H':GH} {g:GV} (hp:pureOp tb o.op=true) (hoa:Ig o.op=true) (h:KR tb ih o.op σ H EA=some (g,H')):
  H'=H∧∃v,Rl ρ g v∧∀w,(execOp a.eval o).run P w = .ok (.value v) w:=by
 obtain⟨d,op,ty,pos,aft,gd⟩:=o
 cases op with
 |move x=>
  obtain⟨v,hv,h⟩:=aN.1 (show ob (kB σ x) _=some (g,H')from h)
  cases h
  exact⟨rfl,_,dH F hv,fun w=>by simp[execOp]⟩
 |assign x=>
  obtain⟨v,hv,h⟩:=aN.1 (show ob (kB σ x) _=some (g,H')from h)
  cases h
  exact⟨rfl,_,dH F hv,fun w=>by simp[execOp]⟩
 |pick c x y=>
  obtain⟨v,hv,h⟩:=aN.1 (show ob (kB σ c) _=some (g,H')from h)
  obtain⟨u,hu,h⟩:=aN.1 h
  obtain⟨t,ht,h⟩:=aN.1 h
  obtain⟨g',hg,h⟩:=aN.1 h
  cases h
  obtain⟨b,hb,hg⟩:=aN.1 (show ob v.asB _=some g from hg)
  have hc:=dH F hv
  rw[Do hb]at hc
  cases b with
  |true=>cases hg;exact⟨rfl,_,dH F hu,fun w=>by simp[execOp,hc.bool_inv,asBool]⟩
  |false=>cases hg;exact⟨rfl,_,dH F ht,fun w=>by simp[execOp,hc.bool_inv,asBool]⟩
 | build T ps =>
  obtain⟨vs,hvs,h⟩:=aN.1 (show ob (uX σ ps.toList) _=some (g,H')from h)
  obtain⟨g',hg,h⟩:=aN.1 h
  cases h
  exact⟨rfl,gX (Jz hG (Ca F hvs) hg) (fun w v hr=>by
   have e:(ps.toList.map fun p=>(p.1,a.eval p.2)).toArray=ps.map fun p=>(p.1,a.eval p.2):=by apply Array.toList_inj.1;simp
   rw[e]at hr
   simp[execOp,hr])⟩
 |nilCheck x=>
  obtain⟨v,hv,h⟩:=aN.1 (show ob (kB σ x) _=some (g,H')from h)
  obtain⟨g',hg,h⟩:=aN.1 h
  cases h
  obtain⟨rfl,hr⟩:=LA (P:=P) (dH F hv) hg
  exact⟨rfl,_,dH F hv,fun w=>hr _ x a.eval rfl rfl w⟩
 | binOp op T x y T' =>
  obtain⟨v,hv,h⟩:=aN.1 (show ob (kB σ x) _=some (g,H')from h)
  obtain⟨u,hu,h⟩:=aN.1 h
  obtain⟨g',hg,h⟩:=aN.1 h
  cases h
  exact⟨rfl,gX (OE hG x y (dH F hv) (dH F hu) hg) (fun w v hr=>by
   simp only[execOp]
   simp at hr ⊢
   cases hq:Sem.run P (eqGuard op T x y (a.eval x) (a.eval y)) w with
   |ok u w1=>rw[hq]at hr;simp at hr;simp[hr]
   |halt h1 w1=>rw[hq]at hr;cases hr)⟩
 |unOp op T x=>
  obtain⟨v,hv,h⟩:=aN.1 (show ob (kB σ x) _=some (g,H')from h)
  obtain⟨g',hg,h⟩:=aN.1 h
  cases h
  exact⟨rfl,gX (Sr (dH F hv) hg) (fun w v hr=>by simp[execOp,hr])⟩
 |convert S D x=>
  obtain⟨v,hv,h⟩:=aN.1 (show ob (kB σ x) _=some (g,H')from h)
  obtain⟨g',hg,h⟩:=aN.1 h
  cases h
  exact⟨rfl,gX (Ma hG (dH F hv) hg) (fun w v hr=>by simp[execOp,hr])⟩
 | makeFunc fn first caps =>
  cases fn with
  |func f=>
   obtain⟨us,hus,h⟩:=aN.1 (show ob (EU σ first.toList) _=some (g,H')from h)
   obtain⟨vs,hvs,h⟩:=aN.1 h
   cases h
   refine⟨rfl,_,MC (Ee F hus) (Ee F hvs),fun w=> ?_⟩
   have e1:(first.toList.map a.eval).toArray=first.map a.eval:=by apply Array.toList_inj.1;simp
   have e2:(caps.toList.map a.eval).toArray=caps.map a.eval:=by apply Array.toList_inj.1;simp
   rw[e1,e2]
   simp[execOp,Instr.makeFunc]
  |_=>cases h
 |fieldAddr T x f=>
  obtain⟨v,hv,h⟩:=aN.1 (show ob (kB σ x) _=some (g,H')from h)
  obtain⟨g',hg,h⟩:=aN.1 h
  cases h
  exact⟨rfl,gX (JA hG (dH F hv) hg) (fun w v hr=>by simp[execOp,hr])⟩
 |field T x f=>
  obtain⟨v,hv,h⟩:=aN.1 (show ob (kB σ x) _=some (g,H')from h)
  obtain⟨g',hg,h⟩:=aN.1 h
  cases h
  exact⟨rfl,gX (Md hG (dH F hv) hg) (fun w v hr=>by simp[execOp,hr])⟩
 |indexAddr T x y=>
  obtain⟨v,hv,h⟩:=aN.1 (show ob (kB σ x) _=some (g,H')from h)
  obtain⟨u,hu,h⟩:=aN.1 h
  obtain⟨g',hg,h⟩:=aN.1 h
  cases h
  exact⟨rfl,gX (JB hG (dH F hv) (dH F hu) hg) (fun w v hr=>by simp[execOp,hr])⟩
 |index T x y=>
  obtain⟨v,hv,h⟩:=aN.1 (show ob (kB σ x) _=some (g,H')from h)
  obtain⟨u,hu,h⟩:=aN.1 h
  obtain⟨g',hg,h⟩:=aN.1 h
  cases h
  exact⟨rfl,gX (Sg hG (dH F hv) (dH F hu) hg) (fun w v hr=>by simp[execOp,hr])⟩
 | slice T x lo hi mx =>
  cases mx with
  | none =>
   obtain⟨v,hv,h⟩:=aN.1 (show ob (kB σ x) _=some (g,H')from h)
   obtain⟨l,hl,h⟩:=aN.1 h
   obtain⟨e,he,h⟩:=aN.1 h
   obtain⟨g',hg,h⟩:=aN.1 h
   cases h
   have hA:∀t,tb T=some t->Wc t.desc=none:=fun t ht=>by
    have hs:RR tb T=true:=hp
    unfold RR at hs
    rw[ht]at hs
    simp only at hs
    cases hq:t.desc<;>rw[hq]at hs<;>first|rfl|cases hs
   exact⟨rfl,gX (JC (gs:=WQ) hG (.inr hA) (dH F hv) (Hn F hl) (Hn F he) hg) (fun w v hr=>by simp[execOp,hr])⟩
  |some y=>cases h
 |extract x i=>
  obtain⟨v,hv,h⟩:=aN.1 (show ob (kB σ x) _=some (g,H')from h)
  obtain⟨g',hg,h⟩:=aN.1 h
  cases h
  exact⟨rfl,gX (OG (dH F hv) hg) (fun w v hr=>by simp[execOp,hr])⟩
 | call c =>
  obtain⟨cal,xs,ts⟩:=c
  cases cal with
  |value f=>cases hp
  |invoke x m=>cases hp
  | builtin b =>
   have hlen:ts.size=xs.size:=Nat.eq_of_beq_eq_true hoa
   have h:Nb tb xs ts b σ H EA=some (g,H'):=h
   cases b with
   | len =>
    obtain⟨x,hx,h⟩:=CE (show HW xs.toList (Ps tb ts.toList) σ H EA=some (g,H')from h)
    obtain⟨T,hT,h⟩:=aN.1 (show ob (Ga ts.toList 0) _=some (g,H')from h)
    obtain⟨v,hv,h⟩:=aN.1 h
    obtain⟨g',hg,h⟩:=aN.1 h
    cases h
    have ex:=Hw hx
    subst ex
    have et:ts = #[T]:=by
     rw[uY]at hT
     obtain⟨l⟩:=ts
     match l,hlen with
     | [t],_=>simp at hT;subst hT;rfl
    subst et
    exact⟨rfl,gX (OH hG (ty:=ty) (dH F hv) hg) (fun w v hr=>by simp[execOp,resolve,invoke,builtin,hr])⟩
   | cap =>
    obtain⟨x,hx,h⟩:=CE (show HW xs.toList (Pq tb ts.toList) σ H EA=some (g,H')from h)
    obtain⟨T,hT,h⟩:=aN.1 (show ob (Ga ts.toList 0) _=some (g,H')from h)
    obtain⟨v,hv,h⟩:=aN.1 h
    obtain⟨g',hg,h⟩:=aN.1 h
    cases h
    have ex:=Hw hx
    subst ex
    have et:ts = #[T]:=by
     rw[uY]at hT
     obtain⟨l⟩:=ts
     match l,hlen with
     | [t],_=>simp at hT;subst hT;rfl
    subst et
    exact⟨rfl,gX (OF hG (ty:=ty) (dH F hv) hg) (fun w v hr=>by simp[execOp,resolve,invoke,builtin,hr])⟩
   | max =>
    obtain⟨x,y,hx,h⟩:=zK (show Dx xs.toList (fun x y=>k2 x y Sq) σ H EA=some (g,H')from h)
    obtain⟨v,hv,h⟩:=aN.1 (show ob (kB σ x) _=some (g,H')from h)
    obtain⟨u,hu,h⟩:=aN.1 h
    obtain⟨g',hg,h⟩:=aN.1 h
    cases h
    have ex:=Ej hx
    subst ex
    obtain⟨t1,t2,et⟩:∃t1 t2,ts = #[t1,t2]:=by
     obtain⟨l⟩:=ts
     match l,hlen with
     | [t,t'],_=>exact⟨t,t',rfl⟩
    subst et
    exact⟨rfl,gX (OJ (t1:=t1) (t2:=t2) (ty:=ty) (dH F hv) (dH F hu) hg) (fun w v hr=>by simp[execOp,resolve,invoke,builtin,hr])⟩
   | min =>
    obtain⟨x,y,hx,h⟩:=zK (show Dx xs.toList (fun x y=>k2 x y TW) σ H EA=some (g,H')from h)
    obtain⟨v,hv,h⟩:=aN.1 (show ob (kB σ x) _=some (g,H')from h)
    obtain⟨u,hu,h⟩:=aN.1 h
    obtain⟨g',hg,h⟩:=aN.1 h
    cases h
    have ex:=Ej hx
    subst ex
    obtain⟨t1,t2,et⟩:∃t1 t2,ts = #[t1,t2]:=by
     obtain⟨l⟩:=ts
     match l,hlen with
     | [t,t'],_=>exact⟨t,t',rfl⟩
    subst et
    exact⟨rfl,gX (OK (t1:=t1) (t2:=t2) (ty:=ty) (dH F hv) (dH F hu) hg) (fun w v hr=>by simp[execOp,resolve,invoke,builtin,hr])⟩
   |_=>cases hp
 |_=>cases hp
theorem L_ (hG:fZ P tb) {T:TypeId} {n:Nat} {l:List (Nat×GV)} {parts:List (Nat×Value)} {ρ:gH} {H H':GH} {g:GV} (hp:Wi ρ l parts) (h:AY tb T n l H=some (g,H')):
  ∃cs a' T' len sz,H'=H.new (.cells cs)∧g = .sl H.n 0 len sz∧NJ ρ cs a'∧cs.length=a'.size∧∀w:World,∃V,(Instr.buildSlice T n parts.toArray).run P w = .ok V (w.alloc (.cells a' T'))∧∀ρ':gH,ρ' H.n=some ⟨w.heap.size,0,a'.size,.cells a' T',.cells cs⟩->Rl ρ' g V:=by
 obtain⟨te,hte,h⟩:=aN.1 (show ob (AH tb T) _=some (g,H')from h)
 obtain⟨zc,hz,h⟩:=aN.1 h
 obtain⟨hlen,h⟩:=cN.1 h
 obtain⟨hbig,h⟩:=cN.1 h
 obtain⟨h0,h⟩:=mP.1 h
 obtain⟨cs,hfill,h⟩:=aN.1 h
 rw[jK]at h;cases h
 obtain⟨⟨d,hd,hde⟩,hE,htab⟩:=xJ hG hte
 obtain⟨dz,hdz,_,hC⟩:=uU (ρ:=ρ) hG hz
 rw[htab]at hdz;cases hdz
 have hlen:zc.length=te.2.size:=Nat.eq_of_beq_eq_true hlen
 have h0:te.2.size≠0:=fun e=>by rw[e]at h0;cases h0
 have hbig:n*te.2.size<16777216:=by simpa [Nat.blt_eq]using hbig
 have hrep:=FJ hC (by omega) n
 rw[hlen]at hrep
 obtain⟨a',f1,f2⟩:=Ef hp hrep hfill
 have hsz0:cs.length=a'.size:=by have:=f2.r.len;simpa using this
 have hsz:a'.size=n*te.2.size:=by
  have e1:=f2.r.len
  have:cs.length=(Mq zc n).length:=EV hfill
  rw[this,FI,hlen]at e1
  simp at e1;omega
 refine⟨cs,a',te.1,n,te.2.size,rfl,rfl,f2,hsz0,fun w=>⟨.slice (some ⟨w.heap.size,0,none⟩) n n,?_,fun ρ' hρ=> .sl (l:=⟨w.heap.size,0,a'.size,.cells a' te.1,.cells cs⟩) hρ (Nat.le_refl _) (.inr ⟨rfl,by simp[hsz]⟩)⟩⟩
 have hu:=hd.run_und w
 rw[hde]at hu
 by_cases hn:n*te.2.size=0
 ·have hz0:n=0:=by rcases Nat.mul_eq_zero.1 hn with h|h;exact h;exact absurd h h0
  subst hz0
  have e0:(Array.range (0*te.2.size)).map (te.2.zero.cells[· % te.2.zero.cells.size]!)=(#[]:Array Value):=by simp
  rw[e0]at f1
  have e1:(Array.range 0).map (fun _=>(default:Value)) = #[]:=by simp
  simp[Instr.buildSlice,hu,hE.run_size w,newRow]
  simp[e1,f1]
 ·simp[Instr.buildSlice,hu,hE.run_size w,hE.run_zero w,hn,f1,newRow,show¬(16777216<n*te.2.size) by omega]
theorem Qi {ρ0 ρ1 ρ2:gH} (hk:∀h l0 l,ρ0 h=some l0->ρ1 h=some l->ρ2 h=some l) {g:GV} {v:Value} (h1:Rl ρ1 g v):∀{v0:Value},Rl ρ0 g v0->Rl ρ2 g v:=by
 induction h1 with
 |int k n=>exact fun _=> .int k n
 |bool b=>exact fun _=> .bool b
 |str s=>exact fun _=> .str s
 |ptr off hl=>exact fun h0=>by cases h0 with|ptr _ hl0=>exact .ptr off (hk _ _ _ hl0 hl)
 |pnil=>exact fun _=> .pnil
 |sl hl hc ha=>exact fun h0=>by cases h0 with|sl hl0 _ _=>exact .sl (hk _ _ _ hl0 hl) hc ha
 |snil=>exact fun _=> .snil
 |map hl=>exact fun h0=>by cases h0 with|map hl0=>exact .map (hk _ _ _ hl0 hl)
 | fn f a b c d ihb ihd =>
   intro v0 h0
   cases h0 with
   | fn _ a0 b0 c0 d0 =>
    refine .fn f a (fun i g v hg hv=> ?_) c (fun i g v hg hv=> ?_)
    ·have:=bN hg
     exact ihb i g v hg hv (b0 i g _ hg (List.getElem?_eq_getElem (by omega)))
    ·have:=bN hg
     exact ihd i g v hg hv (d0 i g _ hg (List.getElem?_eq_getElem (by omega)))
 |fnil=>exact fun _=> .fnil
 |inil=>exact fun _=> .inil
 | agg a b c ihb =>
   intro v0 h0
   cases h0 with
   |agg a0 b0 c0=>
    refine .agg a (fun i g v hg hv=> ?_) c
    have:=bN hg
    exact ihb i g v hg hv (b0 i g _ hg (List.getElem?_eq_getElem (by omega)))
 | tup a b ihb =>
   intro v0 h0
   cases h0 with
   |tup a0 b0=>
    refine .tup a (fun i g v hg hv=> ?_)
    have:=bN hg
    exact ihb i g v hg hv (b0 i g _ hg (List.getElem?_eq_getElem (by omega)))
 |un=>exact fun _=> .un
 |bad v=>exact fun _=> .bad v
 | opn v h hx =>
   intro v0 h0
   obtain⟨l0,a,_⟩:=h0.opn_inv
   exact .opn v (hk _ _ _ a h) hx
structure Uc (tb:TB) (ih:CH) (all l:List Oper) (S:Nat->GF) (HH:Nat->GH) (gg:Nat->GV):Prop where
 st:∀i o,l[i]? = some o->En tb ih all o (S i) (HH i)=some (gg i,HH (i+1))
 up:∀i o,l[i]? = some o->S (i+1)=putD o.dst (gg i) (S i)
theorem Jh {ih:CH} {all:List Oper} {k:GS->RS} {out:Lc}:∀(l:List Oper) (s:GS),Ev tb ih all k l s=some out->∃S HH gg,S 0=s.σ∧HH 0=s.H∧Uc tb ih all l S HH gg∧k ⟨S l.length,HH l.length⟩=some out
 | [],s,h=>⟨fun _=>s.σ,fun _=>s.H,fun _=> .un,rfl,rfl,⟨fun i o ho=>by simp at ho,fun i o ho=>by simp at ho⟩,h⟩
 | o :: l, s, h => by
  obtain⟨g,H',h1,h2⟩:=Ed (show HQ tb ih all o (Ev tb ih all k l) s=some out from h)
  obtain⟨S,HH,gg,e1,e2,ht,hk⟩:=Jh l _ h2
  refine⟨fun i=>Nat.casesOn i s.σ S,fun i=>Nat.casesOn i s.H HH,fun i=>Nat.casesOn i g gg,rfl,rfl,⟨fun i o' ho=> ?_,fun i o' ho=> ?_⟩,hk⟩
  ·cases i with
   |zero=>simp at ho;subst ho;show En tb ih all o s.σ s.H=some (g,HH 0);rw[h1,e2]
   |succ i=>exact ht.st i o' (by simpa using ho)
  ·cases i with
   |zero=>simp at ho;subst ho;exact e1
   |succ i=>exact ht.up i o' (by simpa using ho)
theorem Bi {o:Op} (h:nY o=true):fK o=false:=by
 cases o<;>first|rfl|cases h
structure XG (all l:List Oper) (m:List Nat) (i:Nat) (S:Nat->GF) (HH:Nat->GH) (pr:List (Nat×Option (Nat×Nat))) (hs:List (Nat×GH)):Prop where
 pr:∀q h v,(q,some (h,v))∈pr->∀j oj,l[j]? = some oj->fK oj.op=true->before m (i+j) q=false->(HH (j+1)).ver h=some v
 hs:∀k ok h,l[k]? = some ok->nY ok.op=true->Tz (S k) ok.op=some h->∃v,(HH k).ver h=some v∧∀q Hq,(q,Hq)∈hs->before m (i+k) q=false->Hq.ver h=some v
 lo:∀k ok h v,l[k]? = some ok->nY ok.op=true->Tz (S k) ok.op=some h->(HH k).ver h=some v->
  (∀j oj,j<k->l[j]? = some oj->fK oj.op=true->before m (i+k) (i+j)=false->(HH j).ver h=some v)∧(∀j oj,k<j->l[j]? = some oj->fK oj.op=true->before m (i+j) (i+k)=false->(HH (j+1)).ver h=some v)
theorem XG.cons {all l:List Oper} {m:List Nat} {i:Nat} {S:Nat->GF} {HH:Nat->GH} {pr pr':List (Nat×Option (Nat×Nat))} {hs hs':List (Nat×GH)} {o:Oper} {σ:GF} {H:GH} (V:XG all l m (i+1) S HH pr' hs')
  (hpr:∀p∈pr,p∈pr') (hhs:∀p∈hs,p∈hs') (h1:fK o.op=true->(i,H)∈hs'∧∀p∈pr,before m i p.1=false->∀hv,p.2=some hv->(HH 0).ver hv.1=some hv.2)
  (h2:nY o.op=true->∀h,Tz σ o.op=some h->∃v,H.ver h=some v∧(i,some (h,v))∈pr'∧∀q Hq,(q,Hq)∈hs->before m i q=false->Hq.ver h=some v):
  XG all (o::l) m i (fun j=>Nat.casesOn j σ S) (fun j=>Nat.casesOn j H HH) pr hs:=by
 have e:∀j,i+(j+1)=i+1+j:=fun j=>by omega
 refine⟨fun q h v hq j oj hj hl hb=> ?_,fun k ok h hk hl hh=> ?_,fun k ok h v hk hl hh hv=>⟨fun j oj hjk hj hlj hb=> ?_,fun j oj hjk hj hlj hb=> ?_⟩⟩
 ·cases j with
  |zero=>simp at hj;subst hj;exact(h1 hl).2 _ hq (by simpa using hb) _ rfl
  |succ j=>exact V.pr q h v (hpr _ hq) j oj (by simpa using hj) hl (by rw[<-e];exact hb)
 ·cases k with
  |zero=>
   simp at hk;subst hk
   obtain⟨v,a,_,c⟩:=h2 hl h hh
   exact⟨v,a,fun q Hq hq hb=>c q Hq hq (by simpa using hb)⟩
  |succ k=>
   obtain⟨v,a,b⟩:=V.hs k ok h (by simpa using hk) hl hh
   exact⟨v,a,fun q Hq hq hb=>b q Hq (hhs _ hq) (by rw[<-e];exact hb)⟩
 ·cases k with
  |zero=>omega
  | succ k =>
   have hk:l[k]? = some ok:=by simpa using hk
   cases j with
   |zero=>
    simp at hj;subst hj
    obtain⟨v',a,b⟩:=V.hs k ok h hk hl hh
    have a:(HH k).ver h=some v':=a
    have hv:(HH k).ver h=some v:=hv
    rw[a]at hv;cases hv
    exact b i H (h1 hlj).1 (by rw[<-e];simpa using hb)
   |succ j=>exact(V.lo k ok h v hk hl hh hv).1 j oj (by omega) (by simpa using hj) hlj (by rw[<-e,<-e];exact hb)
 ·cases j with
  |zero=>omega
  | succ j =>
   have hj:l[j]? = some oj:=by simpa using hj
   cases k with
   |zero=>
    simp at hk;subst hk
    obtain⟨v',a,b,_⟩:=h2 hl h hh
    have hv:H.ver h=some v:=hv
    rw[a]at hv;cases hv
    exact V.pr i h v b j oj hj hlj (by rw[<-e];simpa using hb)
   |succ k=>exact(V.lo k ok h v (by simpa using hk) hl hh hv).2 j oj (by omega) hj hlj (by rw[<-e,<-e];exact hb)
theorem Hk {ih:CH} {all:List Oper} {m:List Nat} {k:GS->RS} {out:Lc}:∀(l:List Oper) (i:Nat) (pr:List (Nat×Option (Nat×Nat))) (hs:List (Nat×GH)) (s:GS),Wo tb ih all m k l i pr hs s=some out->
  ∃S HH gg,S 0=s.σ∧HH 0=s.H∧Uc tb ih all l S HH gg∧XG all l m i S HH pr hs∧k ⟨S l.length,HH l.length⟩=some out
 | [],i,pr,hs,s,h=>⟨fun _=>s.σ,fun _=>s.H,fun _=> .un,rfl,rfl,⟨fun i o ho=>by simp at ho,fun i o ho=>by simp at ho⟩,⟨fun _ _ _ _ j oj hj=>by simp at hj,fun k ok h hk=>by simp at hk,fun k ok h v hk=>by simp at hk⟩,h⟩
 | o :: l, i, pr, hs, s, h => by
  have h':Ra tb ih all m o (Wo tb ih all m k l) i pr hs s=some out:=h
  have trc:∀{g:GV} {H':GH} {S:Nat->GF} {HH:Nat->GH} {gg:Nat->GV},En tb ih all o s.σ s.H=some (g,H')->S 0=putD o.dst g s.σ->HH 0=H'->Uc tb ih all l S HH gg->Uc tb ih all (o::l) (fun j=>Nat.casesOn j s.σ S) (fun j=>Nat.casesOn j s.H HH) (fun j=>Nat.casesOn j g gg):=fun {g H' S HH gg} h1 e1 e2 ht=>⟨fun i o' ho=>by
    cases i with
    |zero=>simp at ho;subst ho;show En tb ih all o s.σ s.H=some (g,HH 0);rw[h1,e2]
    |succ i=>exact ht.st i o' (by simpa using ho),fun i o' ho=>by
    cases i with
    |zero=>simp at ho;subst ho;exact e1
    |succ i=>exact ht.up i o' (by simpa using ho)⟩
  unfold Ra at h'
  cases hlo:fK o.op with
  |true=>
   rw[hlo]at h'
   obtain⟨g,H',h1,h2⟩:=Ed h'
   obtain⟨_,h4,h3⟩:=aN.1 h2
   have h4:=Ds h4
   obtain⟨S,HH,gg,e1,e2,ht,hv,hk⟩:=Hk l _ _ _ _ h3
   refine⟨_,_,_,rfl,rfl,trc h1 e1 e2 ht,hv.cons (fun _ h=>h) (fun p hp=>List.mem_cons_of_mem _ hp) (fun _=>⟨List.mem_cons_self,fun p hp hb hv' he=>by rw[e2];exact h4 p hp hb hv' he⟩) (fun hld=>by rw[Bi hld]at hlo;cases hlo),hk⟩
  | false =>
   rw[hlo]at h'
   cases hld:nY o.op with
   |true=>
    simp only[hld]at h'
    obtain⟨g,H',h1,h2⟩:=Ed h'
    obtain⟨e,h4,h3⟩:=aN.1 h2
    obtain⟨S,HH,gg,e1,e2,ht,hv,hk⟩:=Hk l _ _ _ _ h3
    refine⟨_,_,_,rfl,rfl,trc h1 e1 e2 ht,hv.cons (fun p hp=>List.mem_cons_of_mem _ hp) (fun _ h=>h) (fun h=>by rw[hlo]at h;cases h) (fun _ hh hldh=> ?_),hk⟩
    rw[hldh]at h4
    obtain⟨v,hv1,h4⟩:=aN.1 (show ob (s.H.ver hh) (fun v=>HM m i hh v hs)=some e from h4)
    obtain⟨rfl,h5⟩:=Dt h4
    exact⟨v,hv1,List.mem_cons_self,fun q Hq hq hb=>h5 (q,Hq) hq hb⟩
   |false=>
    simp only[hld]at h'
    obtain⟨g,H',h1,h2⟩:=Ed h'
    obtain⟨S,HH,gg,e1,e2,ht,hv,hk⟩:=Hk l _ _ _ _ h2
    exact⟨_,_,_,rfl,rfl,trc h1 e1 e2 ht,hv.cons (fun _ h=>h) (fun _ h=>h) (fun h=>by rw[hlo]at h;cases h) (fun h=>by rw[hld]at h;cases h),hk⟩
theorem Q_ {ih:CH} (hG:fZ P tb) (hih:sU P w0 ih) {all:List Oper} {n:Nat} {o:Oper} {σ:GF} {H H':GH} {g:GV} {ρ:gH} {a:Act} {w:World} (ho:Gs n o=true) (F:kU ρ n σ a) (R:jG w0 ρ H w) (h:En tb ih all o σ H=some (g,H')):
  ∃ρ' a' w',ρ.le ρ'∧jG w0 ρ' H' w'∧kU ρ' n (putD o.dst g σ) a':=by
 obtain⟨_,hdst,_⟩:=uO ho
 rcases Hj hG hih ho F R h with⟨_,hs⟩|⟨_,rfl,rfl⟩
 ·rcases hs with⟨_,_,_,rfl,v,hv,_⟩|⟨_,_,rfl,v,_,_,_,_,_,hv,_⟩|⟨_,_,rfl,v,hv,_⟩|⟨_,hr⟩
  ·exact⟨ρ,_,w,gH.le_refl _,R,F.putD hdst hv⟩
  ·exact⟨ρ,_,w,gH.le_refl _,R,F.putD hdst hv⟩
  ·exact⟨ρ,_,w,gH.le_refl _,R,F.putD hdst hv⟩
  ·obtain⟨a',w',ρ',v,h1,h2,h3,rfl⟩:=LB (hr (fun a' w'=>∃ρ' v,ρ.le ρ'∧jG w0 ρ' H' w'∧Rl ρ' g v∧a'=a.put o.dst v) fun ρ' w' v h1 h2 h3=>⟨ρ',v,h1,h2,h3,rfl⟩)
   exact⟨ρ',_,w',h1,h2,(F.le h1).putD hdst h3⟩
 ·exact⟨ρ,_,w,gH.le_refl _,R,F.putD hdst .un⟩
theorem Jv {ih:CH} (hG:fZ P tb) (hih:sU P w0 ih) {all:List Oper} {n:Nat} (hall:all.all (Gs n)=true) {S:Nat->GF} {HH:Nat->GH} {gg:Nat->GV} (T:Uc tb ih all all S HH gg) {ρ:gH} {a:Act} {w:World} (F:kU ρ n (S 0) a) (R:jG w0 ρ (HH 0) w):
    ∀m,m<=all.length->∃ρs:Nat->gH,(∀i,i<=m->∃a w,jG w0 (ρs i) (HH i) w∧kU (ρs i) n (S i) a)∧∀i,i<m->(ρs i).le (ρs (i+1))
  | 0, _ => ⟨fun _ => ρ, fun i hi => by
      have : i = 0 := by omega
      subst this;exact⟨a,w,R,F⟩,fun i hi=>by omega⟩
  | m + 1, hm => by
    obtain⟨ρs,h1,h2⟩:=Jv hG hih hall T F R m (by omega)
    obtain⟨a1,w1,R1,F1⟩:=h1 m (Nat.le_refl _)
    have hget:all[m]? = some all[m]:=List.getElem?_eq_getElem (by omega)
    obtain⟨ρ2,a2,w2,hle,h3,h4⟩:=Q_ hG hih (List.all_eq_true.1 hall _ (List.getElem_mem (by omega))) F1 R1 (T.st m _ hget)
    refine⟨fun i=>if i<=m then ρs i else ρ2,fun i hi=> ?_,fun i hi=> ?_⟩
    · by_cases e:i<=m
      · simp only[e,if_true];exact h1 i e
      · have:i=m+1:=by omega
        subst this
        simp only[e,if_false]
        exact⟨a2,w2,h3,by rw[T.up m _ hget];exact h4⟩
    · by_cases e:i+1<=m
      · simp only[e,show i<=m by omega,if_true];exact h2 i (by omega)
      · have:i=m:=by omega
        subst this
        simp only[e,Nat.le_refl,if_true,if_false];exact hle
theorem LY {HH:Nat->GH} {m:Nat} (h1:∀i,i<m->(HH i).n<=(HH (i+1)).n) {i:Nat}:∀{j:Nat},i<=j->j<=m->(HH i).n<=(HH j).n
  | 0, h, _ => by
      have : i = 0 := by omega
      subst this;exact Nat.le_refl _
  | j + 1, h, hj => by
    by_cases e:i=j+1
    · subst e;exact Nat.le_refl _
    · exact Nat.le_trans (LY h1 (by omega) (by omega)) (h1 j (by omega))
theorem Iy {ih:CH} {all:List Oper} {S:Nat->GF} {HH:Nat->GH} {gg:Nat->GV} (T:Uc tb ih all all S HH gg) {t:Nat} {g:GV}:∀k,k<=all.length->Eo (S k) t=some g->
  (∃i o,i<k∧all[i]? = some o∧o.dst=some t∧gg i=g∧∀j oj,i<j->j<k->all[j]? = some oj->oj.dst≠some t)∨((∀j oj,j<k->all[j]? = some oj->oj.dst≠some t)∧Eo (S 0) t=some g)
 |0,_,h=> .inr ⟨fun j oj hj=>by omega,h⟩
 | k + 1, hk, h => by
  have hget:all[k]? = some all[k]:=List.getElem?_eq_getElem (by omega)
  rw[T.up k _ hget]at h
  have old:all[k].dst≠some t->Eo (S k) t=some g->_:=fun hne h=>
   match Iy T k (by omega) h with
   | .inl ⟨i, o, h1, h2, h3, h4, h5⟩ => (.inl ⟨i, o, by omega, h2, h3, h4, fun j oj hij hj hoj => by
     by_cases e:j=k
     ·subst e;rw[hget]at hoj;cases hoj;exact hne
     ·exact h5 j oj hij (by omega) hoj⟩:(∃i o,i<k+1∧all[i]? = some o∧o.dst=some t∧gg i=g∧∀j oj,i<j->j<k+1->all[j]? = some oj->oj.dst≠some t)∨((∀j oj,j<k+1->all[j]? = some oj->oj.dst≠some t)∧Eo (S 0) t=some g))
   | .inr ⟨h1, h2⟩ => .inr ⟨fun j oj hj hoj => by
     by_cases e:j=k
     ·subst e;rw[hget]at hoj;cases hoj;exact hne
     ·exact h1 j oj (by omega) hoj,h2⟩
  cases hd:all[k].dst with
  |none=>
   rw[hd]at h
   exact old (by rw[hd];simp) h
  | some d =>
   rw[hd]at h
   have h:Eo ((d,gg k)::S k) t=some g:=h
   rw[Bd]at h
   by_cases e:t=d
   ·subst e
    rw[if_pos rfl]at h;cases h
    exact .inl ⟨k,_,by omega,hget,hd,rfl,fun j oj h1 h2=>by omega⟩
   ·rw[if_neg e]at h
    exact old (by rw[hd];intro e';cases e';exact e rfl) h
def rJ (o:Op):Bool:=fK o && !isFloat o
def HZ (tb:TB) (x o:Op):Bool:=pureOp tb x||pureOp tb o||isFloat o||(!fK x && !fK o)||(nY x&&fK o)||(fK x&&nY o)
def chkF (tb:TB) (l:List Oper) (m:List Nat):Bool:=
 (List.range l.length).all fun i=>match l[i]? with
  |none=>false
  |some o=>
   (uW o).all (fun e=>Nat.blt e i&&before m i e&&(List.range i).all (fun k=> !before m e k||before m i k)) &&
   (List.range l.length).all (fun k=> !before m i k||(Nat.blt k i&&(uW o).any (fun e=>Nat.beq e k||before m e k))) &&
   !Cb o.op &&
   (List.range i).all (fun x=>before m i x||(match l[x]? with|none=>false|some ox=>ox.apart l.toArray o&&HZ tb ox.op o.op))
structure PX (tb:TB) (l:List Oper) (m:List Nat):Prop where
 edge:∀(i:Nat) (o:Oper),l[i]? = some o->∀e∈uW o,e<i∧before m i e=true
 trans:∀(i:Nat) (o:Oper),l[i]? = some o->∀k,before m i k=true->k<l.length->k<i∧∃e∈uW o,e=k∨before m e k=true
 ind:∀(i x:Nat) (oi ox:Oper),l[i]? = some oi->l[x]? = some ox->x<i->before m i x=false->ox.apart l.toArray oi=true∧HZ tb ox.op oi.op=true
theorem Gh {l:List Oper} {m:List Nat} (h:chkF tb l m=true):PX tb l m:=by
 have key:∀(i:Nat) (o:Oper),l[i]? = some o->
   ((uW o).all (fun e=>Nat.blt e i&&before m i e&&(List.range i).all (fun k=> !before m e k||before m i k))=true)∧
   ((List.range l.length).all (fun k=> !before m i k||(Nat.blt k i&&(uW o).any (fun e=>Nat.beq e k||before m e k)))=true)∧Cb o.op=false∧
   ((List.range i).all (fun x=>before m i x||(match l[x]? with|none=>false|some ox=>ox.apart l.toArray o&&HZ tb ox.op o.op))=true):=by
  intro i o ho
  have:=List.all_eq_true.1 h i (List.mem_range.2 (bN ho))
  simp only[ho,Bool.and_eq_true,Bool.not_eq_true']at this
  exact⟨this.1.1.1,this.1.1.2,this.1.2,this.2⟩
 refine⟨?_,?_,?_⟩
 ·intro i o ho e he
  have:=List.all_eq_true.1 (key i o ho).1 e he
  simp only[Bool.and_eq_true,Nat.blt_eq]at this
  exact⟨this.1.1,this.1.2⟩
 ·intro i o ho k hk hlt
  have:=List.all_eq_true.1 (key i o ho).2.1 k (List.mem_range.2 hlt)
  simp only[hk,Bool.not_true,Bool.false_or,Bool.and_eq_true,Nat.blt_eq,List.any_eq_true,Bool.or_eq_true]at this
  obtain⟨h1,e,he,h2⟩:=this
  refine⟨h1,e,he,?_⟩
  rcases h2 with h2|h2
  ·exact .inl (Nat.eq_of_beq_eq_true h2)
  ·exact .inr h2
 ·intro i x oi ox hi hx hlt hb
  have:=(key i oi hi).2.2.2
  have:=List.all_eq_true.1 this x (List.mem_range.2 hlt)
  simp only[hb,Bool.false_or,hx,Bool.and_eq_true]at this
  exact this
theorem PL (hG:fZ P tb) {T:TypeId} {ρ:gH} {H H':GH} {g v u:GV} {V U:Value} (hv:Rl ρ v V) (hu:Rl ρ u U) (h:Mb tb T v u H=some (g,H')):
  ∃cs a' T',H'=H.new (.cells cs)∧NJ ρ cs a'∧cs.length=a'.size∧∀w:World,∃X,(Instr.makeSlice T V U).run P w = .ok X (w.alloc (.cells a' T'))∧∀ρ':gH,ρ' H.n=some ⟨w.heap.size,0,a'.size,.cells a' T',.cells cs⟩->Rl ρ' g X:=by
 obtain⟨te,hte,h⟩:=aN.1 (show ob (AH tb T) _=some (g,H')from h)
 obtain⟨zc,hz,h⟩:=aN.1 h
 obtain⟨k,hk,h⟩:=aN.1 h
 obtain⟨c,hc,h⟩:=aN.1 h
 obtain⟨heq,h⟩:=cN.1 h
 obtain⟨n,hn,h⟩:=aN.1 h
 obtain⟨hlen,h⟩:=cN.1 h
 obtain⟨hby,h⟩:=cN.1 h
 obtain⟨hn2,h⟩:=cN.1 h
 obtain⟨h0,h⟩:=mP.1 h
 rw[Rb,jK]at h;cases h
 obtain⟨⟨d,hd,hde⟩,hE,htab⟩:=xJ hG hte
 obtain⟨dz,hdz,_,hC⟩:=uU (ρ:=ρ) hG hz
 rw[htab]at hdz;cases hdz
 have hlen:zc.length=te.2.size:=Nat.eq_of_beq_eq_true hlen
 have h0:te.2.size≠0:=fun e=>by rw[e]at h0;cases h0
 have hby:n*te.2.bytes<16777216:=by simpa [Nat.blt_eq]using hby
 have hn2:n<16777216:=by simpa [Nat.blt_eq]using hn2
 rw[nW hk]at hv
 rw[nW hc]at hu
 rw[Gl]at heq
 have heq:=of_decide_eq_true heq
 rw[hv.int_inv,hu.int_inv,<-heq,EO hn]
 have hrep:=FJ hC (by omega) n
 rw[hlen]at hrep
 obtain⟨iE,hiE,hs,hb,hze⟩:=hE.info
 have hund:=hd.und
 rw[hde]at hund
 have hbb:(iE.bytes:Int)*(n:Int)<=281474976710656:=by
  have e:(te.2.bytes:Int)*(n:Int)=((n*te.2.bytes:Nat):Int):=by rw[Nat.mul_comm];simp
  rw[hb,e];omega
 refine⟨_,_,te.1,rfl,hrep,by have:=hrep.r.len;simpa using this,fun w=>⟨_,?_,fun ρ' hρ=> .sl hρ (Nat.le_refl n) (.inr ⟨rfl,?_⟩)⟩⟩
 ·rw[run_make (P:=P) w T te.1 iE te.2.zero hund hiE hze k.1 c.1 n n (by omega) (Int.le_refl _) hbb (by omega)]
  simp[madeCells,hs]
 ·simp
theorem Jj {ih:CH} (hG:fZ P tb) {all:List Oper} {n:Nat} {o:Oper} {σ:GF} {H H':GH} {g:GV} {ρ:gH} {a:Act} (hf:isFloat o.op=true) (F:kU ρ n σ a) (h:En tb ih all o σ H=some (g,H')):
  (Region.wanted o (yielded all.toArray a.tmps)=false∧g = .un∧H'=H)∨
  (Region.wanted o (yielded all.toArray a.tmps)=true∧∃cs a' T',H'=H.new (.cells cs)∧NJ ρ cs a'∧cs.length=a'.size∧∀w:World,∃V,(execOp a.eval o).run P w = .ok (.value V) (w.alloc (.cells a' T'))∧∀ρ':gH,ρ' H.n=some ⟨w.heap.size,0,a'.size,.cells a' T',.cells cs⟩->Rl ρ' g V):=by
 rcases Ec F h with⟨hw,hg⟩|h
 ·refine .inr ⟨hw,?_⟩
  obtain⟨d,op,ty,pos,aft,gd⟩:=o
  cases op with
  |buildSlice T m ps=>
   obtain⟨vs,hvs,hg⟩:=aN.1 (show ob (uX σ ps.toList) _=some (g,H')from hg)
   obtain⟨g',H'',hg,hk⟩:=mA hg
   cases hk
   obtain⟨cs,a',T',len,sz,h1,h2,h3,h4,h5⟩:=L_ (P:=P) hG (Ca F hvs) hg
   refine⟨cs,a',T',h1,h3,h4,fun w=> ?_⟩
   obtain⟨V,hr,hv⟩:=h5 w
   refine⟨V,?_,hv⟩
   have e:(ps.toList.map fun p=>(p.1,a.eval p.2)).toArray=ps.map fun p=>(p.1,a.eval p.2):=by apply Array.toList_inj.1;simp
   rw[e]at hr
   simp[execOp,hr]
  |alloc T=>
   obtain⟨g',H'',hg,hk⟩:=mA (show f_ (sN tb T H) EA=some (g,H')from hg)
   cases hk
   obtain⟨zc,hz,hg⟩:=aN.1 (show ob (BP tb T) _=some (g,H')from hg)
   rw[jK]at hg;cases hg
   obtain⟨d,hd,hT,hC⟩:=uU (ρ:=ρ) hG hz
   refine⟨zc,d.zero.cells,T,rfl,hC,by have:=hC.r.len;simpa using this,fun w=>⟨_,?_,fun ρ' hρ=> .ptr (l:=⟨w.heap.size,0,d.zero.cells.size,.cells d.zero.cells T,.cells zc⟩) 0 hρ⟩⟩
   simp[execOp,Gt w hT]
  |makeSlice T x y=>
   obtain⟨v,hv,hg⟩:=aN.1 (show ob (kB σ x) (fun v=>ob (kB σ y) fun u=>f_ (Mb tb T v u H) EA)=some (g,H')from hg)
   obtain⟨u,hu,hg⟩:=aN.1 hg
   obtain⟨g',H'',hg,hk⟩:=mA hg
   cases hk
   obtain⟨cs,a',T',h1,h3,h4,h5⟩:=PL (P:=P) hG (dH F hv) (dH F hu) hg
   refine⟨cs,a',T',h1,h3,h4,fun w=> ?_⟩
   obtain⟨V,hr,hv⟩:=h5 w
   refine⟨V,?_,hv⟩
   simp[execOp,hr]
  |box T x=>
   obtain⟨v,hv,hg⟩:=aN.1 (show ob (kB σ x) (fun v=>f_ (F_ v H) EA)=some (g,H')from hg)
   obtain⟨g',H'',hg,hk⟩:=mA hg
   cases hk
   obtain⟨vc,hc,hg⟩:=aN.1 (show ob v.cells _=some (g,H')from hg)
   rw[jK]at hg;cases hg
   obtain⟨vs,e,hr,h1⟩:=(dH F hv).cells hc
   refine⟨vc,(a.eval x).cells,T,rfl,by rw[e];exact⟨hr,h1⟩,by rw[e];have:=hr.len;simpa using this,fun w=>⟨_,?_,fun ρ' hρ=> .ptr (l:=⟨w.heap.size,0,(a.eval x).cells.size,.cells (a.eval x).cells T,.cells vc⟩) 0 hρ⟩⟩
   simp[execOp,Instr.box,newVar,newRow]
  |_=>cases hf
 ·exact .inl h
end
end
section
def Fa (ρ pm:gH):gH:=fun h=>match ρ h with
 |some l=>some l
 |none=>pm h
theorem xT {ρ pm:gH} {h:Nat} {l:Mm} (e:ρ h=some l):Fa ρ pm h=some l:=by simp[Fa,e]
theorem xS {ρ pm:gH} {h:Nat} (e:ρ h=none):Fa ρ pm h=pm h:=by simp[Fa,e]
theorem FA {ρ pm:gH}:ρ.le (Fa ρ pm):=fun _ _ e=>xT e
def Wx (all:List Oper) (S0:GF) (gg:Nat->GV) (D:Nat->Bool) (t:Nat) (g:GV):Prop:=
 (∃i o,D i=true∧all[i]? = some o∧o.dst=some t∧gg i=g∧∀j oj,D j=true->all[j]? = some oj->oj.dst=some t->j<=i)∨((∀j oj,D j=true->all[j]? = some oj->oj.dst≠some t)∧Eo S0 t=some g)
def ins (D:Nat->Bool) (k:Nat):Nat->Bool:=fun j=>j==k||D j
theorem Bg (D:Nat->Bool) (k:Nat):ins D k k=true:=by simp[ins]
theorem AJ {D:Nat->Bool} {k j:Nat} (h:j≠k):ins D k j=D j:=by simp[ins,h]
theorem Bf {D:Nat->Bool} {k j:Nat} (h:D j=true):ins D k j=true:=by simp[ins,h]
noncomputable def CY (σ:GF) (L:List Nat):GF:=L.filterMap fun t=>(Eo σ t).map fun g=>(t,g)
theorem B_ {σ:GF} {t:Nat}:∀{L:List Nat},Eo (CY σ L) t=if t∈L then Eo σ t else none
 | []=>rfl
 | x :: L => by
  have ih:=B_ (σ:=σ) (t:=t) (L:=L)
  cases hx:Eo σ x with
  |none=>
   have e:CY σ (x::L)=CY σ L:=by simp[CY,hx]
   rw[e,ih]
   by_cases e1:t=x
   ·subst e1;simp[hx]
   ·simp[e1]
  |some g=>
   have e:CY σ (x::L)=(x,g)::CY σ L:=by simp[CY,hx]
   rw[e,Bd,ih]
   by_cases e1:t=x
   ·subst e1;simp[hx]
   ·simp[e1]
section
variable {P:Program} {tb:TB} {gs:BQ} {w0:iQ gs} {ih:CH} {all:List Oper} {n:Nat} {S:Nat->GF} {HH:Nat->GH} {gg:Nat->GV}
structure xC (P:Program) (tb:TB) {gs:BQ} (w0:iQ gs) (ih:CH) (all:List Oper) (n:Nat) (S:Nat->GF) (HH:Nat->GH) (gg:Nat->GV):Prop where
 tab:fZ P tb
 call:∀w0:iQ gs,sU P w0 ih
 ops:all.all (Gs n)=true
 chk:PX tb all (pI all)
 trc:Uc tb ih all all S HH gg
 vrs:∀k ok h v,all[k]? = some ok->nY ok.op=true->Tz (S k) ok.op=some h->(HH k).ver h=some v->
  (∀j oj,j<k->all[j]? = some oj->fK oj.op=true->before (pI all) k j=false->(HH j).ver h=some v)∧(∀j oj,k<j->all[j]? = some oj->fK oj.op=true->before (pI all) j k=false->(HH (j+1)).ver h=some v)
 chain:∃ρs:Nat->gH,(∀i,i<=all.length->∃a w,jG w0 (ρs i) (HH i) w∧kU (ρs i) n (S i) a)∧∀i,i<all.length->(ρs i).le (ρs (i+1))
theorem xC.ghost (E:xC P tb w0 ih all n S HH gg) (i:Nat) (hi:i<=all.length):∃ρ a w,jG w0 ρ (HH i) w∧kU ρ n (S i) a:=
 let ⟨ρs,h,_⟩:=E.chain
 ⟨ρs i,h i hi⟩
theorem xC.mono (E:xC P tb w0 ih all n S HH gg) (i:Nat) (hi:i<all.length):(HH i).n<=(HH (i+1)).n:=by
 obtain⟨ρs,h,hle⟩:=E.chain
 obtain⟨_,_,R1,_⟩:=h i (Nat.le_of_lt hi)
 obtain⟨_,_,R2,_⟩:=h (i+1) hi
 exact R1.mono R2 (hle i hi)
theorem Lq {ρs:Nat->gH} {m:Nat} (h:∀i,i<m->(ρs i).le (ρs (i+1))) {i:Nat}:∀{j:Nat},i<=j->j<=m->(ρs i).le (ρs j)
  | 0, h1, _ => by
      have : i = 0 := by omega
      subst this;exact gH.le_refl _
  | j + 1, h1, hj => by
    by_cases e:i=j+1
    · subst e;exact gH.le_refl _
    · exact gH.le_trans (Lq h (by omega) (by omega)) (h j (by omega))
theorem xC.same (E:xC P tb w0 ih all n S HH gg) {i j:Nat} (hij:i<=j) (hj:j<=all.length) {h v:Nat} (h1:(HH i).ver h=some v) (h2:(HH j).ver h=some v):(HH i).get h=(HH j).get h:=by
 obtain⟨ρs,hg,hle⟩:=E.chain
 have hc:=Lq hle hij hj
 obtain⟨_,w1,R1,_⟩:=hg i (by omega)
 obtain⟨_,w2,R2,_⟩:=hg j hj
 have live:∀{k:Nat},(HH k).ver h=some v->∃o,(HH k).get h=some o:=fun {k} hv=>by
  obtain⟨p,hp,_⟩:=aN.1 (show ob ((HH k).t.get h) _=some v from hv)
  exact⟨p.2,by unfold GH.get;rw[hp];rfl⟩
 obtain⟨o1,ho1⟩:=live h1
 obtain⟨o2,ho2⟩:=live h2
 obtain⟨l1,hl1,_⟩:=R1.live h o1 ho1
 obtain⟨l2,hl2,_⟩:=R2.live h o2 ho2
 obtain⟨lv1,a1,_,b1⟩:=R1.vers h v l1 h1 hl1
 obtain⟨lv2,a2,_,b2⟩:=R2.vers h v l2 h2 hl2
 have:=hc _ _ a1
 rw[a2]at this;cases this
 rw[b1,b2]
theorem xC.op (E:xC P tb w0 ih all n S HH gg) {k:Nat} {o:Oper} (hk:all[k]? = some o):Gs n o=true:=List.all_eq_true.1 E.ops o (List.mem_of_getElem? hk)
theorem xC.quiet (E:xC P tb w0 ih all n S HH gg) {k:Nat} {o:Oper} (hk:all[k]? = some o) (hq:fK o.op=false):HH (k+1)=HH k:=by
 obtain⟨ρ,a,w,R,F⟩:=E.ghost k (Nat.le_of_lt (bN hk))
 rcases Hj E.tab (E.call w0) (E.op hk) F R (E.trc.st k o hk)with⟨_,hs⟩|⟨_,_,h⟩
 ·rcases hs with⟨_,_,_,h,_⟩|⟨_,_,h,_⟩|⟨_,_,h,_⟩|⟨h,_⟩
  ·exact h
  ·exact h
  ·exact h
  ·rw[hq]at h;cases h
 ·exact h
theorem xC.floats (E:xC P tb w0 ih all n S HH gg) {k:Nat} {o:Oper} (hk:all[k]? = some o) (hf:isFloat o.op=true):HH (k+1)=HH k∨∃cs,HH (k+1)=(HH k).new (.cells cs):=by
 obtain⟨ρ,a,w,R,F⟩:=E.ghost k (Nat.le_of_lt (bN hk))
 rcases Jj (P:=P) E.tab hf F (E.trc.st k o hk)with⟨_,_,h⟩|⟨_,cs,_,_,h,_⟩
 ·exact .inl h
 ·exact .inr ⟨cs,h⟩
theorem Rs {H:GH} {o:GO} (h:H=H.new o):False:=by
 have:H.n=H.n+1:=congrArg GH.n h
 omega
theorem Pv {H:GH} {c c':List GV} (h:H.new (.cells c)=H.new (.cells c')):c=c':=by
 have h1:=sV H (.cells c) H.n
 have h2:=sV H (.cells c') H.n
 rw[if_pos rfl]at h1 h2
 rw[h,h2]at h1
 cases h1;rfl
theorem xC.mono' (E:xC P tb w0 ih all n S HH gg) {i j:Nat} (h:i<=j) (hj:j<=all.length):(HH i).n<=(HH j).n:=LY E.mono h hj
theorem xC.apart (E:xC P tb w0 ih all n S HH gg) {i j:Nat} {ci cj:List GV} (hi:i<all.length) (hj:j<all.length) (ei:HH (i+1)=(HH i).new (.cells ci)) (ej:HH (j+1)=(HH j).new (.cells cj)) (h:(HH i).n=(HH j).n):i=j:=by
 have ei':(HH (i+1)).n=(HH i).n+1:=by rw[ei];rfl
 have ej':(HH (j+1)).n=(HH j).n+1:=by rw[ej];rfl
 rcases Nat.lt_trichotomy i j with h1|h1|h1
 ·have:=E.mono' (i:=i+1) (j:=j) (by omega) (by omega);omega
 ·exact h1
 ·have:=E.mono' (i:=j+1) (j:=i) (by omega) (by omega);omega
structure xP {gs:BQ} (w0:iQ gs) (ρb:gH) (n:Nat) (all:List Oper) (S0:GF) (HH:Nat->GH) (gg:Nat->GV) (D:Nat->Bool) (a:Act) (w:World) (t:Nat) (ρ pm:gH):Prop where
 tm:t<=all.length
 lou:∀j o,all[j]? = some o->rJ o.op=true->(D j=true↔j<t)
 flo:∀j o,all[j]? = some o->isFloat o.op=true->j<t->D j=true
 rel:jG w0 ρ (HH t) w
 up:ρb.le ρ
 defers:a.defers=[]
 size:a.tmps.size=n
 slot:∀s g,Wx all S0 gg D s g->Rl (Fa ρ pm) g (a.eval (.tmp s))
 pend:∀i o cs,all[i]? = some o->isFloat o.op=true->HH (i+1)=(HH i).new (.cells cs)->t<=i->D i=true->∃l,pm (HH i).n=some l∧w0.mine l.b∧¬PZ ρ (HH t) l.b∧w.heap[l.b]? = some l.x∧CV (Fa ρ pm) w l (.cells cs)∧l.o = .cells cs
 only:∀h l,pm h=some l->∃i o cs,all[i]? = some o∧isFloat o.op=true∧HH (i+1)=(HH i).new (.cells cs)∧t<=i∧D i=true∧h=(HH i).n
 inj:∀h h' l l',pm h=some l->pm h'=some l'->l.b=l'.b->h=h'
variable {D:Nat->Bool} {a:Act} {w:World} {t:Nat} {ρ pm ρb:gH}
theorem xP.low (E:xC P tb w0 ih all n S HH gg) (I:xP w0 ρb n all (S 0) HH gg D a w t ρ pm) {h:Nat} {l:Mm} (hp:pm h=some l):(HH t).n<=h:=by
 obtain⟨i,o,cs,h1,_,_,h4,_,rfl⟩:=I.only h l hp
 exact E.mono' h4 (Nat.le_of_lt (bN h1))
theorem xP.adopt (E:xC P tb w0 ih all n S HH gg) (I:xP w0 ρb n all (S 0) HH gg D a w t ρ pm) {o:Oper} (ho:all[t]? = some o) (hl:rJ o.op=false) (hf:isFloat o.op=true->D t=true):
  ∃ρ' pm',xP w0 ρb n all (S 0) HH gg D a w (t+1) ρ' pm'∧Fa ρ' pm'=Fa ρ pm:=by
 have ht:=bN ho
 have lou':∀j o,all[j]? = some o->rJ o.op=true->(D j=true↔j<t+1):=fun j oj hj hlj=>by
  have hne:j≠t:=fun e=>by subst e;rw[ho]at hj;cases hj;rw[hl]at hlj;cases hlj
  rw[I.lou j oj hj hlj];omega
 have flo':∀j o,all[j]? = some o->isFloat o.op=true->j<t+1->D j=true:=fun j oj hj hfj hlt=>by
  by_cases e:j=t
  ·subst e;rw[ho]at hj;cases hj;exact hf hfj
  ·exact I.flo j oj hj hfj (by omega)
 -- nothing is taken up
 have same:HH (t+1)=HH t->∃ρ' pm',xP w0 ρb n all (S 0) HH gg D a w (t+1) ρ' pm'∧Fa ρ' pm'=Fa ρ pm:=fun e=>
  ⟨ρ,pm,⟨ht,lou',flo',by rw[e];exact I.rel,I.up,I.defers,I.size,I.slot,fun i oi cs h1 h2 h3 h4 h5=>by rw[e];exact I.pend i oi cs h1 h2 h3 (by omega) h5,fun h l hp=>by
   obtain⟨i,oi,cs,h1,h2,h3,h4,h5,h6⟩:=I.only h l hp
   refine⟨i,oi,cs,h1,h2,h3,?_,h5,h6⟩
   by_cases e':i=t
   ·subst e';rw[e]at h3;exact(Rs h3).elim
   ·omega,I.inj⟩,rfl⟩
 cases hfl:isFloat o.op with
 |false=>exact same (E.quiet ho (by simpa [rJ,hfl]using hl))
 | true =>
  rcases E.floats ho hfl with e|⟨cs,e⟩
  ·exact same e
  obtain⟨l,hp,hmine,hheld,hx,hobj,hlo⟩:=I.pend t o cs ho hfl e (Nat.le_refl _) (hf hfl)
  have hfresh:ρ (HH t).n=none:=I.rel.fresh _ (Nat.le_refl _)
  let ρ':=ρ.upd (HH t).n l
  let pm':gH:=fun h=>if h=(HH t).n then none else pm h
  have hself:ρ' (HH t).n=some l:=by simp[ρ',gH.upd]
  have hoth:∀h,h≠(HH t).n->ρ' h=ρ h:=fun h hh=>by simp[ρ',gH.upd,hh]
  have hjn:Fa ρ' pm'=Fa ρ pm:=by
   funext h
   by_cases eh:h=(HH t).n
   ·subst eh;rw[xT hself,xS hfresh,hp]
   ·unfold Fa;rw[hoth h eh];simp[pm',eh]
  have hn:(HH (t+1)).n=(HH t).n+1:=by rw[e];rfl
  -- what the object holds is older
  have hcut:∀{g:GV} {v v0:Value} {ρ0:gH},(∀h l,ρ0 h=some l->h<(HH (t+1)).n)->Rl (Fa ρ pm) g v->Rl ρ0 g v0->Rl ρ' g v:=fun {g v v0 ρ0} hlow h1 h0=>by
   refine Qi (fun h l0 l1 e0 e1=> ?_) h1 h0
   have hlt:=hlow h l0 e0
   by_cases eh:h=(HH t).n
   ·subst eh;rw[xS hfresh,hp]at e1;rw[hself];exact e1
   ·rw[hoth h eh]
    cases hr:ρ h with
    |some l2=>rw[xT hr]at e1;exact e1
    |none=>
     rw[xS hr]at e1
     have:=I.low E e1
     omega
  obtain⟨ρ0,a0,wg,R0,F0⟩:=E.ghost (t+1) ht
  have hlow0:∀h l,ρ0 h=some l->h<(HH (t+1)).n:=fun h l hl=>by
   rcases Nat.lt_or_ge h (HH (t+1)).n with h'|h'
   ·exact h'
   ·rw[R0.fresh h h']at hl;cases hl
  have hgetn:(HH (t+1)).get (HH t).n=some (.cells cs):=by rw[e,sV,if_pos rfl]
  obtain⟨l0,_,_,hob0⟩:=R0.live _ _ hgetn
  obtain⟨cur0,T0,q1,q2,q3,q4⟩:=hob0
  have hobj':CV ρ' w l (.cells cs):=by
   obtain⟨cur,T,p1,p2,p3,p4⟩:=hobj
   refine⟨cur,T,p1,p2,p3,fun i g hg=> ?_⟩
   obtain⟨v,r1,r2,r3⟩:=p4 i g hg
   obtain⟨v0,_,s2,_⟩:=q4 i g hg
   exact⟨v,r1,hcut hlow0 r2 s2,r3⟩
  obtain⟨hle,R'⟩:=I.rel.new (o:= .cells cs) (l:=l) I.rel.ext (fun h o' l' hg hl'=>⟨rfl,fun eb=>hheld ⟨h,o',l',hg,hl',eb⟩⟩) hmine hobj' hx hlo
  rw[<-e]at R'
  refine⟨ρ',pm',⟨ht,lou',flo',R',gH.le_trans I.up hle,I.defers,I.size,fun s g hs=>by rw[hjn];exact I.slot s g hs,fun i oi ci h1 h2 h3 h4 h5=> ?_,fun h l1 hp1=> ?_,fun h h' l1 l2 h1 h2 hb=> ?_⟩,hjn⟩
  ·obtain⟨li,a1,a2,a3,a4,a5,a6⟩:=I.pend i oi ci h1 h2 h3 (by omega) h5
   have hne:(HH i).n≠(HH t).n:=fun eh=>by
    have:=E.apart (bN h1) ht h3 e eh;omega
   refine⟨li,by simp[pm',hne,a1],a2,?_,a4,by rw[hjn];exact a5,a6⟩
   rintro⟨h,o',l',hg,hl',eb⟩
   rw[e,sV]at hg
   by_cases eh:h=(HH t).n
   ·subst eh;rw[hself]at hl';cases hl'
    exact hne (I.inj _ _ _ _ a1 hp eb.symm)
   ·rw[if_neg eh]at hg
    rw[hoth h eh]at hl'
    exact a3 ⟨h,o',l',hg,hl',eb⟩
  ·have hne:h≠(HH t).n:=fun eh=>by subst eh;simp[pm']at hp1
   have hp1:pm h=some l1:=by simpa [pm',hne]using hp1
   obtain⟨i,oi,ci,h1,h2,h3,h4,h5,h6⟩:=I.only h l1 hp1
   refine⟨i,oi,ci,h1,h2,h3,?_,h5,h6⟩
   by_cases e':i=t
   ·subst e';exact absurd h6 hne
   ·omega
  ·have h1:pm h=some l1:=by
    by_cases eh:h=(HH t).n
    ·simp[pm',eh]at h1
    ·simpa [pm',eh]using h1
   have h2:pm h'=some l2:=by
    by_cases eh:h'=(HH t).n
    ·simp[pm',eh]at h2
    ·simpa [pm',eh]using h2
   exact I.inj h h' l1 l2 h1 h2 hb
theorem xP.adoptTo (E:xC P tb w0 ih all n S HH gg):∀(d t k:Nat) (ρ pm:gH),xP w0 ρb n all (S 0) HH gg D a w t ρ pm->t+d=k->k<=all.length->(∀j o,t<=j->j<k->all[j]? = some o->rJ o.op=false∧(isFloat o.op=true->D j=true))->
  ∃ρ' pm',xP w0 ρb n all (S 0) HH gg D a w k ρ' pm'∧Fa ρ' pm'=Fa ρ pm
 |0,t,k,ρ,pm,I,hd,hk,_=>by
  have:t=k:=by omega
  subst this
  exact⟨ρ,pm,I,rfl⟩
 |d+1,t,k,ρ,pm,I,hd,hk,h=>by
  have ho:all[t]? = some all[t]:=List.getElem?_eq_getElem (by omega)
  obtain⟨h1,h2⟩:=h t _ (Nat.le_refl _) (by omega) ho
  obtain⟨ρ1,pm1,I1,e1⟩:=I.adopt E ho h1 h2
  obtain⟨ρ2,pm2,I2,e2⟩:=xP.adoptTo E d (t+1) k ρ1 pm1 I1 (by omega) hk (fun j o h1 h2=>h j o (by omega) h2)
  exact⟨ρ2,pm2,I2,by rw[e2,e1]⟩
def Cl (all:List Oper) (D:Nat->Bool):Prop:=∀j k,D j=true->before (pI all) j k=true->k<all.length->D k=true
structure MB (all:List Oper) (D:Nat->Bool) (k:Nat) (o:Oper):Prop where
 get:all[k]? = some o
 undone:D k=false
 past:∀j,before (pI all) k j=true->j<all.length->D j=true
theorem MB.behind (C:PX tb all (pI all)) (hcl:Cl all D) {k:Nat} {o:Oper} (hr:MB all D k o) {j:Nat} {oj:Oper} (hj:all[j]? = some oj) (hD:D j=true) (hlt:k<j):o.apart all.toArray oj=true∧HZ tb o.op oj.op=true:=by
 cases hb:before (pI all) j k with
 |false=>exact C.ind j k oj o hj hr.get hlt hb
 |true=>
  have:=hcl j k hD hb (bN hr.get)
  rw[hr.undone]at this;cases this
theorem MB.ahead (C:PX tb all (pI all)) {k:Nat} {o:Oper} (hr:MB all D k o) {j:Nat} {oj:Oper} (hj:all[j]? = some oj) (hlt:j<k):D j=true∨oj.apart all.toArray o=true∧HZ tb oj.op o.op=true:=by
 cases hb:before (pI all) k j with
 |true=>exact .inl (hr.past j hb (bN hj))
 |false=>exact .inr (C.ind k j o oj hr.get hj hlt hb)
theorem MB.look (E:xC P tb w0 ih all n S HH gg) (hcl:Cl all D) {k:Nat} {o:Oper} (hr:MB all D k o) {s:Nat} {g:GV} (hs:s∈o.looksAt all.toArray) (hg:Eo (S k) s=some g):Wx all (S 0) gg D s g:=by
 have none_behind:∀j oj,D j=true->all[j]? = some oj->oj.dst=some s->j<k:=fun j oj hD hj hd=>by
  rcases Nat.lt_trichotomy j k with h|h|h
  ·exact h
  ·subst h;rw[hr.undone]at hD;cases hD
  ·obtain⟨h1,_⟩:=hr.behind E.chk hcl hj hD h
   exact absurd hs ((Oper.apart_spec h1).2.2 s hd)
 rcases Iy E.trc k (Nat.le_of_lt (bN hr.get)) hg with⟨i,oi,h1,h2,h3,h4,h5⟩|⟨h1,h2⟩
 ·refine .inl ⟨i,oi,?_,h2,h3,h4,fun j oj hD hj hd=> ?_⟩
  ·rcases hr.ahead E.chk h2 h1 with h|⟨h,_⟩
   ·exact h
   ·exact absurd hs ((Oper.apart_spec h).1 s h3)
  ·have:=none_behind j oj hD hj hd
   rcases Nat.lt_or_ge i j with h|h
   ·exact absurd hd (h5 j oj h this hj)
   ·exact h
 ·exact .inr ⟨fun j oj hD hj hd=>h1 j oj (none_behind j oj hD hj hd) hj hd,h2⟩
theorem MB.slot (C:PX tb all (pI all)) (hcl:Cl all D) {S0:GF} {k:Nat} {o:Oper} (hr:MB all D k o) (hdst:∀d,o.dst=some d->d<n) (hsz:a.tmps.size=n) {ρ1 ρ2:gH} (hle:ρ1.le ρ2) (hslot:∀s g,Wx all S0 gg D s g->Rl ρ1 g (a.eval (.tmp s))) {v:Value} (hv:Rl ρ2 (gg k) v):
  ∀s g,Wx all S0 gg (ins D k) s g->Rl ρ2 g ((a.put o.dst v).eval (.tmp s)):=fun s g hs=>by
 have behind:∀j oj,D j=true->all[j]? = some oj->o.dst=some s->oj.dst=some s->j<k:=fun j oj hD hj hd hd'=>by
  rcases Nat.lt_trichotomy j k with h|h|h
  ·exact h
  ·subst h;rw[hr.undone]at hD;cases hD
  ·obtain⟨h1,_⟩:=hr.behind C hcl hj hD h
   exact absurd hd' ((Oper.apart_spec h1).2.1 s hd)
 by_cases hd:o.dst=some s
 ·have hg:gg k=g:=by
   rcases hs with⟨i,oi,h1,h2,h3,h4,h5⟩|⟨h1,_⟩
   ·have hk:=h5 k o (Bg D k) hr.get hd
    by_cases e:i=k
    ·subst e;exact h4
    ·rw[AJ e]at h1
     have:=behind i oi h1 h2 hd h3
     omega
   ·exact absurd hd (h1 k o (Bg D k) hr.get)
  rw[hd,<-hg]
  have hs':=hdst s hd
  have:(a.put (some s) v).eval (.tmp s)=v:=by simp[Act.put,Act.eval,hsz,hs']
  rw[this];exact hv
 ·have he:(a.put o.dst v).eval (.tmp s)=a.eval (.tmp s):=Act.eval_put fun d hd' e=>by cases e;exact hd hd'
  rw[he]
  refine(hslot s g ?_).le hle
  rcases hs with⟨i,oi,h1,h2,h3,h4,h5⟩|⟨h1,h2⟩
  ·have e:i≠k:=fun e=>by subst e;rw[hr.get]at h2;cases h2;exact hd h3
   rw[AJ e]at h1
   exact .inl ⟨i,oi,h1,h2,h3,h4,fun j oj hD=>h5 j oj (Bf hD)⟩
  ·exact .inr ⟨fun j oj hD=>h1 j oj (Bf hD),h2⟩
theorem Ei (a:Act) (d:Option Tmp) (v:Value):(a.put d v).defers=a.defers∧(a.put d v).tmps.size=a.tmps.size:=by
 cases d with
 |none=>exact⟨rfl,rfl⟩
 |some d=>exact⟨rfl,by simp[Act.put]⟩
theorem xP.plain (E:xC P tb w0 ih all n S HH gg) (hcl:Cl all D) (I:xP w0 ρb n all (S 0) HH gg D a w t ρ pm) {k:Nat} {o:Oper} (hr:MB all D k o) (hl:rJ o.op=false) (hf:isFloat o.op=true->HH (k+1)=HH k) {v:Value} (hv:Rl (Fa ρ pm) (gg k) v):
  xP w0 ρb n all (S 0) HH gg (ins D k) (a.put o.dst v) w t ρ pm:=by
 obtain⟨_,hdst,_⟩:=uO (E.op hr.get)
 obtain⟨p1,p2⟩:=Ei a o.dst v
 refine⟨I.tm,fun j oj hj hlj=> ?_,fun j oj hj hfj hlt=>Bf (I.flo j oj hj hfj hlt),I.rel,I.up,by rw[p1];exact I.defers,by rw[p2];exact I.size,hr.slot E.chk hcl hdst I.size (gH.le_refl _) I.slot hv,fun i oi cs h1 h2 h3 h4 h5=> ?_,fun h l hp=> ?_,I.inj⟩
 ·have e:j≠k:=fun e=>by subst e;rw[hr.get]at hj;cases hj;rw[hl]at hlj;cases hlj
  rw[AJ e];exact I.lou j oj hj hlj
 ·have e:i≠k:=fun e=>by
   subst e;rw[hr.get]at h1;cases h1;rw[hf h2]at h3;exact Rs h3
  rw[AJ e]at h5
  exact I.pend i oi cs h1 h2 h3 h4 h5
 ·obtain⟨i,oi,cs,h1,h2,h3,h4,h5,h6⟩:=I.only h l hp
  exact⟨i,oi,cs,h1,h2,h3,h4,Bf h5,h6⟩
def JK (all:List Oper) (D:Nat->Bool) (t:Nat):Prop:=t=0∨∃o,all[t - 1]? = some o∧rJ o.op=true∧D (t - 1)=true
theorem JK.ins {k:Nat} (h:JK all D t):JK all (ins D k) t:=by
 rcases h with h|⟨o,h1,h2,h3⟩
 ·exact .inl h
 ·exact .inr ⟨o,h1,h2,Bf h3⟩
theorem Eh {o:Op} (h:pureOp tb o=true):fK o=false:=by
 unfold pureOp at h
 split at h<;>first|rfl|cases h
theorem ES {o:Op} (h:isFloat o=true):fK o=true:=by
 unfold isFloat at h
 split at h<;>first|rfl|cases h
theorem HT {o:Op} (h:isFloat o=true):pureOp tb o=false:=by
 cases hp:pureOp tb o with
 |false=>rfl
 |true=>have:=Eh hp;rw[ES h]at this;cases this
theorem xP.reach (E:xC P tb w0 ih all n S HH gg) (hcl:Cl all D) (I:xP w0 ρb n all (S 0) HH gg D a w t ρ pm) (hlast:JK all D t) {k:Nat} {o:Oper} (hr:MB all D k o) (hp:pureOp tb o.op=false) (hf:isFloat o.op=false) (hld:nY o.op=false):
  ∃ρ' pm',xP w0 ρb n all (S 0) HH gg D a w k ρ' pm'∧Fa ρ' pm'=Fa ρ pm:=by
 have hk:=bN hr.get
 have htk:t<=k:=by
  rcases hlast with h|⟨oj,h1,h2,h3⟩
  ·omega
  ·rcases Nat.lt_or_ge (t - 1) k with h|h
   ·omega
   ·exfalso
    by_cases e:t - 1=k
    ·rw[e,hr.undone]at h3;cases h3
    ·obtain⟨_,h4⟩:=hr.behind E.chk hcl h1 h3 (by omega)
     simp only[rJ,Bool.and_eq_true,Bool.not_eq_true']at h2
     have:pureOp tb oj.op=false:=by
      cases hq:pureOp tb oj.op with
      |false=>rfl
      |true=>have:=Eh hq;rw[h2.1]at this;cases this
     have hlj:nY oj.op=false:=by
      cases hq:nY oj.op with
      |false=>rfl
      |true=>rw[Bi hq]at h2;cases h2.1
     simp[HZ,hp,this,h2.1,h2.2,hld,hlj]at h4
 refine I.adoptTo E (k - t) t k ρ pm (by omega) (by omega) fun j oj h1 h2 hj=> ?_
 have hnot:D j=true∨fK oj.op=false∨pureOp tb oj.op=true:=by
  rcases hr.ahead E.chk hj h2 with h|⟨_,h⟩
  ·exact .inl h
  ·simp only[HZ,hp,hf,hld,Bool.or_false,Bool.and_false,Bool.or_eq_true,Bool.and_eq_true,Bool.not_eq_true']at h
   rcases h with(h|h)|h
   ·exact .inr (.inr h)
   ·exact .inr (.inl h.1)
   ·exact .inr (.inl (Bi h.1))
 refine⟨?_,fun hfj=> ?_⟩
 ·cases hlj:rJ oj.op with
  |false=>rfl
  |true=>
   exfalso
   have hlj':=hlj
   simp only[rJ,Bool.and_eq_true,Bool.not_eq_true']at hlj'
   rcases hnot with h|h|h
   ·have:=(I.lou j oj hj hlj).1 h;omega
   ·rw[hlj'.1]at h;cases h
   ·have:=Eh h;rw[hlj'.1]at this;cases this
 ·rcases hnot with h|h|h
  ·exact h
  ·rw[ES hfj]at h;cases h
  ·rw[HT hfj]at h;cases h
theorem xP.frame (E:xC P tb w0 ih all n S HH gg) (hcl:Cl all D) (I:xP w0 ρb n all (S 0) HH gg D a w t ρ pm) {k:Nat} {o:Oper} (hr:MB all D k o):kU (Fa ρ pm) n (CY (S k) (o.looksAt all.toArray)) a:=
 ⟨I.defers,I.size,fun s g hg=>by
  rw[B_]at hg
  by_cases hs:s∈o.looksAt all.toArray
  ·rw[if_pos hs]at hg;exact I.slot s g (hr.look E hcl hs hg)
  ·rw[if_neg hs]at hg;cases hg⟩
theorem xP.frame' (E:xC P tb w0 ih all n S HH gg) (hcl:Cl all D) {k:Nat} (I:xP w0 ρb n all (S 0) HH gg D a w k ρ pm) {o:Oper} (hr:MB all D k o):kU ρ n (CY (S k) (o.looksAt all.toArray)) a:=by
 have F:=I.frame E hcl hr
 obtain⟨ρ0,a0,wg,R0,F0⟩:=E.ghost k (Nat.le_of_lt (bN hr.get))
 refine⟨F.defers,F.size,fun s g hg=> ?_⟩
 have h1:=F.slot s g hg
 rw[B_]at hg
 by_cases hs:s∈o.looksAt all.toArray
 ·rw[if_pos hs]at hg
  refine Qi (fun h l0 l e0 e1=> ?_) h1 (F0.slot s g hg)
  cases hrr:ρ h with
  |some l2=>rw[xT hrr]at e1;exact e1
  |none=>
   rw[xS hrr]at e1
   have h2:=I.low E e1
   rw[R0.fresh h h2]at e0;cases e0
 ·rw[if_neg hs]at hg;cases hg
theorem xC.st (E:xC P tb w0 ih all n S HH gg) {k:Nat} {o:Oper} (hk:all[k]? = some o):En tb ih all o (CY (S k) (o.looksAt all.toArray)) (HH k)=some (gg k,HH (k+1)):=by
 rw[<-E.trc.st k o hk]
 exact MU fun s hs=>by rw[B_,if_pos hs]
theorem xP.loads (E:xC P tb w0 ih all n S HH gg) (hcl:Cl all D) (I:xP w0 ρb n all (S 0) HH gg D a w t ρ pm) (hlast:JK all D t) {k:Nat} {o:Oper} (hr:MB all D k o) (hld:nY o.op=true) {h:Nat} {ob:GO} (hh:Tz (S k) o.op=some h) (hob:(HH k).get h=some ob):
    ∃p ρ' pm',xP w0 ρb n all (S 0) HH gg D a w p ρ' pm'∧Fa ρ' pm'=Fa ρ pm∧(HH p).get h=some ob:=by
  have hk:=bN hr.get
  have hq:=Bi hld
  have hpu:pureOp tb o.op=false:=by cases ho:o.op<;>rw[ho]at hld<;>first|rfl|cases hld
  have hfl:isFloat o.op=false:=by cases ho:o.op<;>rw[ho]at hld<;>first|rfl|cases hld
  obtain⟨v,hv⟩:∃v,(HH k).ver h=some v:=by
    obtain⟨p,hp,_⟩:=aN.1 (show Gx.ob ((HH k).t.get h) _=some ob from hob)
    exact⟨p.1,by unfold GH.ver;rw[hp];rfl⟩
  obtain⟨v1,v2⟩:=E.vrs k o h v hr.get hld hh hv
  rcases Nat.lt_or_ge k t with htk|htk
  · -- later than in the text
    rcases hlast with e|⟨oj,h1,h2,h3⟩
    · omega
    have hlj:=h2
    simp only[rJ,Bool.and_eq_true]at hlj
    have hb:before (pI all) (t - 1) k=false:=by
      cases hb:before (pI all) (t - 1) k with
      |false=>rfl
      |true=>have:=hcl _ _ h3 hb hk;rw[hr.undone]at this;cases this
    have hne:t - 1≠k:=fun e=>by rw[e,hr.undone]at h3;cases h3
    have:=v2 (t - 1) oj (by omega) h1 hlj.1 hb
    rw[show t - 1+1=t by omega]at this
    exact⟨t,ρ,pm,I,rfl,by rw[<-E.same (Nat.le_of_lt htk) I.tm hv this];exact hob⟩
  · -- earlier,or there
    let stp:Nat->Oper->Bool:=fun j oj=>rJ oj.op||(isFloat oj.op && !D j)
    have first:∀d t',t'+d=k->t<=t'->(∀j oj,t<=j->j<t'->all[j]? = some oj->stp j oj=false)->∃p,t<=p∧p<=k∧(∀j oj,t<=j->j<p->all[j]? = some oj->stp j oj=false)∧(p=k∨∃op,all[p]? = some op∧stp p op=true):=by
      intro d
      induction d with
      |zero=>exact fun t' e ht h=>⟨t',ht,by omega,h,.inl (by omega)⟩
      | succ d ihd =>
        intro t' e ht h
        have hget:all[t']? = some all[t']:=List.getElem?_eq_getElem (by omega)
        cases hl:stp t' all[t']with
        |true=>exact⟨t',ht,by omega,h,.inr ⟨_,hget,hl⟩⟩
        | false =>
          refine ihd (t'+1) (by omega) (by omega) fun j oj h1 h2 hj=> ?_
          by_cases e:j=t'
          · subst e;rw[hget]at hj;cases hj;exact hl
          · exact h j oj h1 (by omega) hj
    obtain⟨p,hp1,hp2,hp3,hp4⟩:=first (k - t) t (by omega) (Nat.le_refl _) (fun j oj h1 h2=>by omega)
    obtain⟨ρ1,pm1,I1,e1⟩:=I.adoptTo E (p - t) t p ρ pm (by omega) (by omega) fun j oj h1 h2 hj=>by
      have h3:=hp3 j oj h1 h2 hj
      simp only[stp,Bool.or_eq_false_iff,Bool.and_eq_false_iff,Bool.not_eq_false']at h3
      exact ⟨h3.1, fun hfj => by
          rcases h3.2 with h4 | h4; · rw [hfj] at h4; cases h4
          · exact h4⟩
    refine⟨p,ρ1,pm1,I1,e1,?_⟩
    rcases hp4 with e|⟨op,hop,hlp⟩
    · rw[e];exact hob
    · simp only[stp,Bool.or_eq_true,Bool.and_eq_true,Bool.not_eq_true']at hlp
      have hlo:fK op.op=true:=by
        rcases hlp with h|h
        · simp only[rJ,Bool.and_eq_true]at h;exact h.1
        · exact ES h.1
      have hpk:p<k:=by
        rcases Nat.lt_or_ge p k with h|h
        · exact h
        · have:p=k:=by omega
          subst this;rw[hr.get]at hop;cases hop;rw[hq]at hlo;cases hlo
      have hDp:D p=false:=by
        rcases hlp with h|h
        · cases hd:D p with
          |false=>rfl
          |true=>have:=(I.lou p op hop h).1 hd;omega
        · exact h.2
      have hb:before (pI all) k p=false:=by
        cases hb:before (pI all) k p with
        |false=>rfl
        |true=>have:=hr.past p hb (by omega);rw[hDp]at this;cases this
      rw[E.same (Nat.le_of_lt hpk) (Nat.le_of_lt hk) (v1 p op hpk hop hlo hb) hv];exact hob
theorem xP.step (E:xC P tb w0 ih all n S HH gg) (hcl:Cl all D) (I:xP w0 ρb n all (S 0) HH gg D a w t ρ pm) (hlast:JK all D t) {k:Nat} {o:Oper} (hr:MB all D k o) {Q:Exit->Act->World->Prop} {K:Act->World->Prop}
  (hK:∀a' w' t' ρ' pm',xP w0 ρb n all (S 0) HH gg (ins D k) a' w' t' ρ' pm'->JK all (ins D k) t'->K a' w'):Sx.wpOp P all.toArray Q k K a w:=by
 have hk:=bN hr.get
 obtain⟨_,hdst,hoa⟩:=uO (E.op hr.get)
 have hst:=E.st hr.get
 unfold Sx.wpOp
 simp only[List.getElem?_toArray,hr.get]
 cases hp:pureOp tb o.op with
 | true =>
  have hl:rJ o.op=false:=by simp[rJ,Eh hp]
  have hnf:isFloat o.op=false:=by
   cases hf:isFloat o.op with
   |false=>rfl
   |true=>rw[HT hf]at hp;cases hp
  have F:=I.frame E hcl hr
  rcases Ec F hst with⟨hw,hg⟩|⟨hw,hg,hH⟩
  ·rw[if_pos hw]
   have hoa':Ig o.op=true:=by
    rcases hoa with h|⟨c,f,h1,h2⟩
    ·exact h
    ·obtain⟨cal,xs,ts⟩:=c
     simp only at h2
     rw[h1,h2]at hp;cases hp
   obtain⟨_,v,hv,hrun⟩:=Rf (P:=P) E.tab F hp hoa' hg
   left
   simp only[Oper.wp,hrun w,Oper.upon]
   exact hK _ _ t ρ pm (I.plain E hcl hr hl (fun h=>by rw[hnf]at h;cases h) hv) hlast.ins
  ·rw[if_neg (by rw[hw];simp)]
   exact hK _ _ t ρ pm (I.plain E hcl hr hl (fun h=>by rw[hnf]at h;cases h) (by rw[hg];exact .un)) hlast.ins
 | false =>
  cases hf:isFloat o.op with
  | true =>
   have hl:rJ o.op=false:=by simp[rJ,hf]
   have F:=I.frame E hcl hr
   rcases Jj (P:=P) E.tab hf F hst with⟨hw,hg,hH⟩|⟨hw,cs,a',T',hH,hC,hlen,hrun⟩
   ·rw[if_neg (by rw[hw];simp)]
    exact hK _ _ t ρ pm (I.plain E hcl hr hl (fun _=>hH) (by rw[hg];exact .un)) hlast.ins
   ·rw[if_pos hw]
    obtain⟨V,hV,hrel⟩:=hrun w
    left
    simp only[Oper.wp,hV,Oper.upon]
    have htk:t<=k:=by
     rcases Nat.lt_or_ge k t with h|h
     ·have:=I.flo k o hr.get hf h;rw[hr.undone]at this;cases this
     ·exact h
    let l:Mm:=⟨w.heap.size,0,a'.size,.cells a' T',.cells cs⟩
    have e:Ml w (w.alloc (.cells a' T')):=(Below.refl _ _).alloc (Nat.le_refl _) _
    have hρ:ρ (HH k).n=none:=I.rel.fresh _ (E.mono' htk (by omega))
    have hpm:pm (HH k).n=none:=by
     cases hq:pm (HH k).n with
     |none=>rfl
     |some l1=>
      obtain⟨i,oi,ci,h1,h2,h3,h4,h5,h6⟩:=I.only _ _ hq
      have:=E.apart (bN h1) hk h3 hH h6.symm
      subst this
      rw[hr.undone]at h5;cases h5
    let pm':=pm.upd (HH k).n l
    have hself:pm' (HH k).n=some l:=by simp[pm',gH.upd]
    have hoth:∀h,h≠(HH k).n->pm' h=pm h:=fun h hh=>by simp[pm',gH.upd,hh]
    have hle:(Fa ρ pm).le (Fa ρ pm'):=fun h l1 h1=>by
     cases hr1:ρ h with
     |some l2=>rw[xT hr1]at h1;rw[xT hr1];exact h1
     |none=>
      rw[xS hr1]at h1;rw[xS hr1,hoth h (fun eh=>by subst eh;rw[hpm]at h1;cases h1)];exact h1
    have hjl:Fa ρ pm' (HH k).n=some l:=by rw[xS hρ,hself]
    obtain⟨p1,p2⟩:=Ei a o.dst V
    have old:∀h l1,pm h=some l1->l1.b<w.heap.size:=fun h l1 h1=>by
     obtain⟨i,oi,ci,q1,q2,q3,q4,q5,rfl⟩:=I.only _ _ h1
     obtain⟨l2,r1,_,_,r4,_⟩:=I.pend i oi ci q1 q2 q3 q4 q5
     rw[h1]at r1;cases r1
     exact(Array.getElem?_eq_some_iff.1 r4).1
    refine hK _ _ t ρ pm' ⟨I.tm,fun j oj hj hlj=> ?_,fun j oj hj hfj hlt=>Bf (I.flo j oj hj hfj hlt),I.rel.ext' e,I.up,by rw[p1];exact I.defers,by rw[p2];exact I.size,hr.slot E.chk hcl hdst I.size hle I.slot (hrel _ hjl),fun i oi ci h1 h2 h3 h4 h5=> ?_,fun h l1 hp1=> ?_,fun h h' l1 l2 h1 h2 hb=> ?_⟩ hlast.ins
    ·have e:j≠k:=fun e=>by subst e;rw[hr.get]at hj;cases hj;rw[hl]at hlj;cases hlj
     rw[AJ e];exact I.lou j oj hj hlj
    ·by_cases ei:i=k
     ·subst ei
      rw[hH]at h3
      have:=Pv h3
      subst this
      refine⟨l,hself,.inl I.rel.ext.size,?_,heap_alloc_new w _,⟨a',T',heap_alloc_new w _,rfl,by show 0+cs.length<=a'.size;omega,fun j g hg=> ?_⟩,rfl⟩
      ·rintro⟨h,o',l',hg,hl',eb⟩
       obtain⟨l2,r1,_,r3⟩:=I.rel.live h o' hg
       rw[hl']at r1;cases r1
       have:=r3.lt
       rw[eb]at this
       exact absurd this (Nat.lt_irrefl _)
      ·obtain⟨x,hx,hrx⟩:=hC.r.get hg
       rw[Array.getElem?_toList]at hx
       exact⟨x,by show a'[0+j]? = some x;simpa using hx,hrx.le hle,Kk hC.one hx⟩
     ·rw[AJ ei]at h5
      obtain⟨l1,a1,a2,a3,a4,a5,a6⟩:=I.pend i oi ci h1 h2 h3 h4 h5
      have hne:(HH i).n≠(HH k).n:=fun eh=>ei (E.apart (bN h1) hk h3 hH eh)
      have hb:=old _ _ a1
      exact⟨l1,by rw[hoth _ hne];exact a1,a2,a3,by rw[e.block _ hb];exact a4,a5.move hle (e.block _ hb),a6⟩
    ·by_cases eh:h=(HH k).n
     ·exact⟨k,o,cs,hr.get,hf,hH,htk,Bg D k,eh⟩
     ·rw[hoth h eh]at hp1
      obtain⟨i,oi,ci,q1,q2,q3,q4,q5,q6⟩:=I.only h l1 hp1
      exact⟨i,oi,ci,q1,q2,q3,q4,Bf q5,q6⟩
    ·by_cases eh:h=(HH k).n
     ·by_cases eh':h'=(HH k).n
      ·rw[eh,eh']
      ·rw[hoth h' eh']at h2
       subst eh;rw[hself]at h1;cases h1
       have:=old _ _ h2
       rw[<-hb]at this
       exact absurd this (Nat.lt_irrefl _)
     ·rw[hoth h eh]at h1
      by_cases eh':h'=(HH k).n
      ·subst eh';rw[hself]at h2;cases h2
       have:=old _ _ h1
       rw[hb]at this
       exact absurd this (Nat.lt_irrefl _)
      ·rw[hoth h' eh']at h2
       exact I.inj h h' l1 l2 h1 h2 hb
  | false =>
   cases hld:nY o.op with
   | true =>
    have hl:rJ o.op=false:=by simp[rJ,Bi hld]
    have F0:=I.frame E hcl hr
    rcases Ec F0 hst with⟨hw,hg⟩|⟨hw,hg,hH⟩
    ·rw[if_pos hw]
     have hopl:∃T x,o.op = .load T x:=by
      cases ho:o.op<;>rw[ho]at hld<;>first|exact⟨_,_,rfl⟩|cases hld
     obtain⟨T,x,hox⟩:=hopl
     rw[hox]at hg
     obtain⟨va,hva,hg⟩:=aN.1 (show ob (kB (CY (S k) (o.looksAt all.toArray)) x) _=some (gg k,HH (k+1))from hg)
     obtain⟨g',hld',hk'⟩:=aN.1 hg
     have eg:g'=gg k:=by
      have:=congrArg (fun o=>o.map Prod.fst) (show some (g',HH k)=some (gg k,HH (k+1))from hk')
      simpa using this
     rw[eg]at hld'
     obtain⟨q,hq,hc⟩:=aN.1 (show ob va.asP _=some (gg k)from hld')
     obtain⟨cs,hcs,hc⟩:=aN.1 hc
     have hget:=iZ.1 hcs
     have hxt:∀s,x = .tmp s->s∈o.looksAt all.toArray:=fun s e=>List.mem_append_left _ (List.mem_filterMap.2 ⟨.tmp s,by rw[hox,e];simp[Op.operands],rfl⟩)
     have hva':kB (S k) x=some va:=by
      rw[<-hva]
      cases x with
      |tmp s=>
       show Eo (S k) s=Eo (CY (S k) (o.looksAt all.toArray)) s
       rw[B_,if_pos (hxt s rfl)]
      |_=>rfl
     have hh:Tz (S k) o.op=some q.1:=by
      rw[hox]
      show ob (kB (S k) x) _=_
      rw[hva']
      show ob va.asP _=_
      rw[hq];rfl
     obtain⟨p,ρ1,pm1,I1,hj1,hgp⟩:=I.loads E hcl hlast hr hld hh hget
     have hv0:=dH F0 hva
     have hv1:Rl ρ1 va (a.eval x):=by
      rw[Dp hq]at hv0 ⊢
      obtain⟨l,hl,e⟩:=hv0.ptr_inv
      obtain⟨l1,hl1,_⟩:=I1.rel.live _ _ hgp
      rw[<-hj1,xT hl1]at hl
      cases hl
      rw[e];exact .ptr _ hl1
     have hload:xO tb T va (HH p)=some (gg k):=by
      show ob va.asP _=_
      rw[hq]
      show ob ((HH p).cells q.1) _=_
      rw[iZ.2 hgp]
      exact hc
     obtain⟨X,_,l,_,_,_,hX,hrun⟩:=IB (P:=P) E.tab I1.rel hv1 hload
     left
     have hr1:(execOp a.eval o).run P w = .ok (.value X) w:=by
      have:=hrun w rfl
      obtain⟨d,op,ty,pos,aft,gd⟩:=o
      simp only at hox
      subst hox
      simp[execOp,this]
     simp only[Oper.wp,hr1,Oper.upon]
     exact hK _ _ t ρ pm (I.plain E hcl hr hl (fun h=>by rw[hf]at h;cases h) (by rw[<-hj1];exact hX.le FA)) hlast.ins
    ·rw[if_neg (by rw[hw];simp)]
     exact hK _ _ t ρ pm (I.plain E hcl hr hl (fun h=>by rw[hf]at h;cases h) (by rw[hg];exact .un)) hlast.ins
   |false=>
   obtain⟨ρ1,pm1,I1,hj1⟩:=I.reach E hcl hlast hr hp hf hld
   have F:=I1.frame' E hcl hr
   cases hlo:fK o.op with
   | false =>
    have hl:rJ o.op=false:=by simp[rJ,hlo]
    have fin:∀v,Rl ρ1 (gg k) v->xP w0 ρb n all (S 0) HH gg (ins D k) (a.put o.dst v) w t ρ pm:=fun v hv=>
     I.plain E hcl hr hl (fun h=>by rw[hf]at h;cases h) (by rw[<-hj1];exact hv.le FA)
    rcases Hj E.tab (E.call w0) (E.op hr.get) F I1.rel hst with⟨hw,hs⟩|⟨hw,hg,hH⟩
    ·rw[if_pos hw]
     left
     rcases hs with⟨_,_,_,_,v,hv,hrun⟩|⟨_,_,_,v,_,_,_,_,_,hv,hrun⟩|⟨_,_,_,v,hv,hrun⟩|⟨hq,_⟩
     ·simp only[Oper.wp,hrun w,Oper.upon];exact hK _ _ t ρ pm (fin v hv) hlast.ins
     ·simp only[Oper.wp,hrun w rfl,Oper.upon];exact hK _ _ t ρ pm (fin v hv) hlast.ins
     ·simp only[Oper.wp,hrun,Oper.upon];exact hK _ _ t ρ pm (fin v hv) hlast.ins
     ·rw[hlo]at hq;cases hq
    ·rw[if_neg (by rw[hw];simp)]
     exact hK _ _ t ρ pm (fin undef (by rw[hg];exact .un)) hlast.ins
   | true =>
    have hl:rJ o.op=true:=by simp[rJ,hlo,hf]
    have hkn:∀(i:Nat) (oi:Oper) (ci:List GV),all[i]? = some oi->isFloat oi.op=true->i≠k:=fun i oi ci h1 h2 e=>by
     subst e;rw[hr.get]at h1;cases h1;rw[hf]at h2;cases h2
    have lou':∀j o,all[j]? = some o->rJ o.op=true->(ins D k j=true↔j<k+1):=fun j oj hj hlj=>by
     by_cases e:j=k
     ·subst e;simp[Bg]
     ·rw[AJ e,I1.lou j oj hj hlj];omega
    have flo':∀j o,all[j]? = some o->isFloat o.op=true->j<k+1->ins D k j=true:=fun j oj hj hfj hlt=>by
     have:=hkn j oj [] hj hfj
     exact Bf (I1.flo j oj hj hfj (by omega))
    have only':∀h l,pm1 h=some l->∃i o cs,all[i]? = some o∧isFloat o.op=true∧HH (i+1)=(HH i).new (.cells cs)∧k+1<=i∧ins D k i=true∧h=(HH i).n:=fun h l hp1=>by
     obtain⟨i,oi,ci,q1,q2,q3,q4,q5,q6⟩:=I1.only h l hp1
     have:=hkn i oi ci q1 q2
     exact⟨i,oi,ci,q1,q2,q3,by omega,Bf q5,q6⟩
    have hlast':JK all (ins D k) (k+1):= .inr ⟨o,by simpa using hr.get,hl,by simp[Bg]⟩
    rcases Hj E.tab (E.call I1.rel.base) (E.op hr.get) F I1.rel.rebase hst with⟨hw,hs⟩|⟨hw,hg,hH⟩
    ·rw[if_pos hw]
     left
     rcases hs with⟨hq,_⟩|⟨hq,_⟩|⟨hq,_⟩|⟨_,hrun⟩
     ·rw[hlo]at hq;cases hq
     ·rw[hlo]at hq;cases hq
     ·rw[hlo]at hq;cases hq
     refine If (hrun _ fun ρ2 w2 v hle R2 hv=>hK _ _ (k+1) ρ2 pm1 ?_ hlast')
     obtain⟨R3,hframe⟩:=I1.rel.back R2
     have hj:(Fa ρ1 pm1).le (Fa ρ2 pm1):=fun h l h1=>by
      cases hr1:ρ1 h with
      |some l2=>rw[xT hr1]at h1;cases h1;exact xT (hle _ _ hr1)
      |none=>
       rw[xS hr1]at h1
       obtain⟨i,oi,ci,q1,q2,q3,q4,q5,rfl⟩:=only' h l h1
       rw[xS (R2.fresh _ (E.mono' q4 (Nat.le_of_lt (bN q1))))];exact h1
     obtain⟨p1,p2⟩:=Ei a o.dst v
     refine⟨hk,lou',flo',R3,gH.le_trans I1.up hle,by rw[p1];exact I1.defers,by rw[p2];exact I1.size,hr.slot E.chk hcl hdst I1.size hj I1.slot (hv.le FA),fun i oi ci h1 h2 h3 h4 h5=> ?_,only',I1.inj⟩
     rw[AJ (hkn i oi ci h1 h2)]at h5
     obtain⟨l1,a1,a2,a3,a4,a5,a6⟩:=I1.pend i oi ci h1 h2 h3 (by omega) h5
     have hb:l1.b<w.heap.size:=(Array.getElem?_eq_some_iff.1 a4).1
     refine⟨l1,a1,a2,?_,by rw[hframe _ hb a3];exact a4,a5.move hj (hframe _ hb a3),a6⟩
     rintro⟨h,o',l',hg,hl',eb⟩
     obtain⟨l2,r1,r2,_⟩:=R2.live h o' hg
     rw[hl']at r1;cases r1
     rw[eb]at r2
     rcases r2 with r2|r2
     ·have:w.heap.size<=l1.b:=r2
      omega
     ·exact a3 r2
    ·rw[if_neg (by rw[hw];simp)]
     obtain⟨p1,p2⟩:=Ei a o.dst undef
     refine hK _ _ (k+1) ρ1 pm1 ⟨hk,lou',flo',by rw[hH];exact I1.rel,I1.up,by rw[p1];exact I1.defers,by rw[p2];exact I1.size,hr.slot E.chk hcl hdst I1.size (gH.le_refl _) I1.slot (by rw[hg];exact .un),fun i oi ci h1 h2 h3 h4 h5=> ?_,only',I1.inj⟩ hlast'
     rw[AJ (hkn i oi ci h1 h2)]at h5
     rw[hH]
     exact I1.pend i oi ci h1 h2 h3 (by omega) h5
theorem xP.done (E:xC P tb w0 ih all n S HH gg) (I:xP w0 ρb n all (S 0) HH gg D a w t ρ pm) (hall:∀i,i<all.length->D i=true):∃ρ',ρb.le ρ'∧jG w0 ρ' (HH all.length) w∧kU ρ' n (S all.length) a:=by
 obtain⟨ρ1,pm1,I1,_⟩:=I.adoptTo E (all.length - t) t all.length ρ pm (by have:=I.tm;omega) (Nat.le_refl _) fun j oj h1 h2 hj=>by
  refine⟨?_,fun _=>hall j h2⟩
  cases hl:rJ oj.op with
  |false=>rfl
  |true=>have:=(I.lou j oj hj hl).1 (hall j h2);omega
 refine⟨ρ1,I1.up,I1.rel,I1.defers,I1.size,fun s g hg=> ?_⟩
 have hpm:∀h,pm1 h=none:=fun h=>by
  cases hq:pm1 h with
  |none=>rfl
  |some l=>
   obtain⟨i,oi,ci,h1,_,_,h4,_⟩:=I1.only h l hq
   have:=bN h1;omega
 have hj:Fa ρ1 pm1=ρ1:=by
  funext h
  unfold Fa
  rw[hpm]
  cases ρ1 h<;>rfl
 have hs:Wx all (S 0) gg D s g:=by
  rcases Iy E.trc all.length (Nat.le_refl _) hg with⟨i,o,h1,h2,h3,h4,h5⟩|⟨h1,h2⟩
  ·refine .inl ⟨i,o,hall i h1,h2,h3,h4,fun j oj hD hj hd=> ?_⟩
   rcases Nat.lt_or_ge i j with h|h
   ·exact absurd hd (h5 j oj h (bN hj) hj)
   ·exact h
  ·exact .inr ⟨fun j oj hD hj=>h1 j oj (bN hj) hj,h2⟩
 have:=I1.slot s g hs
 rwa[hj]at this
theorem Ph (E:xC P tb w0 ih all n S HH gg) {Q:Exit->Act->World->Prop} (hQ:∀ρ' a' w',ρb.le ρ'->jG w0 ρ' (HH all.length) w'->kU ρ' n (S all.length) a'->Q .normal a' w'):
  ∀(fuel:Nat) (L:List Nat) (listed:Array Bool) (a:Act) (w:World) (t:Nat) (ρ pm:gH),L.length<=fuel->listed.size=all.length->(∀i,i<all.length->listed.getD i false=false->i∈L)->Cl all (fun j=>listed.getD j false)->
  xP w0 ρb n all (S 0) HH gg (fun j=>listed.getD j false) a w t ρ pm->JK all (fun j=>listed.getD j false) t->Sx.wpAny P .any all.toArray Q fuel listed a w:=by
 intro fuel
 induction fuel with
 | zero =>
  intro L listed a w t ρ pm hlen hsz hmem hcl I hlast
  have hL:L=[]:=List.eq_nil_of_length_eq_zero (by omega)
  subst hL
  have hall:∀i,i<all.length->listed.getD i false=true:=fun i hi=>by
   cases hq:listed.getD i false with
   |true=>rfl
   |false=>have:=hmem i hi hq;simp at this
  refine⟨?_,?_⟩
  ·rw[List.eq_nil_iff_forall_not_mem]
   intro i hi
   obtain⟨h0,o,ho,_⟩:=mem_ready.1 hi
   have hlt:i<all.length:=by have:=(Array.getElem?_eq_some_iff.1 ho).1;simpa using this
   have:=hall i hlt
   have hs:i<listed.size:=by omega
   simp[hs]at this h0
   rw[h0]at this;cases this
  ·obtain⟨ρ',h0,h1,h2⟩:=I.done E hall
   exact hQ ρ' a w h0 h1 h2
 | succ fuel ihf =>
  intro L listed a w t ρ pm hlen hsz hmem hcl I hlast
  refine⟨fun hrd=> ?_,fun k hk=> ?_⟩
  ·have hall:∀i,i<all.length->listed.getD i false=true:=by
    intro i
    induction i using Nat.strongRecOn with
    | ind i ihi =>
     intro hi
     cases hq:listed.getD i false with
     |true=>rfl
     | false =>
      exfalso
      have ho:all[i]? = some all[i]:=List.getElem?_eq_getElem hi
      have hmr:i∈Region.ready .any all.toArray listed:=by
       refine mem_ready.2 ⟨?_,all[i],by simp,fun e he hb=> ?_⟩
       ·have hs:i<listed.size:=by omega
        simp[hs]at hq ⊢;exact hq
       ·have hee:e.on∈uW all[i]:=List.mem_map.2 ⟨e,List.mem_filter.2 ⟨by simpa using he,hb⟩,rfl⟩
        have:=(E.chk.edge i _ ho e.on hee).1
        exact ihi e.on this (by omega)
      rw[hrd]at hmr
      simp at hmr
   obtain⟨ρ',h0,h1,h2⟩:=I.done E hall
   exact hQ ρ' a w h0 h1 h2
  ·obtain⟨h0,o,ho',hedge⟩:=mem_ready.1 hk
   have ho:all[k]? = some o:=by simpa using ho'
   have hkl:k<all.length:=bN ho
   have hks:k<listed.size:=by omega
   have h0':listed.getD k false=false:=by simp[hks]at h0 ⊢;exact h0
   have hr:MB all (fun j=>listed.getD j false) k o:=by
    refine⟨ho,h0',fun j hb hj=> ?_⟩
    obtain⟨_,e,he,hej⟩:=E.chk.trans k o ho j hb hj
    obtain⟨ed,hed,rfl⟩:=List.mem_map.1 he
    obtain⟨hed1,hed2⟩:=List.mem_filter.1 hed
    have hl:=hedge ed (by simpa using hed1) hed2
    rcases hej with rfl|hej
    ·exact hl
    ·exact hcl _ _ hl hej hj
   have hD:(fun j=>(listed.setIfInBounds k true).getD j false)=ins (fun j=>listed.getD j false) k:=by
    funext j
    by_cases e:j=k
    ·subst e;rw[Bg];simp[hks]
    ·rw[AJ e]
     exact getD_set_ne false (Ne.symm e)
   refine I.step E hcl hlast hr fun a' w' t' ρ' pm' I' hlast'=> ?_
   refine ihf (L.erase k) _ a' w' t' ρ' pm' ?_ (by simp[hsz]) (fun i hi hq=> ?_) ?_ (by rw[hD];exact I') (by rw[hD];exact hlast')
   ·have hm:=hmem k hkl h0'
    rw[List.length_erase_of_mem hm]
    omega
   ·have e:i≠k:=fun e=>by
     subst e
     have:=congrFun hD i
     rw[Bg]at this
     rw[hq]at this;cases this
    have:listed.getD i false=false:=by
     have:=congrFun hD i
     rw[AJ e]at this
     rw[<-this];exact hq
    exact(List.mem_erase_of_ne e).2 (hmem i hi this)
   ·rw[hD]
    intro j k' hj hb hk'
    by_cases e:j=k
    ·subst e;exact Bf (hr.past k' hb hk')
    ·rw[AJ e]at hj
     exact Bf (hcl j k' hj hb hk')
theorem Ki (hG:fZ P tb) (hcall:∀w0:iQ gs,sU P w0 ih) (hm:P.follows .mixedOrders=true) {ops:List Oper} {id:Nat} (hops:ops.all (Gs n)=true) (hc:chkF tb ops (pI ops)=true) {k:GS->RS} {s:GS} {out:Lc} {ρ:gH} {a:Act} {w:World} {Q:Exit->Act->World->Prop} (F:kU ρ n s.σ a) (R:jG w0 ρ s.H w) (h:(Ev tb ih ops k ops s=some out∧Eg ops nY=true)∨Wo tb ih ops (pI ops) k ops 0 [] [] s=some out)
  (hk:∀s' ρ' a' w',k s'=some out->ρ.le ρ'->kU ρ' n s'.σ a'->jG w0 ρ' s'.H w'->Q .normal a' w'):(Code.region id ops.toArray true).wpr none P Q a w:=by
 have hnd:ops.all iS=true:=List.all_eq_true.2 fun o hmo=>(uO (List.all_eq_true.1 hops o hmo)).1
 obtain⟨S,HH,gg,e1,e2,T,hvrs,hout⟩:∃S HH gg,S 0=s.σ∧HH 0=s.H∧Uc tb ih ops ops S HH gg∧(∀k ok h v,ops[k]? = some ok->nY ok.op=true->Tz (S k) ok.op=some h->(HH k).ver h=some v->
   (∀j oj,j<k->ops[j]? = some oj->fK oj.op=true->before (pI ops) k j=false->(HH j).ver h=some v)∧(∀j oj,k<j->ops[j]? = some oj->fK oj.op=true->before (pI ops) j k=false->(HH (j+1)).ver h=some v))∧k ⟨S ops.length,HH ops.length⟩=some out:=by
  rcases h with⟨h,ho⟩|h
  ·obtain⟨S,HH,gg,e1,e2,T,hout⟩:=Jh ops s h
   refine⟨S,HH,gg,e1,e2,T,fun k ok h v hk hl _ _=>⟨fun j oj hjk hj hlj hb=> ?_,fun j oj hjk hj hlj hb=> ?_⟩,hout⟩
   ·rcases FE ho hk hj hl hlj with h1|h1
    ·rw[h1]at hb;cases hb
    ·have:=((Gh hc).trans j oj hj k h1 (bN hk)).1;omega
   ·rcases FE ho hk hj hl hlj with h1|h1
    ·have:=((Gh hc).trans k ok hk j h1 (bN hj)).1;omega
    ·rw[h1]at hb;cases hb
  ·obtain⟨S,HH,gg,e1,e2,T,V,hout⟩:=Hk ops 0 [] [] s h
   exact⟨S,HH,gg,e1,e2,T,fun k ok h v hk hl hh hv=>by have:=V.lo k ok h v hk hl hh hv;simpa using this,hout⟩
 rw[<-e1]at F
 rw[<-e2]at R
 have E:xC P tb w0 ih ops n S HH gg:=⟨hG,hcall,hops,Gh hc,T,hvrs,Jv hG (hcall w0) hops T F R _ (Nat.le_refl _)⟩
 have hD:∀j,(Array.replicate ops.length false).getD j false=false:=fun j=>by
  by_cases h:j<ops.length<;>simp[h]
 refine DX hnd hm ?_
 have hsz:ops.toArray.size=ops.length:=by simp
 rw[hsz]
 refine Ph (ρb:=ρ) E (fun ρ' a' w' h0 h1 h2=>hk ⟨S ops.length,HH ops.length⟩ ρ' a' w' hout h0 h2 h1) ops.length (List.range ops.length) _ a _ 0 ρ (fun _=>none) (by simp) (by simp) (fun i hi _=>List.mem_range.2 hi) (fun j k' hj=>by simp only[hD]at hj;cases hj) ?_ (.inl rfl)
 refine⟨Nat.zero_le _,fun j o _ _=>by simp only[hD];simp,fun j o _ _ h=>absurd h (Nat.not_lt_zero j),R.ext' ((Below.refl _ _).drew),gH.le_refl _,F.defers,F.size,fun s' g hs=> ?_,fun i o cs _ _ _ _ h5=>(by simp only[hD]at h5;cases h5),fun h l hp=>(by cases hp),fun h h' l l' hp=>(by cases hp)⟩
 rcases hs with⟨i,o,h1,_⟩|⟨_,h2⟩
 ·simp only[hD]at h1;cases h1
 ·exact(F.slot s' g h2).le FA
end
end
section
def Gb (tb:TB) (n:Nat):Code->Bool
 | .skip | .exit _ | .ret=>true
 | .region _ ops dr=>ops.toList.all (Gs n)&&(!dr||chkF tb ops.toList (pI ops.toList))
 | .seq a b=>Gb tb n a&&Gb tb n b
 | .cond _ a b=>Gb tb n a&&Gb tb n b
 | .block _ b=>Gb tb n b
 | .loop b=>Gb tb n b
 |_=>false
section
variable {P:Program} {G:GP} {tb:TB} {Fs:FT} {gs:BQ} {w0:iQ gs}
def Di (P:Program) (body:Code) (Q:Exit->Act->World->Prop) (a:Act) (w:World):Prop:=
 ∀(b:Frame) (k:List Item) (cs:List Frame),b.roundOf=(FR none).round->(FR none).fn b.fn->(FR none).room (cs.length+1+0)->
  ∃e a' w',Q e a' w'∧ArrivesIn (Machine.fenced P (FR none)) P (lone (b.atR a (.code body :: .inLoop body::k)) cs w) b k cs e a' w'
theorem Di.loop {body:Code} {Q:Exit->Act->World->Prop} {a:Act} {w:World} (h:Di P body Q a w):(Code.loop body).wpr none P Q a w:=by
 intro b k cs hro hb hr
 obtain⟨e,a',w',hq,harr⟩:=h b k cs hro hb hr
 exact⟨e,a',w',hq,.of_steps (.one (fenced_calm hb hr rfl) stepR_loop) harr⟩
theorem Di.round {body:Code} {Q:Exit->Act->World->Prop} {a:Act} {w:World} (h:body.wpr none P (Exit.then (Di P body Q) Q) a w):Di P body Q a w:=by
 intro b k cs hro hb hr
 obtain⟨e,a₁,w₁,hq,harr⟩:=h b (.inLoop body::k) cs hro hb hr
 cases e with
 |normal=>
  obtain⟨e₂,a₂,w₂,hq₂,harr₂⟩:=hq b k cs hro hb hr
  exact⟨e₂,a₂,w₂,hq₂,.of_steps (StepsIn.trans harr (.one (fenced_calm hb hr rfl) stepR_inLoop)) harr₂⟩
 |exit id=>exact⟨_,a₁,w₁,hq,.pass (x:= .inLoop body) rfl (fun _ _=> .inl (by simp)) harr⟩
 |goto l=>exact⟨_,a₁,w₁,hq,.pass (x:= .inLoop body) rfl (fun _ _=> .inl (by simp)) harr⟩
 |ret=>exact⟨_,a₁,w₁,hq,.pass (x:= .inLoop body) rfl (fun _ _=> .inl (by simp)) harr⟩
 |panic ch=>exact⟨_,a₁,w₁,hq,.pass (x:= .inLoop body) rfl (fun _ _=> .inl (by simp)) harr⟩
 |outgrown=>exact⟨_,a₁,w₁,hq,.pass (x:= .inLoop body) rfl (fun _ _=> .inl (by simp)) harr⟩
noncomputable def Hl (cx:Cx) (id:Nat) (s:GS):RS:=some ⟨.exit id,Ce s.σ (lI (BJ cx.env id)),s.H⟩
structure Qd {gs:BQ} (w0:iQ gs) (tb:TB) (n:Nat) (cx:Cx) (k:GS->RS) (out:Lc) (ρ:gH) (Q:Exit->Act->World->Prop):Prop where
 k:∀s' ρ' a' w',k s'=some out->ρ.le ρ'->kU ρ' n s'.σ a'->jG w0 ρ' s'.H w'->Q .normal a' w'
 x:∀id s' ρ' a' w',Hl cx id s'=some out->ρ.le ρ'->kU ρ' n s'.σ a'->jG w0 ρ' s'.H w'->Q (.exit id) a' w'
 r:∀s' ρ' a' w',Np tb cx s'=some out->ρ.le ρ'->kU ρ' n s'.σ a'->jG w0 ρ' s'.H w'->Q .ret a' w'
def Ge (P:Program) {gs:BQ} (w0:iQ gs) (tb:TB) (lp:LH):Prop:=∀b cx vs H out,lp b cx vs H=some out->∀n σ ρ a w Q,Gb tb n b=true->jS (lI (live (.loop b) 0 cx)) vs some=some σ->kU ρ n σ a->jG w0 ρ H w->
 (∀id s' ρ' a' w',Hl cx id s'=some out->ρ.le ρ'->kU ρ' n s'.σ a'->jG w0 ρ' s'.H w'->Q (.exit id) a' w')->
 (∀s' ρ' a' w',Np tb cx s'=some out->ρ.le ρ'->kU ρ' n s'.σ a'->jG w0 ρ' s'.H w'->Q .ret a' w')->Di P b Q a w
theorem Kz {cx:Cx} {s:GS} {out:Lc} (h:Np tb cx s=some out):out.e = .ret:=by
 obtain⟨vs,_,h⟩:=aN.1 (show ob (LG tb s cx.res) _=some out from h)
 cases h;rfl
theorem AZ {cx:Cx} {id:Nat} {s:GS} {out:Lc} (h:Hl cx id s=some out):out.e = .exit id:=by cases h;rfl
theorem No {ks:List Nat} {s:GS} {out:Lc} (h:FK ks s=some out):out.e = .normal∧out.vs=Ce s.σ ks∧out.H=s.H:=by cases h;exact⟨rfl,rfl,rfl⟩
theorem Na {n:Nat} {cx:Cx} {ks:List Nat} {k:GS->RS} {o out:Lc} {ρ:gH} {Q:Exit->Act->World->Prop} (L:Qd w0 tb n cx k out ρ Q) (h:jS ks o.vs (fun σ=>k ⟨σ,o.H⟩)=some out) {s':GS} {ρ':gH} {a':Act} {w':World}
  (hv:o.vs=Ce s'.σ ks) (hH:o.H=s'.H) (hle:ρ.le ρ') (F:kU ρ' n s'.σ a') (R:jG w0 ρ' s'.H w'):Q .normal a' w':=by
 obtain⟨σ,h1,h2⟩:=q_ h
 rw[hv]at h1
 exact L.k ⟨σ,o.H⟩ ρ' a' w' h2 hle (Hr F h1) (by rw[hH];exact R)
theorem Cy {ch:CH} {lp:LH} (hG:fZ P tb) (hm:P.follows .mixedOrders=true) (hcall:∀w0:iQ gs,sU P w0 ch) (hloop:Ge P w0 tb lp) {n:Nat}:∀(c:Code) (m:Nat) (cx:Cx) (k:GS->RS) (s:GS) (out:Lc) (ρ:gH) (a:Act) (w:World) (Q:Exit->Act->World->Prop),
  Gb tb n c=true->Tj tb ch lp c m cx k s=some out->kU ρ n s.σ a->jG w0 ρ s.H w->Qd w0 tb n cx k out ρ Q->c.wpr none P Q a w
 | .skip,m,cx,k,s,out,ρ,a,w,Q,_,h,F,R,L=>Mk (L.k s ρ a w h (gH.le_refl _) F R)
 | .region id ops dr, m, cx, k, s, out, ρ, a, w, Q, ho, h, F, R, L => by
  have ho':ops.toList.all (Gs n)=true∧(!dr||chkF tb ops.toList (pI ops.toList))=true:=by simpa [Gb]using ho
  have hnd:ops.toList.all iS=true:=List.all_eq_true.2 fun o hmo=>(uO (List.all_eq_true.1 ho'.1 o hmo)).1
  have h':Bool.casesOn (motive:=fun _=>RS) (Wg dr ops.toList) (Ev tb ch ops.toList k ops.toList s) (Wo tb ch ops.toList (pI ops.toList) k ops.toList 0 [] [] s)=some out:=h
  have e:ops=ops.toList.toArray:=by simp
  cases dr with
  |false=>
   rw[e]
   exact uC hnd (Fw hG (hcall w0) ops.toList s ρ a w ho'.1 F R h' L.k)
  | true =>
   rw[e]
   have hF:chkF tb ops.toList (pI ops.toList)=true:=by simpa using ho'.2
   have h2:(Ev tb ch ops.toList k ops.toList s=some out∧Eg ops.toList nY=true)∨Wo tb ch ops.toList (pI ops.toList) k ops.toList 0 [] [] s=some out:=by
    cases hwl:Wg true ops.toList with
    |true=>rw[hwl]at h';exact .inr h'
    |false=>
     rw[hwl]at h'
     have:(!Eg ops.toList nY)=false:=hwl
     exact .inl ⟨h',by simpa using this⟩
   exact Ki hG hcall hm ho'.1 hF F R h2 L.k
 | .seq x y,m,cx,k,s,out,ρ,a,w,Q,ho,h,F,R,L=>by
  have ho':Gb tb n x=true∧Gb tb n y=true:=by simpa [Gb]using ho
  refine ON (Cy hG hm hcall hloop x (live y m cx) cx (Tj tb ch lp y m cx k) s out ρ a w _ ho'.1 h F R ⟨fun s' ρ' a' w' hk hle F' R'=> ?_,L.x,L.r⟩)
  exact Cy hG hm hcall hloop y m cx k s' out ρ' a' w' Q ho'.2 hk F' R' ⟨fun s2 ρ2 a2 w2 h1 h2=>L.k s2 ρ2 a2 w2 h1 (gH.le_trans hle h2),fun id s2 ρ2 a2 w2 h1 h2=>L.x id s2 ρ2 a2 w2 h1 (gH.le_trans hle h2),fun s2 ρ2 a2 w2 h1 h2=>L.r s2 ρ2 a2 w2 h1 (gH.le_trans hle h2)⟩
 | .cond x thn els, m, cx, k, s, out, ρ, a, w, Q, ho, h, F, R, L => by
  have ho':Gb tb n thn=true∧Gb tb n els=true:=by simpa [Gb]using ho
  obtain⟨v,hv,h⟩:=aN.1 (show ob (kB s.σ x) _=some out from h)
  obtain⟨b,hb,h⟩:=aN.1 h
  obtain⟨o,h1,h⟩:=aN.1 (show ob _ (fun o=>Ex.casesOn (motive:=fun _=>RS) o.e (jS (lI m) o.vs fun σ=>k ⟨σ,o.H⟩) (fun _=>some o) (some o))=some out from h)
  have hx:=dH F hv
  rw[Do hb]at hx
  have L':Qd w0 tb n cx (FK (lI m)) o ρ Q:=by
   refine⟨fun s' ρ' a' w' hk hle F' R'=> ?_,fun id s' ρ' a' w' hk hle F' R'=> ?_,fun s' ρ' a' w' hk hle F' R'=> ?_⟩
   ·obtain⟨e1,e2,e3⟩:=No hk
    rw[e1]at h
    exact Na L h e2 e3 hle F' R'
   ·have e1:=AZ hk
    rw[e1]at h;cases h
    exact L.x id s' ρ' a' w' hk hle F' R'
   ·have e1:=Kz hk
    rw[e1]at h;cases h
    exact L.r s' ρ' a' w' hk hle F' R'
  refine DW hx.bool_inv (fun hbt=> ?_) (fun hbf=> ?_)
  ·rw[hbt]at h1
   exact Cy hG hm hcall hloop thn m cx (FK (lI m)) s o ρ a w Q ho'.1 h1 F R L'
  ·rw[hbf]at h1
   exact Cy hG hm hcall hloop els m cx (FK (lI m)) s o ρ a w Q ho'.2 h1 F R L'
 | .block id b, m, cx, k, s, out, ρ, a, w, Q, ho, h, F, R, L => by
  have ho':Gb tb n b=true:=by simpa [Gb]using ho
  obtain⟨o2,h2,h⟩:=aN.1 (show ob (nB id (Tj tb ch lp b m ⟨cx.res,cx.retm,(id,m)::cx.env⟩ (FK (lI m)) s)) (fun o=>Ex.casesOn (motive:=fun _=>RS) o.e (jS (lI m) o.vs fun σ=>k ⟨σ,o.H⟩) (fun _=>some o) (some o))=some out from h)
  obtain⟨o,h1,h2⟩:=aN.1 (show ob (Tj tb ch lp b m ⟨cx.res,cx.retm,(id,m)::cx.env⟩ (FK (lI m)) s) (fun o=>Ex.casesOn (motive:=fun _=>RS) o.e (some o) (fun i=>Bool.casesOn (motive:=fun _=>RS) (Nat.beq i id) (some o) (some ⟨.normal,o.vs,o.H⟩)) (some o))=some o2 from h2)
  refine JD (Cy hG hm hcall hloop b m _ (FK (lI m)) s o ρ a w _ ho' h1 F R ⟨fun s' ρ' a' w' hk hle F' R'=> ?_,fun i s' ρ' a' w' hk hle F' R'=> ?_,fun s' ρ' a' w' hk hle F' R'=> ?_⟩)
  ·obtain⟨e1,e2,e3⟩:=No hk
   rw[e1]at h2;cases h2
   rw[e1]at h
   exact Na L h e2 e3 hle F' R'
  ·have e1:=AZ hk
   rw[e1]at h2
   by_cases hi:i=id
   ·subst hi
    have hb:Nat.beq i i=true:=by simp
    simp only[hb]at h2
    cases h2
    show Exit.inBlock i Q (.exit i) a' w'
    simp only[Exit.inBlock,if_true]
    have hk':o=⟨.exit i,Ce s'.σ (lI (BJ ((i,m)::cx.env) i)),s'.H⟩:=by cases hk;rfl
    have he:BJ ((i,m)::cx.env) i=m:=by
     show(bif Nat.beq i i then m else BJ cx.env i)=m
     rw[hb];rfl
    rw[he]at hk'
    exact Na (o:=⟨.normal,o.vs,o.H⟩) L h (by rw[hk']) (by rw[hk']) hle F' R'
   ·have hb:Nat.beq i id=false:=nX hi
    simp only[hb]at h2
    cases h2
    rw[e1]at h
    cases h
    show Exit.inBlock id Q (.exit i) a' w'
    simp only[Exit.inBlock,if_neg hi]
    refine L.x i s' ρ' a' w' ?_ hle F' R'
    have he:BJ ((id,m)::cx.env) i=BJ cx.env i:=by
     show(bif Nat.beq id i then m else BJ cx.env i)=_
     rw[nX (Ne.symm hi)];rfl
    rw[<-hk]
    show Hl cx i s'=some ⟨.exit i,Ce s'.σ (lI (BJ ((id,m)::cx.env) i)),s'.H⟩
    rw[he];rfl
  ·have e1:=Kz hk
   rw[e1]at h2;cases h2
   rw[e1]at h;cases h
   exact L.r s' ρ' a' w' hk hle F' R'
 | .loop b,m,cx,k,s,out,ρ,a,w,Q,ho,h,F,R,L=>by
  have ho':Gb tb n b=true:=by simpa [Gb]using ho
  have h':lp b cx (Ce s.σ (lI (live (.loop b) 0 cx))) s.H=some out:=h
  have hun:=Kw s.σ (lI (live (.loop b) 0 cx))
  obtain⟨σ,hσ⟩:=hun
  exact Di.loop (hloop b cx _ s.H out h' n σ ρ a w Q ho' hσ (Hr F hσ) R L.x L.r)
 | .exit id,m,cx,k,s,out,ρ,a,w,Q,_,h,F,R,L=>Mi (L.x id s ρ a w h (gH.le_refl _) F R)
 | .ret,m,cx,k,s,out,ρ,a,w,Q,_,h,F,R,L=>OM (L.r s ρ a w h (gH.le_refl _) F R)
 | .rangeFunc _ _ _ _,m,cx,k,s,out,ρ,a,w,Q,ho,_,_,_,_=>by simp[Gb]at ho
 | .scope _,m,cx,k,s,out,ρ,a,w,Q,ho,_,_,_,_=>by simp[Gb]at ho
 | .label _,m,cx,k,s,out,ρ,a,w,Q,ho,_,_,_,_=>by simp[Gb]at ho
 | .goto _,m,cx,k,s,out,ρ,a,w,Q,ho,_,_,_,_=>by simp[Gb]at ho
 | .refuse _,m,cx,k,s,out,ρ,a,w,Q,ho,_,_,_,_=>by simp[Gb]at ho
theorem TH (hG:fZ P tb) {n:Nat} {s:GS} {ρ:gH} {a:Act} {w:World} (F:kU ρ n s.σ a) (R:jG w0 ρ s.H w) {r:ResultVar} {g:GV} (h:VU tb s r=some g):∃v,Rl ρ g v∧(FQ a.tmps r).run P w = .ok v w:=by
 cases r with
 |tmp t=>exact⟨_,F.slot t g h,by simp[FQ,Act.eval]⟩
 |cell q T=>
  obtain⟨v,hv,h⟩:=aN.1 (show ob (Eo s.σ q) _=some g from h)
  have hs:=F.slot q v hv
  obtain⟨x,_,_,_,_,_,hx,hr⟩:=IB (P:=P) hG R hs h
  have hr:=hr w rfl
  refine⟨x,hx,?_⟩
  obtain⟨p,hp,_⟩:=aN.1 (show ob v.asP _=some g from h)
  rw[Dp hp]at hs
  obtain⟨l,hl,e⟩:=hs.ptr_inv
  have e':a.tmps.getD q undef = .pointer (some ⟨l.b,l.off+p.2,none⟩):=e
  rw[e]at hr
  simp only[Instr.loadAt,Instr.sureAddr]at hr
  simp only[FQ,e',asAddr]
  simpa using hr
theorem LJ (hG:fZ P tb) {n:Nat} {s:GS} {ρ:gH} {a:Act} {w:World} (F:kU ρ n s.σ a) (R:jG w0 ρ s.H w):∀{l:List ResultVar} {gs:List GV},LG tb s l=some gs->∃vs,xQ ρ gs vs∧(l.mapM (FQ a.tmps)).run P w = .ok vs w
 | [],gs,h=>by cases h;exact⟨[],.nil,by simp⟩
 |r::l,gs,h=>by
  obtain⟨g,hg,h⟩:=aN.1 (show ob (VU tb s r) (fun v=>ob (LG tb s l) fun vs=>some (v::vs))=some gs from h)
  obtain⟨gs',hgs,h⟩:=aN.1 h
  cases h
  obtain⟨v,hv,h1⟩:=TH (P:=P) hG F R hg
  obtain⟨vs,hvs,h2⟩:=LJ hG F R hgs
  exact⟨v::vs,.cons hv hvs,by simp[List.mapM_cons,h1,h2]⟩
theorem Rx {ρ:gH} {gs:List GV} {vs:List Value} (h:xQ ρ gs vs):Rl ρ (Pz gs) (if h:vs.toArray.size=1 then vs.toArray[0]else .tuple vs.toArray):=by
 cases gs with
 |nil=>rw[h.of_nil];exact Hh .nil
 | cons g gs =>
  obtain⟨v,vs,rfl,h1,h2⟩:=h.of_cons
  cases gs with
  |nil=>rw[h2.of_nil];show Rl ρ g _;simpa using h1
  |cons g' gs=>
   obtain⟨v',vs',rfl,h3,h4⟩:=h2.of_cons
   rw[dif_neg (by simp)]
   exact Hh (.cons h1 (.cons h3 h4))
theorem FL (hG:fZ P tb) {fn:Func} {cx:Cx} (hcx:cx.res=fn.results.toList) {n:Nat} {s:GS} {ρ:gH} {a:Act} {w:World} {out:Lc} (F:kU ρ n s.σ a) (R:jG w0 ρ s.H w) (h:Np tb cx s=some out):out.H=s.H∧∃v,Rl ρ (Pz out.vs) v∧(results fn a.tmps).run P w = .ok v w:=by
 obtain⟨gs,hgs,h⟩:=aN.1 (show ob (LG tb s cx.res) _=some out from h)
 cases h
 obtain⟨vs,hvs,hr⟩:=LJ (P:=P) hG F R hgs
 rw[hcx]at hr
 refine⟨rfl,_,Rx hvs,?_⟩
 rw[CI]
 have hm:(fn.results.mapM (FQ a.tmps)).run P w = .ok vs.toArray w:=by
  rw[Array.mapM_eq_mapM_toList]
  simp[hr]
 simp[hm]
structure Hy (P:Program) (G:GP) (Fs:FT) {gs:BQ} (w0:iQ gs):Prop where
 tab:fZ P G.tab
 mixed:P.follows .mixedOrders=true
 fns:∀{f fn},Fs f=some fn->P.funcs[f]? = some fn∧bO P f∧(∀c,fn.body=some c->Gb G.tab fn.ntmps c=true)∧fn.params.size+fn.nfree<=fn.ntmps
 ext:∀{f us H g H'},G.ext f us H=some (g,H')->∀ρ w vs,jG w0 ρ H w->xQ ρ us vs->wB P w0 ρ f vs w g H'
 exn:∀{f us g},G.exn f us=some g->∀ρ w vs H,jG w0 ρ H w->xQ ρ us vs->wB P w0 ρ f vs w g H
 /-- the function that catches returns 0 and 0 if its argument returns;its two variables are new objects -/
 cat:∀{ρ:gH} {g us cs w H H' c1 c2},jG w0 ρ H w->(∀ρ' w',ρ.le ρ'->jG w0 ρ' ((H.new (.cells [zF])).new (.cells [zF])) w'->∃x,wB P w0 ρ' g (us++cs) w' x H')->H'.cells H.n=some [c1]->H'.cells (H.n+1)=some [c2]->
  wB P w0 ρ G.cat [.func (.func g) us.toArray cs.toArray] w (.tup [zF,zF]) ((((H'.set H.n (.cells [zF])).set (H.n+1) (.cells [zF])).del H.n).del (H.n+1))
def PY (P:Program) {gs:BQ} (w0:iQ gs) (ih:IH):Prop:=∀f us H out,ih (.fn f) us H=some out->out.e = .ret->∀ρ w vs,jG w0 ρ H w->xQ ρ us vs->
 bO P f∧Calls P f vs.toArray w fun e w'=>∃v ρ',e = .returned v∧ρ.le ρ'∧jG w0 ρ' out.H w'∧Rl ρ' (Pz out.vs) v
theorem Ln {ih:IH} (h:PY P w0 ih):sU P w0 (WC ih):=fun f us H g H' hc ρ w vs R hr=>by
 obtain⟨o,h1,h2⟩:=aN.1 (show ob (ih (.fn f) us H) _=some (g,H')from hc)
 cases he:o.e with
 |normal=>rw[he]at h2;cases h2
 |exit id=>rw[he]at h2;cases h2
 |ret=>
  rw[he]at h2;cases h2
  obtain⟨hb,hcalls⟩:=h f us H o h1 he ρ w vs R hr
  exact .inr ⟨hb _ w,hcalls⟩
theorem HJ {ih:IH} (hG:Hy P G Fs w0) (h:PY P w0 ih):sU P w0 (Dr G ih):=fun f us H g H' hc ρ w vs R hr=>by
 unfold Dr callQ at hc
 cases hf:Nat.beq f G.cat with
 | false =>
  rw[hf]at hc
  cases he:G.ext f us H with
  |some r=>
   simp only[he]at hc
   cases hc
   exact hG.ext he ρ w vs R hr
  | none =>
   simp only[he]at hc
   cases hn:G.exn f us with
   |some r=>
    simp only[hn]at hc
    cases hc
    exact hG.exn hn ρ w vs _ R hr
   |none=>
    simp only[hn]at hc
    exact Ln h f us H g H' hc ρ w vs R hr
 | true =>
  rw[hf]at hc
  have hf:=Nat.eq_of_beq_eq_true hf
  subst hf
  cases us with
  |nil=>cases hc
  | cons u us =>
   cases us with
   |cons _ _=>cases hc
   |nil=>
    obtain⟨p,hp,hc⟩:=aN.1 (show ob u.asF _=some (g,H')from hc)
    rw[jK,jK]at hc
    obtain⟨x,hx,hc⟩:=aN.1 hc
    obtain⟨c1,hc1,hc⟩:=aN.1 hc
    obtain⟨c2,hc2,hc⟩:=aN.1 hc
    obtain⟨hl1,hc⟩:=cN.1 hc
    obtain⟨hl2,hc⟩:=cN.1 hc
    rw[zH,zH,EJ,EJ]at hc
    cases hc
    obtain⟨a1,rfl⟩:=List.length_eq_one_iff.1 (Nat.eq_of_beq_eq_true hl1)
    obtain⟨a2,rfl⟩:=List.length_eq_one_iff.1 (Nat.eq_of_beq_eq_true hl2)
    obtain⟨v,vs,rfl,h1,h2⟩:=hr.of_cons
    rw[h2.of_nil]
    rw[Qq hp]at h1
    obtain⟨us',cs',rfl,hu,hcs⟩:=h1.fn_inv
    exact hG.cat R (fun ρ' w' hle R'=>⟨x.1,Ln h p.1 _ _ x.1 x.2 hx ρ' w' _ R' ((hu.le hle).append (hcs.le hle))⟩) hc1 hc2
theorem Vs {ih:IH} (hG:∀w0:iQ gs,Hy P G Fs w0) (hfn:∀w0:iQ gs,PY P w0 ih) (hloop:Ge P w0 G.tab fun b cx=>ih (.loop b cx)) {f:Nat} {fn:Func} {us:List GV} {H:GH} {out:Lc} (hf:Fs f=some fn) (h:Pg G.tab (Dr G ih) (fun b cx=>ih (.loop b cx)) fn us H=some out) (he:out.e = .ret) {ρ:gH} {w:World} {vs:List Value} (R:jG w0 ρ H w) (hr:xQ ρ us vs):
  bO P f∧Calls P f vs.toArray w fun e w'=>∃v ρ',e = .returned v∧ρ.le ρ'∧jG w0 ρ' out.H w'∧Rl ρ' (Pz out.vs) v:=by
 obtain⟨h1,h2,h3,h4⟩:=(hG w0).fns hf
 refine⟨h2,?_⟩
 obtain⟨body,hb,h⟩:=aN.1 (show ob fn.body _=some out from h)
 obtain⟨σ,hσ,h⟩:=q_ h
 rw[List.range_eq_range']at hσ
 have hlen:=HF hσ
 have hvl:vs.length<=fn.ntmps:=by rw[<-hr.len,hlen];exact h4
 refine AP h1 hb ?_
 have F:kU ρ fn.ntmps σ {tmps:=vs.toArray++Array.replicate (fn.ntmps - vs.toArray.size) undef,defers:=[]}:=by
  refine JQ rfl (by simp;omega) hr (fun j v hv=> ?_) hσ
  have hlt:=bN hv
  rw[Nat.zero_add,Array.getElem?_append_left (by simpa using hlt)]
  simpa using hv
 refine Cy (hG w0).tab (hG w0).mixed (fun w0=>HJ (hG w0) (hfn w0)) hloop body _ _ _ ⟨σ,H⟩ out ρ _ w _ (h3 body hb) h F R ⟨fun s' ρ' a' w' hk hle' F' R'=> ?_,fun id s' ρ' a' w' hk hle' F' R'=> ?_,fun s' ρ' a' w' hk hle' F' R'=> ?_⟩
 ·obtain⟨e1,v,hv,hres⟩:=FL (fn:=fn) (hG w0).tab rfl F' R' hk
  exact Sx.body_end (.inr rfl) F'.defers hres ⟨v,ρ',rfl,hle',by rw[e1];exact R',hv⟩
 ·have:=AZ hk
  rw[he]at this;cases this
 ·obtain⟨e1,v,hv,hres⟩:=FL (fn:=fn) (hG w0).tab rfl F' R' hk
  exact Sx.body_end (.inl rfl) F'.defers hres ⟨v,ρ',rfl,hle',by rw[e1];exact R',hv⟩
theorem VW (hG:∀w0:iQ gs,Hy P G Fs w0):∀(fuel:Nat) (w0:iQ gs),PY P w0 (run G Fs fuel)∧Ge P w0 G.tab fun b cx=>run G Fs fuel (.loop b cx):=by
 intro fuel
 induction fuel with
 |zero=>exact fun w0=>⟨fun f us H out h=>(by cases h),fun b cx vs H out h=>(by cases h)⟩
 | succ fuel ih =>
  have ihf:∀w0:iQ gs,PY P w0 (run G Fs fuel):=fun w0=>(ih w0).1
  intro w0
  have ihl:=(ih w0).2
  refine⟨fun f us H out h he ρ w vs R hr=> ?_,fun b cx vs H out h n σ ρ a w Q ho hσ F R hx hret=> ?_⟩
  ·obtain⟨fn,hfn,h⟩:=aN.1 (show ob (Fs f) _=some out from h)
   exact Vs hG ihf ihl hfn h he R hr
  ·have h':jS (lI (live (.loop b) 0 cx)) vs (fun σ=>ob (Tj G.tab (Dr G (run G Fs fuel)) (fun b cx=>run G Fs fuel (.loop b cx)) b (live (.loop b) 0 cx) cx (FK (lI (live (.loop b) 0 cx))) ⟨σ,H⟩) fun o=>Ex.casesOn (motive:=fun _=>RS) o.e (run G Fs fuel (.loop b cx) o.vs o.H) (fun _=>some o) (some o))=some out:=h
   obtain⟨σ',hσ',h'⟩:=q_ h'
   rw[hσ]at hσ';cases hσ'
   obtain⟨o,h1,h2⟩:=aN.1 h'
   refine Di.round (Cy (hG w0).tab (hG w0).mixed (fun w0=>HJ (hG w0) (ihf w0)) ihl b _ cx _ ⟨σ,H⟩ o ρ a w _ ho h1 F R ⟨fun s' ρ' a' w' hk hle F' R'=> ?_,fun id s' ρ' a' w' hk hle F' R'=> ?_,fun s' ρ' a' w' hk hle F' R'=> ?_⟩)
   ·obtain⟨e1,e2,e3⟩:=No hk
    rw[e1,e2,e3]at h2
    obtain⟨σ2,hσ2⟩:=Kw s'.σ (lI (live (.loop b) 0 cx))
    exact ihl b cx _ s'.H out h2 n σ2 ρ' a' w' Q ho hσ2 (Hr F' hσ2) R' (fun id s2 ρ2 a2 w2 x1 x2=>hx id s2 ρ2 a2 w2 x1 (gH.le_trans hle x2)) (fun s2 ρ2 a2 w2 x1 x2=>hret s2 ρ2 a2 w2 x1 (gH.le_trans hle x2))
   ·have e1:=AZ hk
    rw[e1]at h2;cases h2
    exact hx id s' ρ' a' w' hk hle F' R'
   ·have e1:=Kz hk
    rw[e1]at h2;cases h2
    exact hret s' ρ' a' w' hk hle F' R'
theorem QM (hG:∀w0:iQ gs,Hy P G Fs w0) {fuel f:Nat} {us:List GV} {H H':GH} {g:GV} (h:QL G Fs fuel f us H=some (g,H')) {ρ:gH} {w:World} {vs:List Value} (R:jG w0 ρ H w) (hr:xQ ρ us vs):wB P w0 ρ f vs w g H':=
 HJ (hG w0) (VW hG fuel w0).1 f us H g H' h ρ w vs R hr
theorem Jc (b:iQ gs) (he:gs.env=[]):jG b (fun _=>none) H0 b.w:=⟨Dh.refl _,fun h o hg=>(by cases hg),fun h h' o o' l l' hg=>(by cases hg),fun _ _=>rfl,fun h hh=>absurd hh (Nat.not_lt_zero h),fun h v l hv=>(by cases hv),fun i v e=>by rw[he]at e;simp at e⟩
end
end
end Go.Gx
end
section
namespace Go.Gx
open Go Go.Sx
noncomputable section
def oN (vs:List GV) (H:GH):RS:=some ⟨.normal,vs,H⟩
def oX (id:Nat) (vs:List GV) (H:GH):RS:=some ⟨.exit id,vs,H⟩
def oR (vs:List GV) (H:GH):RS:=some ⟨.ret,vs,H⟩
def jn (r:RS) (k:List GV->GH->RS):RS:=ob r fun o=>Ex.casesOn (motive:=fun _=>RS) o.e (k o.vs o.H) (fun _=>some o) (some o)
def rG (v:GV) (b:Bool) (H:GH) (X:OR):OR:=GV.casesOn (motive_1:=fun _=>OR) v (fun _ _=>none) (fun q=>Bool.casesOn (motive:=fun _=>OR) (NV q b) (some (.un,H)) X) (fun _ _=>none) (fun _ _=>none) none (fun _ _ _ _=>none) none (fun _=>none) (fun _ _ _=>none) none none (fun _=>none) (fun _=>none) (some (.un,H)) none (fun _=>none)
def U0 {R:Type} (r0:List GV) (f:Option R):Option R:=List.casesOn (motive:=fun _=>Option R) r0 (f) fun _ _=>none
def U1 {R:Type} (r0:List GV) (f:GV->Option R):Option R:=List.casesOn (motive:=fun _=>Option R) r0 none fun a0 r1=>List.casesOn (motive:=fun _=>Option R) r1 (f a0) fun _ _=>none
def U2 {R:Type} (r0:List GV) (f:GV->GV->Option R):Option R:=List.casesOn (motive:=fun _=>Option R) r0 none fun a0 r1=>List.casesOn (motive:=fun _=>Option R) r1 none fun a1 r2=>List.casesOn (motive:=fun _=>Option R) r2 (f a0 a1) fun _ _=>none
def U3 {R:Type} (r0:List GV) (f:GV->GV->GV->Option R):Option R:=List.casesOn (motive:=fun _=>Option R) r0 none fun a0 r1=>List.casesOn (motive:=fun _=>Option R) r1 none fun a1 r2=>List.casesOn (motive:=fun _=>Option R) r2 none fun a2 r3=>List.casesOn (motive:=fun _=>Option R) r3 (f a0 a1 a2) fun _ _=>none
def U4 {R:Type} (r0:List GV) (f:GV->GV->GV->GV->Option R):Option R:=List.casesOn (motive:=fun _=>Option R) r0 none fun a0 r1=>List.casesOn (motive:=fun _=>Option R) r1 none fun a1 r2=>List.casesOn (motive:=fun _=>Option R) r2 none fun a2 r3=>List.casesOn (motive:=fun _=>Option R) r3 none fun a3 r4=>List.casesOn (motive:=fun _=>Option R) r4 (f a0 a1 a2 a3) fun _ _=>none
def U5 {R:Type} (r0:List GV) (f:GV->GV->GV->GV->GV->Option R):Option R:=List.casesOn (motive:=fun _=>Option R) r0 none fun a0 r1=>List.casesOn (motive:=fun _=>Option R) r1 none fun a1 r2=>List.casesOn (motive:=fun _=>Option R) r2 none fun a2 r3=>List.casesOn (motive:=fun _=>Option R) r3 none fun a3 r4=>List.casesOn (motive:=fun _=>Option R) r4 none fun a4 r5=>List.casesOn (motive:=fun _=>Option R) r5 (f a0 a1 a2 a3 a4) fun _ _=>none
def U6 {R:Type} (r0:List GV) (f:GV->GV->GV->GV->GV->GV->Option R):Option R:=List.casesOn (motive:=fun _=>Option R) r0 none fun a0 r1=>List.casesOn (motive:=fun _=>Option R) r1 none fun a1 r2=>List.casesOn (motive:=fun _=>Option R) r2 none fun a2 r3=>List.casesOn (motive:=fun _=>Option R) r3 none fun a3 r4=>List.casesOn (motive:=fun _=>Option R) r4 none fun a4 r5=>List.casesOn (motive:=fun _=>Option R) r5 none fun a5 r6=>List.casesOn (motive:=fun _=>Option R) r6 (f a0 a1 a2 a3 a4 a5) fun _ _=>none
def U7 {R:Type} (r0:List GV) (f:GV->GV->GV->GV->GV->GV->GV->Option R):Option R:=List.casesOn (motive:=fun _=>Option R) r0 none fun a0 r1=>List.casesOn (motive:=fun _=>Option R) r1 none fun a1 r2=>List.casesOn (motive:=fun _=>Option R) r2 none fun a2 r3=>List.casesOn (motive:=fun _=>Option R) r3 none fun a3 r4=>List.casesOn (motive:=fun _=>Option R) r4 none fun a4 r5=>List.casesOn (motive:=fun _=>Option R) r5 none fun a5 r6=>List.casesOn (motive:=fun _=>Option R) r6 none fun a6 r7=>List.casesOn (motive:=fun _=>Option R) r7 (f a0 a1 a2 a3 a4 a5 a6) fun _ _=>none
def U9 {R:Type} (r0:List GV) (f:GV->GV->GV->GV->GV->GV->GV->GV->GV->Option R):Option R:=List.casesOn (motive:=fun _=>Option R) r0 none fun a0 r1=>List.casesOn (motive:=fun _=>Option R) r1 none fun a1 r2=>List.casesOn (motive:=fun _=>Option R) r2 none fun a2 r3=>List.casesOn (motive:=fun _=>Option R) r3 none fun a3 r4=>List.casesOn (motive:=fun _=>Option R) r4 none fun a4 r5=>List.casesOn (motive:=fun _=>Option R) r5 none fun a5 r6=>List.casesOn (motive:=fun _=>Option R) r6 none fun a6 r7=>List.casesOn (motive:=fun _=>Option R) r7 none fun a7 r8=>List.casesOn (motive:=fun _=>Option R) r8 none fun a8 r9=>List.casesOn (motive:=fun _=>Option R) r9 (f a0 a1 a2 a3 a4 a5 a6 a7 a8) fun _ _=>none
def Nt:List Nat->Code->Code
 | [],c=>c
 |0::p,.seq a _=>Nt p a
 |1::p,.seq _ b=>Nt p b
 |0::p,.cond _ a _=>Nt p a
 |1::p,.cond _ _ b=>Nt p b
 |0::p,.block _ b=>Nt p b
 |0::p,.loop b=>Nt p b
 |_,c=>c
def fC (fn:Func) (p:List Nat):Code:=match fn.body with
 |some c=>Nt p c
 |none=> .skip
def mI (fn:Func) (env:FZ):Cx:=⟨fn.results.toList,Ht fn.results.toList,env⟩
abbrev iY:=CH->QH->List GV->GH->RS
structure HA where
 fn:Nat->Option (Func×iY)
 lp:Nat->Option ((Code×Cx)×iY)
def HA.fns (T:HA) (f:Nat):Option Func:=ob (T.fn f) fun e=>some e.1
def HA.loop (T:HA) (lp:LH):QH:=fun i vs H=>ob (T.lp i) fun e=>lp e.1.1 e.1.2 vs H
def rr (T:HA) (G:GP) (n:Nat):Bool->QH:=Nat.rec (motive:=fun _=>Bool->QH) (fun _ _ _ _=>none) (fun _ ih b t vs H=>Bool.casesOn (motive:=fun _=>RS) b (ob (T.fn t) fun e=>e.2 (callQ G (ih false)) (ih true) vs H) (ob (T.lp t) fun e=>e.2 (callQ G (ih false)) (ih true) vs H)) n
structure ME (T:HA) (tb:TB):Prop where
 fn:∀{f e},T.fn f=some e->∀(c:CH) (lp:LH) us H,e.2 c (T.loop lp) us H=Pg tb c lp e.1 us H
 lp:∀{i e},T.lp i=some e->∀(c:CH) (lp:LH) us H,e.2 c (T.loop lp) us H=Wn tb c lp e.1.1 e.1.2 us H
theorem Xf {T:HA} {G:GP} (h:ME T G.tab):∀n,rr T G n false=(fun f us H=>run G T.fns n (.fn f) us H)∧rr T G n true=T.loop (fun b cx=>run G T.fns n (.loop b cx)):=by
 intro n
 induction n with
 |zero=>
  refine⟨rfl,?_⟩
  funext i vs H
  show none=ob (T.lp i) fun e=>none
  cases T.lp i<;>rfl
 | succ n ih =>
  obtain⟨ih1,ih2⟩:=ih
  constructor
  ·funext f us H
   show ob (T.fn f) (fun e=>e.2 (callQ G (rr T G n false)) (rr T G n true) us H)=ob (T.fns f) fun fn=>Pg G.tab (Dr G (run G T.fns n)) (fun b cx=>run G T.fns n (.loop b cx)) fn us H
   unfold HA.fns
   cases hf:T.fn f with
   |none=>rfl
   |some e=>
    show e.2 (callQ G (rr T G n false)) (rr T G n true) us H=Pg G.tab (Dr G (run G T.fns n)) (fun b cx=>run G T.fns n (.loop b cx)) e.1 us H
    rw[ih1,ih2]
    exact h.fn hf _ _ us H
  ·funext i vs H
   show ob (T.lp i) (fun e=>e.2 (callQ G (rr T G n false)) (rr T G n true) vs H)=ob (T.lp i) fun e=>run G T.fns (n+1) (.loop e.1.1 e.1.2) vs H
   cases hf:T.lp i with
   |none=>rfl
   |some e=>
    show e.2 (callQ G (rr T G n false)) (rr T G n true) vs H=Wn G.tab (Dr G (run G T.fns n)) (fun b cx=>run G T.fns n (.loop b cx)) e.1.1 e.1.2 vs H
    rw[ih1,ih2]
    exact h.lp hf _ _ vs H
theorem Uj {α:Type} {f i:Nat} {x e:α} {R:α->Prop} (h:R x):(bif Nat.beq f i then some x else none)=some e->R e:=by
 cases Nat.beq f i
 ·exact fun h=>by cases h
 ·exact fun e=>by cases e;exact h
def VD (tb:TB) (fn:Func):Bool:=match fn.body with
 |some c=>Gb tb fn.ntmps c&&Nat.ble (fn.params.size+fn.nfree) fn.ntmps
 |none=>false
theorem LC {tb:TB} {fn:Func} (h:VD tb fn=true):(∀c,fn.body=some c->Gb tb fn.ntmps c=true)∧fn.params.size+fn.nfree<=fn.ntmps:=by
 unfold VD at h
 cases hb:fn.body with
 |none=>rw[hb]at h;cases h
 |some c=>
  rw[hb]at h
  simp only[Bool.and_eq_true]at h
  exact⟨fun c' hc=>by cases hc;exact h.1,by simpa using h.2⟩
def QN (T:HA) (G:GP) (fuel:Nat) (f:FuncId) (args:List GV) (H:GH):OR:=callQ G (rr T G fuel false) f args H
theorem QO {T:HA} {G:GP} (h:ME T G.tab) (fuel:Nat) (f:FuncId) (args:List GV) (H:GH):QN T G fuel f args H=QL G T.fns fuel f args H:=by
 unfold QN QL Dr
 rw[(Xf h fuel).1]
end
end Go.Gx
end
section
set_option maxRecDepth 100000
namespace Go.Gx
open Go Go.Sx Go.Proofs
noncomputable section
abbrev y:=zG
def gB (f:Func) (c:CH) (_:QH) (us:List GV) (H:GH):RS:=Pg y c (fun _ _ _ _=>none) f us H
def Pj (f:Func) (i:Nat) (c:CH) (q:QH) (us:List GV) (H:GH):RS:=Pg y c (fun _ _ vs H=>q i vs H) f us H
def gL (e:Code×Cx) (i:Nat) (c:CH) (q:QH) (us:List GV) (H:GH):RS:=Wn y c (fun _ _ vs H=>q i vs H) e.1 e.2 us H
def gD (e:Code×Cx) (i:Nat):(Code×Cx)×iY:=(e,gL e i)
def Xe (c:Code):Nat:=match c with|.region n _ _=>n | .seq a _=>Xe a | .block _ a=>Xe a | .loop a=>Xe a|_=>0
def sel (l:FZ) (n:Nat):Nat:=List.rec (motive:=fun _=>Nat) 0 (fun p _ ih=>bif Nat.beq p.1 n then p.2 else ih) l
def XI (f:Func) (l:FZ) (c:CH) (q:QH) (us:List GV) (H:GH):RS:=Pg y c (fun b _ vs H=>q (sel l (Xe b)) vs H) f us H
def PR (e:Code×Cx) (l:FZ):(Code×Cx)×iY:=(e,fun c q us H=>Wn y c (fun b _ vs H=>q (sel l (Xe b)) vs H) e.1 e.2 us H)
def i (n:Nat):GV:= .int .i64 (.ofNat n)
def bC (q:Bool) (f t:RS):RS:=Bool.casesOn (motive:=fun _=>RS) q f t
def K (c:CH) (f:Nat) (us:List GV) (H:GH) (k:GV->GH->RS):RS:=f_ (c f us H) k
def bn (op:BinOp) (T:Nat) (v u:GV) (k:GV->RS):RS:=ob (Bt y op T v u) k
def ld (T:Nat) (v:GV) (H:GH) (k:GV->RS):RS:=ob (xO y T v H) k
def fd (T n:Nat) (v:GV) (k:GV->RS):RS:=ob (CS y T n v) k
def ix (T:Nat) (v u:GV) (k:GV->RS):RS:=ob (NB y T v u) k
def ln (T:Nat) (v:GV) (k:GV->RS):RS:=ob (NC y T v) k
def ex (n:Nat) (v:GV) (k:GV->RS):RS:=ob (We n v) k
def bd (T:Nat) (l:List (Nat×GV)) (k:GV->RS):RS:=ob (Nz y T l) k
theorem rN {α:Type} {f n:Nat} {x y:Option α} {e:α} {R:Prop} (hx:x=some e->R) (hy:y=some e->R):tN f n x y=some e->R:=by
 unfold tN
 cases Nat.blt f n
 ·exact hy
 ·exact hx
theorem rL {α:Type} {f n:Nat} {x e:α} {R:Nat->α->Prop} (h:R n x):tL f n x=some e->R f e:=by
 intro he
 unfold tL at he
 cases hb:Nat.beq f n with
 |false=>rw[hb]at he;cases he
 |true=>rw[hb]at he;cases he;rw[Nat.eq_of_beq_eq_true hb];exact h
def s7:FZ:=[(10,0),(17,1)]
def XL:FZ:=[(4,3),(9,4),(15,5)]
def Xg:FZ:=[(6,6),(16,7),(26,8),(31,9)]
def B21 (c:CH) (ql:QH) (us:List GV) (H:GH):RS:=U1 us fun x1=>
 f_ (F_ x1 H) fun t2 h3=>
 ld 25 t2 h3 fun t4=>
 K c 50 [t4] h3 fun t5 h6=>
 bn .eql 30 t5 (i 0) fun t7=>
 oR [t7] h6
def B33 (c:CH) (ql:QH) (us:List GV) (H:GH):RS:=U2 us fun x1 x2=>
 f_ (F_ x1 H) fun t3 h4=>
 f_ (F_ x2 h4) fun t5 h6=>
 fd 25 1 t3 fun t7=>
 ld 22 t7 h6 fun t8=>
 K c 56 [t8,(.fn 57 [] [t5])] h6 fun t9 h10=>
 oR [t9] h10
def B34 (c:CH) (ql:QH) (us:List GV) (H:GH):RS:=U2 us fun x1 x2=>
 K c 58 [x1,x2] H fun t3 h4=>
 bn .geq 3 t3 (i 0) fun t5=>
 oR [t5] h4
def B36 (c:CH) (ql:QH) (us:List GV) (H:GH):RS:=U2 us fun x1 x2=>
 f_ (F_ x1 H) fun t3 h4=>
 f_ (F_ x2 h4) fun t5 h6=>
 fd 25 2 t3 fun t7=>
 ld 23 t7 h6 fun t8=>
 K c 59 [t8,(.fn 60 [] [t5])] h6 fun t9 h10=>
 oR [t9] h10
def B45 (c:CH) (ql:QH) (us:List GV) (H:GH):RS:=U2 us fun x1 x2=>
 ln 39 x1 fun t3=>
 bn .gtr 3 t3 (i 200) fun t4=>
 f_ (rG t4 false H (some (x1,H))) fun t5 h6=>
 f_ (rG t4 false h6 (f_ (c 64 [t5,(i 0)] h6) EA)) fun t7 h8=>
 f_ (rG t4 false h8 (some (x1,h8))) fun t9 h10=>
 f_ (rG t4 false h10 (ob (NC y 39 t9) fun g11=>some (g11,h10))) fun t12 h13=>
 f_ (rG t4 false h13 (ob (Bt y .neq 3 t7 t12) fun g14=>some (g14,h13))) fun t15 h16=>
 ob (qS t4 (.bool true) t15) fun t17=>
 ob (GV.asB t17) fun q18=>jn (bC q18 (oN [x1,x2] h16) (oR [(.bool false)] h16)) fun vs19 h20=>U2 vs19 fun a21 a22=>ln 39 a21 fun t23=>
 jn (nB 0 (ql 15 [a21,a22,a21,t23,(i 0)] h20)) fun vs24 h25=>U1 vs24 fun a26=>K c 66 [a26] h25 fun t27 h28=>
 bn .leq 3 t27 (i 24) fun t29=>
 f_ (rG t29 true h28 (some (a26,h28))) fun t30 h31=>
 f_ (rG t29 true h31 (f_ (c 67 [t30] h31) EA)) fun t32 h33=>
 f_ (rG t29 true h33 (ob (Bt y .leq 3 t32 (i 2)) fun g34=>some (g34,h33))) fun t35 h36=>
 ob (qS t29 t35 (.bool false)) fun t37=>
 oR [t37] h36
def L15 (c:CH) (ql:QH) (us:List GV) (H:GH):RS:=U5 us fun a38 a39 a40 a41 a42=>jn (bn .lss 3 a42 a41 fun t43=>
 ob (GV.asB t43) fun q44=>jn (bC q44 (oX 0 [a38] H) (oN [a38,a39,a40,a41,a42] H)) fun vs45 h46=>U5 vs45 fun a47 a48 a49 a50 a51=>jn (nB 1 (ix 39 a49 a51 fun t52=>
 ld 84 t52 h46 fun t53=>
 f_ (sN y 84 h46) fun t54 h55=>
 f_ (uB y 84 t54 t53 h55) fun t56 h57=>
 ld 84 t54 h57 fun t58=>
 K c 65 [t58,a48] h57 fun t59 h60=>
 ob (PO .not t59) fun t61=>
 ob (GV.asB t61) fun q62=>jn (bC q62 (oN [a47,a48,a49,a50,a51] h60) (oR [(.bool false)] h60)) fun vs63 h64=>U5 vs63 fun a65 a66 a67 a68 a69=>oN [a65,a66,a67,a68,a69] h64)) fun vs70 h71=>U5 vs70 fun a72 a73 a74 a75 a76=>bn .add 3 a76 (i 1) fun t77=>
 oN [a72,a73,a74,a75,t77] h71) (ql 15)
def XM:FZ:=[(6,16),(12,17),(19,18)]
def B51 (c:CH) (ql:QH) (us:List GV) (H:GH):RS:=U2 us fun x1 x2=>
 ln 47 x2 fun t3=>
 K c 45 [x1,t3] H fun t4 h5=>
 ob (PO .not t4) fun t6=>
 ob (GV.asB t6) fun q7=>jn (bC q7 (oN [x1,x2] h5) (oR [.snil,(i 7)] h5)) fun vs8 h9=>U2 vs8 fun a10 a11=>ln 47 a11 fun t12=>
 jn (nB 0 (ql 19 [a10,a11,a11,t12,(i 0)] h9)) fun vs13 h14=>U2 vs13 fun a15 a16=>ln 39 a15 fun t17=>
 f_ (Mb y 39 t17 t17 h14) fun t18 h19=>
 f_ (Sk y 39 t18 a15 h19) fun t20 h21=>
 ln 39 t18 fun t22=>
 jn (nB 2 (ql 20 [a16,t18,t18,t22,(i 0)] h21)) fun vs23 h24=>U1 vs23 fun a25=>oR [a25,(i 0)] h24
def L19 (c:CH) (ql:QH) (us:List GV) (H:GH):RS:=U5 us fun a26 a27 a28 a29 a30=>jn (bn .lss 3 a30 a29 fun t31=>
 ob (GV.asB t31) fun q32=>jn (bC q32 (oX 0 [a26,a27] H) (oN [a26,a27,a28,a29,a30] H)) fun vs33 h34=>U5 vs33 fun a35 a36 a37 a38 a39=>jn (nB 1 (ix 47 a37 a39 fun t40=>
 ld 3 t40 h34 fun t41=>
 bn .lss 3 t41 (i 0) fun t42=>
 f_ (rG t42 false h34 (some (t41,h34))) fun t43 h44=>
 f_ (rG t42 false h44 (ob (Bt y .geq 3 t43 (i 6)) fun g45=>some (g45,h44))) fun t46 h47=>
 ob (qS t42 (.bool true) t46) fun t48=>
 ob (GV.asB t48) fun q49=>jn (bC q49 (oN [a35,a36,a37,a38,a39] h47) (oR [.snil,(i 2)] h47)) fun vs50 h51=>U5 vs50 fun a52 a53 a54 a55 a56=>oN [a52,a53,a54,a55,a56] h51)) fun vs57 h58=>U5 vs57 fun a59 a60 a61 a62 a63=>bn .add 3 a63 (i 1) fun t64=>
 oN [a59,a60,a61,a62,t64] h58) (ql 19)
def L20 (c:CH) (ql:QH) (us:List GV) (H:GH):RS:=U5 us fun a65 a66 a67 a68 a69=>jn (bn .lss 3 a69 a68 fun t70=>
 ob (GV.asB t70) fun q71=>jn (bC q71 (oX 2 [a66] H) (oN [a65,a66,a67,a68,a69] H)) fun vs72 h73=>U5 vs72 fun a74 a75 a76 a77 a78=>jn (nB 3 (ix 39 a76 a78 fun t79=>
 ld 84 t79 h73 fun t80=>
 f_ (sN y 84 h73) fun t81 h82=>
 f_ (uB y 84 t81 t80 h82) fun t83 h84=>
 fd 84 0 t81 fun t85=>
 ld 3 t85 h84 fun t86=>
 bn .eql 3 t86 (i 5) fun t87=>
 f_ (rG t87 false h84 (ob (CS y 84 0 t81) fun g88=>some (g88,h84))) fun t89 h90=>
 f_ (rG t87 false h90 (ob (xO y 3 t89 h90) fun g91=>some (g91,h90))) fun t92 h93=>
 f_ (rG t87 false h93 (ob (Bt y .eql 3 t92 (i 12)) fun g94=>some (g94,h93))) fun t95 h96=>
 ob (qS t87 (.bool true) t95) fun t97=>
 ob (GV.asB t97) fun q98=>jn (bC q98 (oN [a74,a75,a76,a77,a78] h96) (fd 84 1 t81 fun t99=>
 ld 3 t99 h96 fun t100=>
 ix 47 a74 t100 fun t101=>
 ld 3 t101 h96 fun t102=>
 ix 39 a75 a78 fun t103=>
 fd 84 1 t103 fun t104=>
 f_ (uB y 3 t104 t102 h96) fun t105 h106=>
 oN [a74,a75,a76,a77,a78] h106)) fun vs107 h108=>U5 vs107 fun a109 a110 a111 a112 a113=>oN [a109,a110,a111,a112,a113] h108)) fun vs114 h115=>U5 vs114 fun a116 a117 a118 a119 a120=>bn .add 3 a120 (i 1) fun t121=>
 oN [a116,a117,a118,a119,t121] h115) (ql 20)
def B56 (c:CH) (ql:QH) (us:List GV) (H:GH):RS:=U2 us fun x1 x2=>
 ln 22 x1 fun t3=>
 jn (nB 0 (ql 22 [x1,x2,t3,(i 0)] H)) fun vs4 h5=>U0 vs4 (oR [(.int .i64 (.negSucc 0))] h5)
def L22 (c:CH) (ql:QH) (us:List GV) (H:GH):RS:=U4 us fun a6 a7 a8 a9=>jn (bn .lss 3 a9 a8 fun t10=>
 ob (GV.asB t10) fun q11=>jn (bC q11 (oX 0 [] H) (oN [a6,a7,a8,a9] H)) fun vs12 h13=>U4 vs12 fun a14 a15 a16 a17=>jn (nB 1 (ix 22 a14 a17 fun t18=>
 ld 49 t18 h13 fun t19=>
 ob (GV.asF a15) fun p22=>f_ (c p22.1 (p22.2.1++[t19]++p22.2.2) h13) fun t20 h21=>
 ob (GV.asB t20) fun q23=>jn (bC q23 (oN [a14,a15,a16,a17] h21) (oR [a17] h21)) fun vs24 h25=>U4 vs24 fun a26 a27 a28 a29=>oN [a26,a27,a28,a29] h25)) fun vs30 h31=>U4 vs30 fun a32 a33 a34 a35=>bn .add 3 a35 (i 1) fun t36=>
 oN [a32,a33,a34,t36] h31) (ql 22)
def B57 (c:CH) (ql:QH) (us:List GV) (H:GH):RS:=U2 us fun x1 x2=>
 f_ (F_ x1 H) fun t3 h4=>
 fd 49 0 t3 fun t5=>
 ld 9 t5 h4 fun t6=>
 ld 9 x2 h4 fun t7=>
 bn .eql 9 t6 t7 fun t8=>
 oR [t8] h4
def B58 (c:CH) (ql:QH) (us:List GV) (H:GH):RS:=U2 us fun x1 x2=>
 ln 40 x1 fun t3=>
 jn (nB 0 (ql 23 [x1,x2,t3,(i 0)] H)) fun vs4 h5=>U0 vs4 (oR [(.int .i64 (.negSucc 0))] h5)
def L23 (c:CH) (ql:QH) (us:List GV) (H:GH):RS:=U4 us fun a6 a7 a8 a9=>jn (bn .lss 3 a9 a8 fun t10=>
 ob (GV.asB t10) fun q11=>jn (bC q11 (oX 0 [] H) (oN [a6,a7,a8,a9] H)) fun vs12 h13=>U4 vs12 fun a14 a15 a16 a17=>jn (nB 1 (ix 40 a14 a17 fun t18=>
 ld 44 t18 h13 fun t19=>
 ob (GV.asF a15) fun p22=>f_ (c p22.1 (p22.2.1++[t19]++p22.2.2) h13) fun t20 h21=>
 ob (GV.asB t20) fun q23=>jn (bC q23 (oN [a14,a15,a16,a17] h21) (oR [a17] h21)) fun vs24 h25=>U4 vs24 fun a26 a27 a28 a29=>oN [a26,a27,a28,a29] h25)) fun vs30 h31=>U4 vs30 fun a32 a33 a34 a35=>bn .add 3 a35 (i 1) fun t36=>
 oN [a32,a33,a34,t36] h31) (ql 23)
def B59 (c:CH) (ql:QH) (us:List GV) (H:GH):RS:=U2 us fun x1 x2=>
 K c 85 [x1,x2] H fun t3 h4=>
 bn .geq 3 t3 (i 0) fun t5=>
 oR [t5] h4
def B60 (c:CH) (ql:QH) (us:List GV) (H:GH):RS:=U2 us fun x1 x2=>
 f_ (F_ x1 H) fun t3 h4=>
 fd 25 2 x2 fun t5=>
 ld 23 t5 h4 fun t6=>
 K c 59 [t6,(.fn 61 [] [t3])] h4 fun t7 h8=>
 oR [t7] h8
def B61 (c:CH) (ql:QH) (us:List GV) (H:GH):RS:=U2 us fun x1 x2=>
 f_ (F_ x1 H) fun t3 h4=>
 fd 42 0 x2 fun t5=>
 ld 9 t5 h4 fun t6=>
 fd 42 0 t3 fun t7=>
 ld 9 t7 h4 fun t8=>
 bn .eql 9 t6 t8 fun t9=>
 oR [t9] h4
def B64 (c:CH) (ql:QH) (us:List GV) (H:GH):RS:=U2 us fun x1 x2=>
 bn .lss 3 x2 (i 0) fun t3=>
 f_ (rG t3 false H (some (x2,H))) fun t4 h5=>
 f_ (rG t3 false h5 (some (x1,h5))) fun t6 h7=>
 f_ (rG t3 false h7 (ob (NC y 39 t6) fun g8=>some (g8,h7))) fun t9 h10=>
 f_ (rG t3 false h10 (ob (Bt y .geq 3 t4 t9) fun g11=>some (g11,h10))) fun t12 h13=>
 ob (qS t3 (.bool true) t12) fun t14=>
 ob (GV.asB t14) fun q15=>jn (bC q15 (oN [x1,x2] h13) (oR [(.int .i64 (.negSucc 0))] h13)) fun vs16 h17=>U2 vs16 fun a18 a19=>jn (nB 0 (ql 24 [a18,a19,(i 1)] h17)) fun vs20 h21=>U0 vs20 (oR [(.int .i64 (.negSucc 0))] h21)
def L24 (c:CH) (ql:QH) (us:List GV) (H:GH):RS:=U3 us fun a22 a23 a24=>jn (ln 39 a22 fun t25=>
 bn .lss 3 a23 t25 fun t26=>
 ob (GV.asB t26) fun q27=>jn (bC q27 (oX 0 [] H) (oN [a22,a23,a24] H)) fun vs28 h29=>U3 vs28 fun a30 a31 a32=>jn (nB 1 (ix 39 a30 a31 fun t33=>
 fd 84 0 t33 fun t34=>
 ld 3 t34 h29 fun t35=>
 K c 87 [t35] h29 fun t36 h37=>
 bn .lss 3 t36 (i 0) fun t38=>
 ob (GV.asB t38) fun q39=>jn (bC q39 (oN [a30,a31,a32,t36] h37) (oR [(.int .i64 (.negSucc 0))] h37)) fun vs40 h41=>U4 vs40 fun a42 a43 a44 a45=>bn .sub 3 a45 (i 1) fun t46=>
 bn .add 3 a44 t46 fun t47=>
 bn .eql 3 t47 (i 0) fun t48=>
 ob (GV.asB t48) fun q49=>jn (bC q49 (oN [a42,a43,t47] h41) (bn .add 3 a43 (i 1) fun t50=>
 oR [t50] h41)) fun vs51 h52=>U3 vs51 fun a53 a54 a55=>oN [a53,a54,a55] h52)) fun vs56 h57=>U3 vs56 fun a58 a59 a60=>bn .add 3 a59 (i 1) fun t61=>
 oN [a58,t61,a60] h57) (ql 24)
def B65 (c:CH) (ql:QH) (us:List GV) (H:GH):RS:=U2 us fun x1 x2=>
 f_ (F_ x1 H) fun t3 h4=>
 fd 84 0 t3 fun t5=>
 ld 3 t5 h4 fun t6=>
 jn (nB 0 (bn .eql 3 t6 (i 1) fun t7=>
 ob (GV.asB t7) fun q8=>jn (bC q8 (bn .eql 3 t6 (i 5) fun t22=>
 ob (GV.asB t22) fun q23=>jn (bC q23 (bn .eql 3 t6 (i 12) fun t24=>
 oN [x2,t3,t24] h4) (oN [x2,t3,t22] h4)) fun vs25 h26=>U3 vs25 fun a27 a28 a29=>ob (GV.asB a29) fun q30=>jn (bC q30 (oN [a28] h26) (fd 84 1 a28 fun t31=>
 ld 3 t31 h26 fun t32=>
 bn .geq 3 t32 (i 0) fun t33=>
 f_ (rG t33 true h26 (ob (CS y 84 1 a28) fun g34=>some (g34,h26))) fun t35 h36=>
 f_ (rG t33 true h36 (ob (xO y 3 t35 h36) fun g37=>some (g37,h36))) fun t38 h39=>
 f_ (rG t33 true h39 (some (a27,h39))) fun t40 h41=>
 f_ (rG t33 true h41 (ob (Bt y .lss 3 t38 t40) fun g42=>some (g42,h41))) fun t43 h44=>
 ob (qS t33 t43 (.bool false)) fun t45=>
 oR [t45] h44)) fun vs46 h47=>U1 vs46 fun a48=>oN [a48] h47) (fd 84 1 t3 fun t9=>
 ld 3 t9 h4 fun t10=>
 bn .geq 3 t10 (i 0) fun t11=>
 f_ (rG t11 true h4 (ob (CS y 84 1 t3) fun g12=>some (g12,h4))) fun t13 h14=>
 f_ (rG t11 true h14 (ob (xO y 3 t13 h14) fun g15=>some (g15,h14))) fun t16 h17=>
 f_ (rG t11 true h17 (ob (Bt y .leq 3 t16 (i 1073741824)) fun g18=>some (g18,h17))) fun t19 h20=>
 ob (qS t11 t19 (.bool false)) fun t21=>
 oR [t21] h20)) fun vs49 h50=>U1 vs49 fun a51=>oN [a51] h50)) fun vs52 h53=>U1 vs52 fun a54=>fd 84 1 a54 fun t55=>
 ld 3 t55 h53 fun t56=>
 bn .eql 3 t56 (i 0) fun t57=>
 oR [t57] h53
def B66 (c:CH) (ql:QH) (us:List GV) (H:GH):RS:=U1 us fun x1=>
 K c 88 [x1,(.fn 89 [] [])] H fun t2 h3=>
 ex 0 t2 fun t4=>
 ex 1 t2 fun t5=>
 oR [t4] h3
def B67 (c:CH) (ql:QH) (us:List GV) (H:GH):RS:=U1 us fun x1=>
 K c 88 [x1,(.fn 90 [] [])] H fun t2 h3=>
 ex 0 t2 fun t4=>
 ex 1 t2 fun t5=>
 oR [t4] h3
def B70 (c:CH) (ql:QH) (us:List GV) (H:GH):RS:=U1 us fun x1=>
 ln 9 x1 fun t2=>
 bn .gtr 3 t2 (i 16384) fun t3=>
 ob (GV.asB t3) fun q4=>jn (bC q4 (oN [x1] H) (oR [.snil,(i 0),(i 3)] H)) fun vs5 h6=>U1 vs5 fun a7=>K c 95 [a7,(i 0)] h6 fun t8 h9=>
 jn (nB 0 (ql 25 [a7,.snil,t8] h9)) fun vs10 h11=>U1 vs10 fun a12=>oR [a12,(i 0),(i 0)] h11
def L25 (c:CH) (ql:QH) (us:List GV) (H:GH):RS:=U3 us fun a13 a14 a15=>jn (ln 9 a13 fun t16=>
 bn .lss 3 a15 t16 fun t17=>
 ob (GV.asB t17) fun q18=>jn (bC q18 (oX 0 [a14] H) (oN [a13,a14,a15] H)) fun vs19 h20=>U3 vs19 fun a21 a22 a23=>jn (nB 1 (ln 98 a22 fun t24=>
 bn .eql 3 t24 (i 4096) fun t25=>
 ob (GV.asB t25) fun q26=>jn (bC q26 (oN [a21,a22,a23] h20) (oR [.snil,a23,(i 3)] h20)) fun vs27 h28=>U3 vs27 fun a29 a30 a31=>K c 96 [a29,a31] h28 fun t32 h33=>
 ex 0 t32 fun t34=>
 ex 1 t32 fun t35=>
 f_ (sN y 123 h33) fun t36 h37=>
 f_ (uB y 123 t36 t34 h37) fun t38 h39=>
 bn .neq 30 t35 (i 0) fun t40=>
 ob (GV.asB t40) fun q41=>jn (bC q41 (oN [a29,a30,t36] h39) (oR [.snil,a31,t35] h39)) fun vs42 h43=>U3 vs42 fun a44 a45 a46=>ld 123 a46 h43 fun t47=>
 f_ (AY y 98 1 [(0,t47)] h43) fun t48 h49=>
 f_ (PK y 98 98 a45 t48 h49) fun t50 h51=>
 fd 123 2 a46 fun t52=>
 ld 3 t52 h51 fun t53=>
 K c 95 [a44,t53] h51 fun t54 h55=>
 oN [a44,t50,t54] h55)) fun vs56 h57=>U3 vs56 fun a58 a59 a60=>oN [a58,a59,a60] h57) (ql 25)
def B73 (c:CH) (ql:QH) (us:List GV) (H:GH):RS:=U1 us fun x1=>
 f_ (F_ x1 H) fun t2 h3=>
 fd 25 0 t2 fun t4=>
 ld 9 t4 h3 fun t5=>
 K c 106 [t5] h3 fun t6 h7=>
 ob (PO .not t6) fun t8=>
 ob (GV.asB t8) fun q9=>jn (bC q9 (oN [t2] h7) (oR [(.bool false)] h7)) fun vs10 h11=>U1 vs10 fun a12=>f_ (Cm h11) fun t13 h14=>
 fd 25 1 a12 fun t15=>
 ld 22 t15 h14 fun t16=>
 ln 22 t16 fun t17=>
 jn (nB 0 (ql 26 [a12,t13,t16,t17,(i 0)] h14)) fun vs18 h19=>U1 vs18 fun a20=>f_ (Cm h19) fun t21 h22=>
 fd 25 2 a20 fun t23=>
 ld 23 t23 h22 fun t24=>
 ln 23 t24 fun t25=>
 jn (nB 2 (ql 27 [t21,t24,t25,(i 0)] h22)) fun vs26 h27=>U0 vs26 (oR [(.bool true)] h27)
def L26 (c:CH) (ql:QH) (us:List GV) (H:GH):RS:=U5 us fun a28 a29 a30 a31 a32=>jn (bn .lss 3 a32 a31 fun t33=>
 ob (GV.asB t33) fun q34=>jn (bC q34 (oX 0 [a28] H) (oN [a28,a29,a30,a31,a32] H)) fun vs35 h36=>U5 vs35 fun a37 a38 a39 a40 a41=>jn (nB 1 (ix 22 a39 a41 fun t42=>
 ld 49 t42 h36 fun t43=>
 f_ (sN y 49 h36) fun t44 h45=>
 f_ (uB y 49 t44 t43 h45) fun t46 h47=>
 fd 49 0 t44 fun t48=>
 ld 9 t48 h47 fun t49=>
 K c 106 [t49] h47 fun t50 h51=>
 ob (PO .not t50) fun t52=>
 f_ (rG t52 false h51 (some (a38,h51))) fun t53 h54=>
 f_ (rG t52 false h54 (ob (CS y 49 0 t44) fun g55=>some (g55,h54))) fun t56 h57=>
 f_ (rG t52 false h57 (ob (xO y 9 t56 h57) fun g58=>some (g58,h57))) fun t59 h60=>
 f_ (rG t52 false h60 (ob (OI y 135 false t53 t59 h60) fun g61=>some (g61,h60))) fun t62 h63=>
 ob (qS t52 (.bool true) t62) fun t64=>
 ob (GV.asB t64) fun q65=>jn (bC q65 (oN [a37,a38,t44,a39,a40,a41] h63) (oR [(.bool false)] h63)) fun vs66 h67=>U6 vs66 fun a68 a69 a70 a71 a72 a73=>fd 49 0 a70 fun t74=>
 ld 9 t74 h67 fun t75=>
 f_ (KO y 135 a69 t75 (.bool true) h67) fun t76 h77=>
 oN [a68,a69,a71,a72,a73] h77)) fun vs78 h79=>U5 vs78 fun a80 a81 a82 a83 a84=>bn .add 3 a84 (i 1) fun t85=>
 oN [a80,a81,a82,a83,t85] h79) (ql 26)
def L27 (c:CH) (ql:QH) (us:List GV) (H:GH):RS:=U4 us fun a86 a87 a88 a89=>jn (bn .lss 3 a89 a88 fun t90=>
 ob (GV.asB t90) fun q91=>jn (bC q91 (oX 2 [] H) (oN [a86,a87,a88,a89] H)) fun vs92 h93=>U4 vs92 fun a94 a95 a96 a97=>jn (nB 3 (ix 23 a95 a97 fun t98=>
 ld 42 t98 h93 fun t99=>
 f_ (sN y 42 h93) fun t100 h101=>
 f_ (uB y 42 t100 t99 h101) fun t102 h103=>
 fd 42 0 t100 fun t104=>
 ld 9 t104 h103 fun t105=>
 K c 106 [t105] h103 fun t106 h107=>
 ob (PO .not t106) fun t108=>
 f_ (rG t108 false h107 (some (a94,h107))) fun t109 h110=>
 f_ (rG t108 false h110 (ob (CS y 42 0 t100) fun g111=>some (g111,h110))) fun t112 h113=>
 f_ (rG t108 false h113 (ob (xO y 9 t112 h113) fun g114=>some (g114,h113))) fun t115 h116=>
 f_ (rG t108 false h116 (ob (OI y 135 false t109 t115 h116) fun g117=>some (g117,h116))) fun t118 h119=>
 ob (qS t108 (.bool true) t118) fun t120=>
 ob (GV.asB t120) fun q121=>jn (bC q121 (oN [a94,t100,a95,a96,a97] h119) (oR [(.bool false)] h119)) fun vs122 h123=>U5 vs122 fun a124 a125 a126 a127 a128=>fd 42 0 a125 fun t129=>
 ld 9 t129 h123 fun t130=>
 f_ (KO y 135 a124 t130 (.bool true) h123) fun t131 h132=>
 oN [a124,a126,a127,a128] h132)) fun vs133 h134=>U4 vs133 fun a135 a136 a137 a138=>bn .add 3 a138 (i 1) fun t139=>
 oN [a135,a136,a137,t139] h134) (ql 27)
def B85 (c:CH) (ql:QH) (us:List GV) (H:GH):RS:=U2 us fun x1 x2=>
 ln 23 x1 fun t3=>
 jn (nB 0 (ql 31 [x1,x2,t3,(i 0)] H)) fun vs4 h5=>U0 vs4 (oR [(.int .i64 (.negSucc 0))] h5)
def L31 (c:CH) (ql:QH) (us:List GV) (H:GH):RS:=U4 us fun a6 a7 a8 a9=>jn (bn .lss 3 a9 a8 fun t10=>
 ob (GV.asB t10) fun q11=>jn (bC q11 (oX 0 [] H) (oN [a6,a7,a8,a9] H)) fun vs12 h13=>U4 vs12 fun a14 a15 a16 a17=>jn (nB 1 (ix 23 a14 a17 fun t18=>
 ld 42 t18 h13 fun t19=>
 ob (GV.asF a15) fun p22=>f_ (c p22.1 (p22.2.1++[t19]++p22.2.2) h13) fun t20 h21=>
 ob (GV.asB t20) fun q23=>jn (bC q23 (oN [a14,a15,a16,a17] h21) (oR [a17] h21)) fun vs24 h25=>U4 vs24 fun a26 a27 a28 a29=>oN [a26,a27,a28,a29] h25)) fun vs30 h31=>U4 vs30 fun a32 a33 a34 a35=>bn .add 3 a35 (i 1) fun t36=>
 oN [a32,a33,a34,t36] h31) (ql 31)
def B87 (c:CH) (ql:QH) (us:List GV) (H:GH):RS:=U1 us fun x1=>
 jn (nB 0 (bn .lss 3 x1 (i 1) fun t2=>
 f_ (rG t2 false H (some (x1,H))) fun t3 h4=>
 f_ (rG t2 false h4 (ob (Bt y .gtr 3 t3 (i 43)) fun g5=>some (g5,h4))) fun t6 h7=>
 ob (qS t2 (.bool true) t6) fun t8=>
 ob (GV.asB t8) fun q9=>jn (bC q9 (bn .leq 3 x1 (i 17) fun t10=>
 ob (GV.asB t10) fun q11=>jn (bC q11 (bn .leq 3 x1 (i 29) fun t12=>
 ob (GV.asB t12) fun q13=>jn (bC q13 (bn .leq 3 x1 (i 42) fun t14=>
 ob (GV.asB t14) fun q15=>jn (bC q15 (oN [] h7) (oR [(i 2)] h7)) fun vs16 h17=>U0 vs16 (oN [] h17)) (oR [(i 1)] h7)) fun vs18 h19=>U0 vs18 (oN [] h19)) (oR [(i 0)] h7)) fun vs20 h21=>U0 vs20 (oN [] h21)) (oR [(.int .i64 (.negSucc 0))] h7)) fun vs22 h23=>U0 vs22 (oN [] h23))) fun vs24 h25=>U0 vs24 (oR [(i 3)] h25)
def B88 (c:CH) (ql:QH) (us:List GV) (H:GH):RS:=U2 us fun x1 x2=>
 K c 64 [x1,(i 0)] H fun t3 h4=>
 ln 39 x1 fun t5=>
 bn .neq 3 t3 t5 fun t6=>
 ob (GV.asB t6) fun q7=>jn (bC q7 (oN [x1,x2] h4) (oR [(i 0),(.bool false)] h4)) fun vs8 h9=>U2 vs8 fun a10 a11=>ln 39 a10 fun t12=>
 bn .sub 3 t12 (i 1) fun t13=>
 jn (nB 0 (ql 32 [a10,a11,.snil,t13] h9)) fun vs14 h15=>U1 vs14 fun a16=>ix 47 a16 (i 0) fun t17=>
 ld 3 t17 h15 fun t18=>
 oR [t18,(.bool true)] h15
def L32 (c:CH) (ql:QH) (us:List GV) (H:GH):RS:=U4 us fun a19 a20 a21 a22=>jn (bn .geq 3 a22 (i 0) fun t23=>
 ob (GV.asB t23) fun q24=>jn (bC q24 (oX 0 [a21] H) (oN [a19,a20,a21,a22] H)) fun vs25 h26=>U4 vs25 fun a27 a28 a29 a30=>jn (nB 1 (ln 47 a29 fun t31=>
 ix 39 a27 a30 fun t32=>
 fd 84 0 t32 fun t33=>
 ld 3 t33 h26 fun t34=>
 K c 87 [t34] h26 fun t35 h36=>
 bn .sub 3 t31 t35 fun t37=>
 ob (CU y 47 a29 (some t37) none h36) fun t38=>
 ln 47 t38 fun t39=>
 jn (nB 2 (ql 33 [a27,a28,a29,a30,t37,(i 0),t38,t39,(i 0)] h36)) fun vs40 h41=>U6 vs40 fun a42 a43 a44 a45 a46 a47=>ob (CU y 47 a44 none (some a46) h41) fun t48=>
 ix 39 a42 a45 fun t49=>
 fd 84 0 t49 fun t50=>
 ld 3 t50 h41 fun t51=>
 ob (GV.asF a43) fun p54=>f_ (c p54.1 (p54.2.1++[t51,a47]++p54.2.2) h41) fun t52 h53=>
 f_ (AY y 47 1 [(0,t52)] h53) fun t55 h56=>
 f_ (PK y 47 47 t48 t55 h56) fun t57 h58=>
 oN [a42,a43,t57,a45] h58)) fun vs59 h60=>U4 vs59 fun a61 a62 a63 a64=>bn .sub 3 a64 (i 1) fun t65=>
 oN [a61,a62,a63,t65] h60) (ql 32)
def L33 (c:CH) (ql:QH) (us:List GV) (H:GH):RS:=U9 us fun a66 a67 a68 a69 a70 a71 a72 a73 a74=>jn (bn .lss 3 a74 a73 fun t75=>
 ob (GV.asB t75) fun q76=>jn (bC q76 (oX 2 [a66,a67,a68,a69,a70,a71] H) (oN [a66,a67,a68,a69,a70,a71,a72,a73,a74] H)) fun vs77 h78=>U9 vs77 fun a79 a80 a81 a82 a83 a84 a85 a86 a87=>jn (nB 3 (ix 47 a85 a87 fun t88=>
 ld 3 t88 h78 fun t89=>
 ob (Sq a84 t89) fun t90=>
 oN [a79,a80,a81,a82,a83,t90,a85,a86,a87] h78)) fun vs91 h92=>U9 vs91 fun a93 a94 a95 a96 a97 a98 a99 a100 a101=>bn .add 3 a101 (i 1) fun t102=>
 oN [a93,a94,a95,a96,a97,a98,a99,a100,t102] h92) (ql 33)
def B89 (c:CH) (ql:QH) (us:List GV) (H:GH):RS:=U2 us fun x1 x2=>
 bn .add 3 x2 (i 1) fun t3=>
 oR [t3] H
def B90 (c:CH) (ql:QH) (us:List GV) (H:GH):RS:=U2 us fun x1 x2=>
 K c 91 [x1] H fun t3 h4=>
 ob (GV.asB t3) fun q5=>jn (bC q5 (oN [x2] h4) (bn .add 3 x2 (i 1) fun t6=>
 oR [t6] h4)) fun vs7 h8=>U1 vs7 fun a9=>oR [a9] h8
def B91 (c:CH) (ql:QH) (us:List GV) (H:GH):RS:=U1 us fun x1=>
 bn .geq 3 x1 (i 20) fun t2=>
 f_ (rG t2 true H (some (x1,H))) fun t3 h4=>
 f_ (rG t2 true h4 (ob (Bt y .leq 3 t3 (i 29)) fun g5=>some (g5,h4))) fun t6 h7=>
 ob (qS t2 t6 (.bool false)) fun t8=>
 oR [t8] h7
def B95 (c:CH) (ql:QH) (us:List GV) (H:GH):RS:=U2 us fun x1 x2=>
 jn (nB 0 (ql 34 [x1,x2] H)) fun vs3 h4=>U1 vs3 fun a5=>oR [a5] h4
def L34 (c:CH) (ql:QH) (us:List GV) (H:GH):RS:=U2 us fun a6 a7=>jn (ln 9 a6 fun t8=>
 bn .lss 3 a7 t8 fun t9=>
 ob (GV.asB t9) fun q10=>jn (bC q10 (oX 0 [a7] H) (oN [a6,a7] H)) fun vs11 h12=>U2 vs11 fun a13 a14=>jn (nB 1 (ob (Um y 9 a13 a14) fun t15=>
 jn (nB 2 (bn .eql 5 t15 (.int .u8 (.ofNat 32)) fun t16=>
 ob (GV.asB t16) fun q17=>jn (bC q17 (bn .eql 5 t15 (.int .u8 (.ofNat 9)) fun t18=>
 ob (GV.asB t18) fun q19=>jn (bC q19 (bn .eql 5 t15 (.int .u8 (.ofNat 10)) fun t20=>
 ob (GV.asB t20) fun q21=>jn (bC q21 (bn .eql 5 t15 (.int .u8 (.ofNat 13)) fun t22=>
 oN [a13,a14,t15,t22] h12) (oN [a13,a14,t15,t20] h12)) fun vs23 h24=>U4 vs23 fun a25 a26 a27 a28=>oN [a25,a26,a27,a28] h24) (oN [a13,a14,t15,t18] h12)) fun vs29 h30=>U4 vs29 fun a31 a32 a33 a34=>oN [a31,a32,a33,a34] h30) (oN [a13,a14,t15,t16] h12)) fun vs35 h36=>U4 vs35 fun a37 a38 a39 a40=>ob (GV.asB a40) fun q41=>jn (bC q41 (bn .eql 5 a39 (.int .u8 (.ofNat 35)) fun t43=>
 ob (GV.asB t43) fun q44=>jn (bC q44 (oR [a38] h36) (jn (nB 3 (ql 35 [a37,a38] h36)) fun vs45 h46=>U2 vs45 fun a47 a48=>oN [a47,a48] h46)) fun vs49 h50=>U2 vs49 fun a51 a52=>oN [a51,a52] h50) (bn .add 3 a38 (i 1) fun t42=>
 oN [a37,t42] h36)) fun vs53 h54=>U2 vs53 fun a55 a56=>oN [a55,a56] h54)) fun vs57 h58=>U2 vs57 fun a59 a60=>oN [a59,a60] h58)) fun vs61 h62=>U2 vs61 fun a63 a64=>oN [a63,a64] h62) (ql 34)
def L35 (c:CH) (ql:QH) (us:List GV) (H:GH):RS:=U2 us fun a65 a66=>jn (ln 9 a65 fun t67=>
 bn .lss 3 a66 t67 fun t68=>
 f_ (rG t68 true H (some (a65,H))) fun t69 h70=>
 f_ (rG t68 true h70 (some (a66,h70))) fun t71 h72=>
 f_ (rG t68 true h72 (ob (Um y 9 t69 t71) fun g73=>some (g73,h72))) fun t74 h75=>
 f_ (rG t68 true h75 (ob (Bt y .neq 5 t74 (.int .u8 (.ofNat 10))) fun g76=>some (g76,h75))) fun t77 h78=>
 ob (qS t68 t77 (.bool false)) fun t79=>
 ob (GV.asB t79) fun q80=>jn (bC q80 (oX 3 [a65,a66] h78) (oN [a65,a66] h78)) fun vs81 h82=>U2 vs81 fun a83 a84=>jn (nB 4 (bn .add 3 a84 (i 1) fun t85=>
 oN [a83,t85] h82)) fun vs86 h87=>U2 vs86 fun a88 a89=>oN [a88,a89] h87) (ql 35)
def XQ (c:CH) (ql:QH) (us:List GV) (H:GH):RS:=U4 us fun x1 x2 x3 x4=>
 jn (nB 0 (ql 37 [x1,x2,x3,x4,(i 0)] H)) fun vs5 h6=>U0 vs5 (oR [] h6)
def L37 (c:CH) (ql:QH) (us:List GV) (H:GH):RS:=U5 us fun a7 a8 a9 a10 a11=>jn (ob (GV.nilck a7) fun t12=>
 fd 106 0 t12 fun t13=>
 K c 122 [t13] H fun t14 h15=>
 bn .eql 9 t14 a8 fun t16=>
 ob (GV.asB t16) fun q17=>jn (bC q17 (oX 0 [] h15) (oN [a7,a8,a9,a10,a11] h15)) fun vs18 h19=>U5 vs18 fun a20 a21 a22 a23 a24=>jn (nB 1 (bn .eql 3 a24 a22 fun t25=>
 ob (GV.asB t25) fun q26=>jn (bC q26 (oN [a20,a21,a22,a23,a24] h19) (ob (GV.nilck a20) fun t27=>
 fd 106 0 t27 fun t28=>
 K c 105 [t28,(i 3)] h19 fun t29 h30=>
 oN [a20,a21,a22,a23,a24] h30)) fun vs31 h32=>U5 vs31 fun a33 a34 a35 a36 a37=>ob (GV.nilck a33) fun t38=>
 fd 106 0 t38 fun t39=>
 K c 124 [t39] h32 fun t40 h41=>
 ob (GV.asF a36) fun p44=>f_ (c p44.1 (p44.2.1++[]++p44.2.2) h41) fun t42 h43=>
 oN [a33,a34,a35,a36,a37] h43)) fun vs45 h46=>U5 vs45 fun a47 a48 a49 a50 a51=>bn .add 3 a51 (i 1) fun t52=>
 oN [a47,a48,a49,a50,t52] h46) (ql 37)
def XR (c:CH) (ql:QH) (us:List GV) (H:GH):RS:=U1 us fun x1=>
 ob (GV.nilck x1) fun t2=>
 fd 104 1 t2 fun t3=>
 ld 98 t3 H fun t4=>
 ln 98 t4 fun t5=>
 bn .eql 3 t5 (i 0) fun t6=>
 oR [t6] H
def XS (c:CH) (ql:QH) (us:List GV) (H:GH):RS:=U1 us fun x1=>
 ln 9 x1 fun t2=>
 bn .lss 3 t2 (i 1) fun t3=>
 f_ (rG t3 false H (some (x1,H))) fun t4 h5=>
 f_ (rG t3 false h5 (ob (NC y 9 t4) fun g6=>some (g6,h5))) fun t7 h8=>
 f_ (rG t3 false h8 (ob (Bt y .gtr 3 t7 (i 24)) fun g9=>some (g9,h8))) fun t10 h11=>
 ob (qS t3 (.bool true) t10) fun t12=>
 f_ (rG t12 false h11 (some (x1,h11))) fun t13 h14=>
 f_ (rG t12 false h14 (ob (Um y 9 t13 (i 0)) fun g15=>some (g15,h14))) fun t16 h17=>
 f_ (rG t12 false h17 (f_ (c 116 [t16] h17) EA)) fun t18 h19=>
 f_ (rG t12 false h19 (ob (PO .not t18) fun g20=>some (g20,h19))) fun t21 h22=>
 ob (qS t12 (.bool true) t21) fun t23=>
 ob (GV.asB t23) fun q24=>jn (bC q24 (oN [x1] h22) (oR [(.bool false)] h22)) fun vs25 h26=>U1 vs25 fun a27=>ln 9 a27 fun t28=>
 jn (nB 0 (ql 39 [a27,t28,(i 0)] h26)) fun vs29 h30=>U1 vs29 fun a31=>K c 129 [a31] h30 fun t32 h33=>
 ob (PO .not t32) fun t34=>
 oR [t34] h33
def L39 (c:CH) (ql:QH) (us:List GV) (H:GH):RS:=U3 us fun a35 a36 a37=>jn (bn .lss 3 a37 a36 fun t38=>
 ob (GV.asB t38) fun q39=>jn (bC q39 (oX 0 [a35] H) (oN [a35,a36,a37] H)) fun vs40 h41=>U3 vs40 fun a42 a43 a44=>jn (nB 1 (ob (Um y 9 a42 a44) fun t45=>
 K c 117 [t45] h41 fun t46 h47=>
 ob (PO .not t46) fun t48=>
 ob (GV.asB t48) fun q49=>jn (bC q49 (oN [a42,a43,a44] h47) (oR [(.bool false)] h47)) fun vs50 h51=>U3 vs50 fun a52 a53 a54=>oN [a52,a53,a54] h51)) fun vs55 h56=>U3 vs55 fun a57 a58 a59=>bn .add 3 a59 (i 1) fun t60=>
 oN [a57,a58,t60] h56) (ql 39)
def XT (c:CH) (ql:QH) (us:List GV) (H:GH):RS:=U3 us fun x1 x2 x3=>
 bn .geq 3 x1 x2 fun t4=>
 f_ (rG t4 true H (some (x1,H))) fun t5 h6=>
 f_ (rG t4 true h6 (some (x3,h6))) fun t7 h8=>
 f_ (rG t4 true h8 (ob (Bt y .leq 3 t5 t7) fun g9=>some (g9,h8))) fun t10 h11=>
 ob (qS t4 t10 (.bool false)) fun t12=>
 oR [t12] h11
def XU (c:CH) (ql:QH) (us:List GV) (H:GH):RS:=U3 us fun x1 x2 x3=>
 ln 47 x2 fun t4=>
 bn .gtr 3 t4 (i 6) fun t5=>
 ob (GV.asB t5) fun q6=>jn (bC q6 (oN [x1,x2,x3] H) (oR [(i 0),(i 7)] H)) fun vs7 h8=>U3 vs7 fun a9 a10 a11=>ln 47 a10 fun t12=>
 jn (nB 0 (ql 40 [a9,a10,a11,a10,t12,(i 0)] h8)) fun vs13 h14=>U3 vs13 fun a15 a16 a17=>ln 47 a16 fun t18=>
 K c 45 [a15,t18] h14 fun t19 h20=>
 ob (PO .not t19) fun t21=>
 ob (GV.asB t21) fun q22=>jn (bC q22 (oN [a15,a16,a17] h20) (oR [(i 0),(i 7)] h20)) fun vs23 h24=>U3 vs23 fun a25 a26 a27=>bd 151 [(0,a25),(1,a26)] fun t28=>
 f_ (sN y 151 h24) fun t29 h30=>
 f_ (uB y 151 t29 t28 h30) fun t31 h32=>
 ld 151 t29 h32 fun t33=>
 K c 130 [t33,(i 0),a27] h32 fun t34 h35=>
 ex 0 t34 fun t36=>
 ex 1 t34 fun t37=>
 bn .eql 3 t36 (i 0) fun t38=>
 ob (GV.asB t38) fun q39=>jn (bC q39 (oN [t36] h35) (oR [(i 0),(i 6)] h35)) fun vs40 h41=>U1 vs40 fun a42=>oR [a42,(i 0)] h41
def L40 (c:CH) (ql:QH) (us:List GV) (H:GH):RS:=U6 us fun a43 a44 a45 a46 a47 a48=>jn (bn .lss 3 a48 a47 fun t49=>
 ob (GV.asB t49) fun q50=>jn (bC q50 (oX 0 [a43,a44,a45] H) (oN [a43,a44,a45,a46,a47,a48] H)) fun vs51 h52=>U6 vs51 fun a53 a54 a55 a56 a57 a58=>jn (nB 1 (ix 47 a56 a58 fun t59=>
 ld 3 t59 h52 fun t60=>
 K c 107 [t60] h52 fun t61 h62=>
 ob (PO .not t61) fun t63=>
 ob (GV.asB t63) fun q64=>jn (bC q64 (oN [a53,a54,a55,a56,a57,a58] h62) (oR [(i 0),(i 7)] h62)) fun vs65 h66=>U6 vs65 fun a67 a68 a69 a70 a71 a72=>oN [a67,a68,a69,a70,a71,a72] h66)) fun vs73 h74=>U6 vs73 fun a75 a76 a77 a78 a79 a80=>bn .add 3 a80 (i 1) fun t81=>
 oN [a75,a76,a77,a78,a79,t81] h74) (ql 40)
def XW (c:CH) (ql:QH) (us:List GV) (H:GH):RS:=U3 us fun x1 x2 x3=>
 ld 3 x2 H fun t4=>
 jn (nB 0 (ql 41 [x1,x3,t4] H)) fun vs5 h6=>U1 vs5 fun a7=>oR [a7] h6
def L41 (c:CH) (ql:QH) (us:List GV) (H:GH):RS:=U3 us fun a8 a9 a10=>jn (ld 9 a9 H fun t11=>
 ln 9 t11 fun t12=>
 bn .lss 3 a10 t12 fun t13=>
 f_ (rG t13 true H (some (a8,H))) fun t14 h15=>
 f_ (rG t13 true h15 (ob (xO y 9 a9 h15) fun g16=>some (g16,h15))) fun t17 h18=>
 f_ (rG t13 true h18 (some (a10,h18))) fun t19 h20=>
 f_ (rG t13 true h20 (ob (Um y 9 t17 t19) fun g21=>some (g21,h20))) fun t22 h23=>
 f_ (rG t13 true h23 (ob (GV.asF t14) fun p24=>f_ (c p24.1 (p24.2.1++[t22]++p24.2.2) h23) EA)) fun t25 h26=>
 ob (qS t13 t25 (.bool false)) fun t27=>
 ob (GV.asB t27) fun q28=>jn (bC q28 (oX 0 [a10] h26) (oN [a8,a9,a10] h26)) fun vs29 h30=>U3 vs29 fun a31 a32 a33=>jn (nB 1 (bn .add 3 a33 (i 1) fun t34=>
 oN [a31,a32,t34] h30)) fun vs35 h36=>U3 vs35 fun a37 a38 a39=>oN [a37,a38,a39] h36) (ql 41)
def XX (c:CH) (ql:QH) (us:List GV) (H:GH):RS:=U1 us fun x1=>
 bn .geq 5 x1 (.int .u8 (.ofNat 97)) fun t2=>
 f_ (rG t2 true H (some (x1,H))) fun t3 h4=>
 f_ (rG t2 true h4 (ob (Bt y .leq 5 t3 (.int .u8 (.ofNat 122))) fun g5=>some (g5,h4))) fun t6 h7=>
 ob (qS t2 t6 (.bool false)) fun t8=>
 f_ (rG t8 false h7 (some (x1,h7))) fun t9 h10=>
 f_ (rG t8 false h10 (ob (Bt y .geq 5 t9 (.int .u8 (.ofNat 65))) fun g11=>some (g11,h10))) fun t12 h13=>
 f_ (rG t8 false h13 (some (t12,h13))) fun t14 h15=>
 f_ (rG t14 true h15 (some (x1,h15))) fun t16 h17=>
 f_ (rG t14 true h17 (ob (Bt y .leq 5 t16 (.int .u8 (.ofNat 90))) fun g18=>some (g18,h17))) fun t19 h20=>
 f_ (rG t8 false h20 (ob (qS t14 t19 (.bool false)) fun g21=>some (g21,h20))) fun t22 h23=>
 ob (qS t8 (.bool true) t22) fun t24=>
 oR [t24] h23
def XY (c:CH) (ql:QH) (us:List GV) (H:GH):RS:=U1 us fun x1=>
 K c 116 [x1] H fun t2 h3=>
 f_ (rG t2 false h3 (some (x1,h3))) fun t4 h5=>
 f_ (rG t2 false h5 (f_ (c 118 [t4] h5) EA)) fun t6 h7=>
 ob (qS t2 (.bool true) t6) fun t8=>
 f_ (rG t8 false h7 (some (x1,h7))) fun t9 h10=>
 f_ (rG t8 false h10 (ob (Bt y .eql 5 t9 (.int .u8 (.ofNat 95))) fun g11=>some (g11,h10))) fun t12 h13=>
 ob (qS t8 (.bool true) t12) fun t14=>
 oR [t14] h13
def XZ (c:CH) (ql:QH) (us:List GV) (H:GH):RS:=U1 us fun x1=>
 bn .geq 5 x1 (.int .u8 (.ofNat 48)) fun t2=>
 f_ (rG t2 true H (some (x1,H))) fun t3 h4=>
 f_ (rG t2 true h4 (ob (Bt y .leq 5 t3 (.int .u8 (.ofNat 57))) fun g5=>some (g5,h4))) fun t6 h7=>
 ob (qS t2 t6 (.bool false)) fun t8=>
 oR [t8] h7
def X_ (c:CH) (ql:QH) (us:List GV) (H:GH):RS:=U1 us fun x1=>
 f_ (AY y 102 9 [(0,(.str 11822 2)),(1,(.str 15917 2)),(2,(.str 15674 2)),(3,(.str 9766 2)),(4,(.str 31868 2)),(5,(.str 15677 2)),(6,(.str 15649 2)),(7,(.str 15676 2)),(8,(.str 15678 2))] H) fun t2 h3=>
 ln 102 t2 fun t4=>
 jn (nB 0 (ql 43 [x1,t2,t4,(i 0)] h3)) fun vs5 h6=>U1 vs5 fun a7=>ob (Um y 9 a7 (i 0)) fun t8=>
 K c 139 [(.str 172099982263598878148345807877454395 15),t8] h6 fun t9 h10=>
 bn .geq 3 t9 (i 0) fun t11=>
 ob (GV.asB t11) fun q12=>jn (bC q12 (oN [] h10) (oR [(i 1)] h10)) fun vs13 h14=>U0 vs13 (oR [(i 0)] h14)
def L43 (c:CH) (ql:QH) (us:List GV) (H:GH):RS:=U4 us fun a15 a16 a17 a18=>jn (bn .lss 3 a18 a17 fun t19=>
 ob (GV.asB t19) fun q20=>jn (bC q20 (oX 0 [a15] H) (oN [a15,a16,a17,a18] H)) fun vs21 h22=>U4 vs21 fun a23 a24 a25 a26=>jn (nB 1 (ix 102 a24 a26 fun t27=>
 ld 9 t27 h22 fun t28=>
 K c 138 [a23,t28] h22 fun t29 h30=>
 ob (GV.asB t29) fun q31=>jn (bC q31 (oN [a23,a24,a25,a26] h30) (oR [(i 2)] h30)) fun vs32 h33=>U4 vs32 fun a34 a35 a36 a37=>oN [a34,a35,a36,a37] h33)) fun vs38 h39=>U4 vs38 fun a40 a41 a42 a43=>bn .add 3 a43 (i 1) fun t44=>
 oN [a40,a41,a42,t44] h39) (ql 43)
def Ya (c:CH) (ql:QH) (us:List GV) (H:GH):RS:=U2 us fun x1 x2=>
 K c 122 [x1] H fun t3 h4=>
 bn .neq 9 t3 x2 fun t5=>
 ob (GV.asB t5) fun q6=>jn (bC q6 (oN [x1] h4) (oR [(.bool false)] h4)) fun vs7 h8=>U1 vs7 fun a9=>K c 124 [a9] h8 fun t10 h11=>
 oR [(.bool true)] h11
def Yb (c:CH) (ql:QH) (us:List GV) (H:GH):RS:=U1 us fun x1=>
 ob (GV.nilck x1) fun t2=>
 fd 104 1 t2 fun t3=>
 ld 98 t3 H fun t4=>
 ln 98 t4 fun t5=>
 bn .eql 3 t5 (i 0) fun t6=>
 ob (GV.asB t6) fun q7=>jn (bC q7 (oN [x1] H) (oR [(.str 0 0)] H)) fun vs8 h9=>U1 vs8 fun a10=>ob (GV.nilck a10) fun t11=>
 fd 104 0 t11 fun t12=>
 ld 9 t12 h9 fun t13=>
 ob (GV.nilck a10) fun t14=>
 fd 104 1 t14 fun t15=>
 ld 98 t15 h9 fun t16=>
 ix 98 t16 (i 0) fun t17=>
 fd 123 1 t17 fun t18=>
 ld 3 t18 h9 fun t19=>
 ob (GV.nilck a10) fun t20=>
 fd 104 1 t20 fun t21=>
 ld 98 t21 h9 fun t22=>
 ix 98 t22 (i 0) fun t23=>
 fd 123 2 t23 fun t24=>
 ld 3 t24 h9 fun t25=>
 ob (CU y 9 t13 (some t19) (some t25) h9) fun t26=>
 oR [t26] h9
def Yc (c:CH) (ql:QH) (us:List GV) (H:GH):RS:=U1 us fun x1=>
 f_ (sN y 123 H) fun t2 h3=>
 ob (GV.nilck x1) fun t4=>
 fd 104 1 t4 fun t5=>
 ld 98 t5 h3 fun t6=>
 ln 98 t6 fun t7=>
 bn .eql 3 t7 (i 0) fun t8=>
 ob (GV.asB t8) fun q9=>jn (bC q9 (oN [x1,t2] h3) (K c 105 [x1,(i 4)] h3 fun t10 h11=>
 oN [x1,t2] h11)) fun vs12 h13=>U2 vs12 fun a14 a15=>ob (GV.nilck a14) fun t16=>
 fd 104 1 t16 fun t17=>
 ld 98 t17 h13 fun t18=>
 ix 98 t18 (i 0) fun t19=>
 ld 123 t19 h13 fun t20=>
 f_ (sN y 123 h13) fun t21 h22=>
 f_ (uB y 123 t21 t20 h22) fun t23 h24=>
 ob (GV.nilck a14) fun t25=>
 fd 104 1 t25 fun t26=>
 ld 98 t26 h24 fun t27=>
 ob (CU y 98 t27 (some (i 1)) none h24) fun t28=>
 ob (GV.nilck a14) fun t29=>
 fd 104 1 t29 fun t30=>
 f_ (uB y 98 t30 t28 h24) fun t31 h32=>
 ld 123 t21 h32 fun t33=>
 f_ (uB y 123 a15 t33 h32) fun t34 h35=>
 ob (ob (xO y 123 a15 h35) fun r36=>some [r36]) fun vs37=>oR vs37 h35
def Yd (c:CH) (ql:QH) (us:List GV) (H:GH):RS:=U3 us fun x1 x2 x3=>
 f_ (F_ x1 H) fun t4 h5=>
 fd 151 0 t4 fun t6=>
 ld 39 t6 h5 fun t7=>
 ix 39 t7 x2 fun t8=>
 ld 84 t8 h5 fun t9=>
 f_ (sN y 84 h5) fun t10 h11=>
 f_ (uB y 84 t10 t9 h11) fun t12 h13=>
 bn .add 3 x2 (i 1) fun t14=>
 fd 84 0 t10 fun t15=>
 ld 3 t15 h13 fun t16=>
 K c 87 [t16] h13 fun t17 h18=>
 bn .eql 3 t17 (i 0) fun t19=>
 ob (GV.asB t19) fun q20=>jn (bC q20 (oN [x3,t4,t14,t10] h18) (fd 84 0 t10 fun t21=>
 ld 3 t21 h18 fun t22=>
 K c 144 [t22] h18 fun t23 h24=>
 f_ (rG t23 true h24 (some (x3,h24))) fun t25 h26=>
 f_ (rG t23 true h26 (ob (PO .not t25) fun g27=>some (g27,h26))) fun t28 h29=>
 ob (qS t23 t28 (.bool false)) fun t30=>
 ob (GV.asB t30) fun q31=>jn (bC q31 (oN [t4,t14,t10] h29) (oR [(i 0),t14] h29)) fun vs32 h33=>U3 vs32 fun a34 a35 a36=>ld 151 a34 h33 fun t37=>
 ld 84 a36 h33 fun t38=>
 K c 145 [t37,t38] h33 fun t39 h40=>
 oR [t39,a35] h40)) fun vs41 h42=>U4 vs41 fun a43 a44 a45 a46=>f_ (rG a43 false h42 (ob (CS y 84 0 a46) fun g47=>some (g47,h42))) fun t48 h49=>
 f_ (rG a43 false h49 (ob (xO y 3 t48 h49) fun g50=>some (g50,h49))) fun t51 h52=>
 f_ (rG a43 false h52 (f_ (c 91 [t51] h52) EA)) fun t53 h54=>
 ob (qS a43 (.bool true) t53) fun t55=>
 f_ (sN y 162 h54) fun t56 h57=>
 fd 84 0 a46 fun t58=>
 ld 3 t58 h57 fun t59=>
 K c 87 [t59] h57 fun t60 h61=>
 jn (nB 0 (ql 44 [a44,a45,a46,t55,t56,t60,(i 0)] h61)) fun vs62 h63=>U3 vs62 fun a64 a65 a66=>fd 84 0 a65 fun t67=>
 ld 3 t67 h63 fun t68=>
 ld 162 a66 h63 fun t69=>
 K c 146 [t68,t69] h63 fun t70 h71=>
 oR [t70,a64] h71
def L44 (c:CH) (ql:QH) (us:List GV) (H:GH):RS:=U7 us fun a72 a73 a74 a75 a76 a77 a78=>jn (bn .lss 3 a78 a77 fun t79=>
 ob (GV.asB t79) fun q80=>jn (bC q80 (oX 0 [a73,a74,a76] H) (oN [a72,a73,a74,a75,a76,a77,a78] H)) fun vs81 h82=>U7 vs81 fun a83 a84 a85 a86 a87 a88 a89=>jn (nB 1 (ld 151 a83 h82 fun t90=>
 K c 130 [t90,a84,a86] h82 fun t91 h92=>
 ex 0 t91 fun t93=>
 ex 1 t91 fun t94=>
 ix 162 a87 a89 fun t95=>
 f_ (uB y 3 t95 t93 h92) fun t96 h97=>
 oN [a83,t94,a85,a86,a87,a88,a89] h97)) fun vs98 h99=>U7 vs98 fun a100 a101 a102 a103 a104 a105 a106=>bn .add 3 a106 (i 1) fun t107=>
 oN [a100,a101,a102,a103,a104,a105,t107] h99) (ql 44)
def Ye (c:CH) (ql:QH) (us:List GV) (H:GH):RS:=U2 us fun x1 x2=>
 K c 148 [x1,x2] H fun t3 h4=>
 oR [t3] h4
def Yf (c:CH) (ql:QH) (us:List GV) (H:GH):RS:=U2 us fun x1 x2=>
 K c 149 [x1,x2] H fun t3 h4=>
 oR [t3] h4
def Yg (c:CH) (ql:QH) (us:List GV) (H:GH):RS:=U2 us fun x1 x2=>
 bn .eql 3 x2 (i 6) fun t3=>
 ob (GV.asB t3) fun q4=>jn (bC q4 (oN [x1,x2] H) (K c 151 [x1] H fun t5 h6=>
 oR [t5] h6)) fun vs7 h8=>U2 vs7 fun a9 a10=>bn .add 3 a10 (i 1) fun t11=>
 K c 141 [a9,t11] h8 fun t12 h13=>
 jn (nB 0 (ql 45 [a9,a10,t12] h13)) fun vs14 h15=>U1 vs14 fun a16=>oR [a16] h15
def L45 (c:CH) (ql:QH) (us:List GV) (H:GH):RS:=U3 us fun a17 a18 a19=>jn (jn (nB 1 (K c 122 [a17] H fun t20 h21=>
 K c 152 [t20] h21 fun t22 h23=>
 bn .eql 3 t22 (i 0) fun t24=>
 f_ (rG t24 false h23 (some (t22,h23))) fun t25 h26=>
 f_ (rG t24 false h26 (f_ (c 153 [t25] h26) EA)) fun t27 h28=>
 f_ (rG t24 false h28 (some (a18,h28))) fun t29 h30=>
 f_ (rG t24 false h30 (ob (Bt y .neq 3 t27 t29) fun g31=>some (g31,h30))) fun t32 h33=>
 ob (qS t24 (.bool true) t32) fun t34=>
 ob (GV.asB t34) fun q35=>jn (bC q35 (oN [a17,a18,a19,t22] h33) (oR [a19] h33)) fun vs36 h37=>U4 vs36 fun a38 a39 a40 a41=>K c 124 [a38] h37 fun t42 h43=>
 bn .add 3 a39 (i 1) fun t44=>
 K c 141 [a38,t44] h43 fun t45 h46=>
 f_ (AY y 114 2 [(0,a40),(1,t45)] h46) fun t47 h48=>
 K c 142 [a41,t47] h48 fun t49 h50=>
 bn .eql 3 a39 (i 3) fun t51=>
 ob (GV.asB t51) fun q52=>jn (bC q52 (oN [a38,a39,t49] h50) (oR [t49] h50)) fun vs53 h54=>U3 vs53 fun a55 a56 a57=>oN [a55,a56,a57] h54)) fun vs58 h59=>U3 vs58 fun a60 a61 a62=>oN [a60,a61,a62] h59) (ql 45)
def Yh (c:CH) (ql:QH) (us:List GV) (H:GH):RS:=U2 us fun x1 x2=>
 K c 154 [x1,(i 0)] H fun t3 h4=>
 ln 114 x2 fun t5=>
 jn (nB 0 (ql 46 [t3,x2,t5,(i 0)] h4)) fun vs6 h7=>U1 vs6 fun a8=>oR [a8] h7
def L46 (c:CH) (ql:QH) (us:List GV) (H:GH):RS:=U4 us fun a9 a10 a11 a12=>jn (bn .lss 3 a12 a11 fun t13=>
 ob (GV.asB t13) fun q14=>jn (bC q14 (oX 0 [a9] H) (oN [a9,a10,a11,a12] H)) fun vs15 h16=>U4 vs15 fun a17 a18 a19 a20=>jn (nB 1 (ix 114 a18 a20 fun t21=>
 ld 39 t21 h16 fun t22=>
 f_ (PK y 39 39 a17 t22 h16) fun t23 h24=>
 oN [t23,a18,a19,a20] h24)) fun vs25 h26=>U4 vs25 fun a27 a28 a29 a30=>bn .add 3 a30 (i 1) fun t31=>
 oN [a27,a28,a29,t31] h26) (ql 46)
def Yi (c:CH) (ql:QH) (us:List GV) (H:GH):RS:=U2 us fun x1 x2=>
 ln 102 x1 fun t3=>
 jn (nB 0 (ql 47 [x1,x2,t3,(i 0)] H)) fun vs4 h5=>U0 vs4 (oR [(.int .i64 (.negSucc 0))] h5)
def L47 (c:CH) (ql:QH) (us:List GV) (H:GH):RS:=U4 us fun a6 a7 a8 a9=>jn (bn .lss 3 a9 a8 fun t10=>
 ob (GV.asB t10) fun q11=>jn (bC q11 (oX 0 [] H) (oN [a6,a7,a8,a9] H)) fun vs12 h13=>U4 vs12 fun a14 a15 a16 a17=>jn (nB 1 (ix 102 a14 a17 fun t18=>
 ld 9 t18 h13 fun t19=>
 bn .eql 9 a15 t19 fun t20=>
 ob (GV.asB t20) fun q21=>jn (bC q21 (oN [a14,a15,a16,a17] h13) (oR [a17] h13)) fun vs22 h23=>U4 vs22 fun a24 a25 a26 a27=>oN [a24,a25,a26,a27] h23)) fun vs28 h29=>U4 vs28 fun a30 a31 a32 a33=>bn .add 3 a33 (i 1) fun t34=>
 oN [a30,a31,a32,t34] h29) (ql 47)
def Yj (c:CH) (ql:QH) (us:List GV) (H:GH):RS:=U2 us fun x1 x2=>
 ln 9 x1 fun t3=>
 ln 9 x2 fun t4=>
 bn .geq 3 t3 t4 fun t5=>
 f_ (rG t5 true H (some (x1,H))) fun t6 h7=>
 f_ (rG t5 true h7 (some (x2,h7))) fun t8 h9=>
 f_ (rG t5 true h9 (ob (NC y 9 t8) fun g10=>some (g10,h9))) fun t11 h12=>
 f_ (rG t5 true h12 (ob (CU y 9 t6 none (some t11) h12) fun g13=>some (g13,h12))) fun t14 h15=>
 f_ (rG t5 true h15 (some (x2,h15))) fun t16 h17=>
 f_ (rG t5 true h17 (ob (Bt y .eql 9 t14 t16) fun g18=>some (g18,h17))) fun t19 h20=>
 ob (qS t5 t19 (.bool false)) fun t21=>
 oR [t21] h20
def Yk (c:CH) (ql:QH) (us:List GV) (H:GH):RS:=U2 us fun x1 x2=>
 K c 156 [x1,x2] H fun t3 h4=>
 oR [t3] h4
def Yl (c:CH) (ql:QH) (us:List GV) (H:GH):RS:=U1 us fun x1=>
 K c 159 [] H fun t2 h3=>
 K c 158 [x1,(i 30),t2] h3 fun t4 h5=>
 oR [t4] h5
def Ym (c:CH) (ql:QH) (us:List GV) (H:GH):RS:=U2 us fun x1 x2=>
 bd 84 [(0,x1),(1,x2)] fun t3=>
 f_ (AY y 39 1 [(0,t3)] H) fun t4 h5=>
 oR [t4] h5
def Yn (c:CH) (ql:QH) (us:List GV) (H:GH):RS:=U2 us fun x1 x2=>
 ob (GV.asB x1) fun q3=>jn (bC q3 (oN [] H) (oR [x2] H)) fun vs4 h5=>U0 vs4 (oR [(i 0)] h5)
def Yo (c:CH) (ql:QH) (us:List GV) (H:GH):RS:=U3 us fun x1 x2 x3=>
 bn .eql 9 x1 (.str 0 0) fun t4=>
 ob (GV.asB t4) fun q5=>jn (bC q5 (oN [x1,x2,x3] H) (oR [(i 0)] H)) fun vs6 h7=>U3 vs6 fun a8 a9 a10=>ln 102 a10 fun t11=>
 jn (nB 0 (ql 48 [a8,a9,a10,t11,(i 0)] h7)) fun vs12 h13=>U0 vs12 (oR [(i 0)] h13)
def L48 (c:CH) (ql:QH) (us:List GV) (H:GH):RS:=U5 us fun a14 a15 a16 a17 a18=>jn (bn .lss 3 a18 a17 fun t19=>
 ob (GV.asB t19) fun q20=>jn (bC q20 (oX 0 [] H) (oN [a14,a15,a16,a17,a18] H)) fun vs21 h22=>U5 vs21 fun a23 a24 a25 a26 a27=>jn (nB 1 (ix 102 a25 a27 fun t28=>
 ld 9 t28 h22 fun t29=>
 bn .eql 9 t29 a23 fun t30=>
 ob (GV.asB t30) fun q31=>jn (bC q31 (oN [a23,a24,a25,a26,a27] h22) (bn .add 3 a24 a27 fun t32=>
 oR [t32] h22)) fun vs33 h34=>U5 vs33 fun a35 a36 a37 a38 a39=>oN [a35,a36,a37,a38,a39] h34)) fun vs40 h41=>U5 vs40 fun a42 a43 a44 a45 a46=>bn .add 3 a46 (i 1) fun t47=>
 oN [a42,a43,a44,a45,t47] h41) (ql 48)
def Yp (c:CH) (ql:QH) (us:List GV) (H:GH):RS:=U1 us fun x1=>
 K c 164 [] H fun t2 h3=>
 K c 158 [x1,(i 2),t2] h3 fun t4 h5=>
 oR [t4] h5
def Yq (c:CH) (ql:QH) (us:List GV) (H:GH):RS:=U1 us fun x1=>
 K c 165 [] H fun t2 h3=>
 K c 158 [x1,(i 20),t2] h3 fun t4 h5=>
 oR [t4] h5
def Yr (c:CH) (ql:QH) (us:List GV) (H:GH):RS:=U1 us fun x1=>
 K c 166 [] H fun t2 h3=>
 K c 158 [x1,(i 13),t2] h3 fun t4 h5=>
 oR [t4] h5
def Ys (c:CH) (ql:QH) (us:List GV) (H:GH):RS:=U0 us (f_ (AY y 102 5 [(0,(.str 25705 2)),(1,(.str 6776164 3)),(2,(.str 1953460082 4)),(3,(.str 127991760381303 6)),(4,(.str 1801675106 4))] H) fun t1 h2=>
 oR [t1] h2)
def d0:(Code×Cx)×iY:=PR (fC Tryz.f7 [1,1,1,1,1,1,0,1,0,0],mI Tryz.f7 [(0,214)]) s7
def d1:(Code×Cx)×iY:=PR (fC Tryz.f7 [1,1,1,1,1,1,1,0,1,0,0],mI Tryz.f7 [(2,80)]) s7
def d2:(Code×Cx)×iY:=gD (fC Tryz.f9 [1,1,0,1,0,0],mI Tryz.f9 [(0,0)]) 2
def d3:(Code×Cx)×iY:=PR (fC Tryz.f11 [1,1,0,1,0,0],mI Tryz.f11 [(0,12)]) XL
def d4:(Code×Cx)×iY:=PR (fC Tryz.f11 [1,1,1,0,1,0,0],mI Tryz.f11 [(2,0)]) XL
def d5:(Code×Cx)×iY:=PR (fC Tryz.f11 [1,1,1,0,1,0,0,1,0,0,1,1,1,0,0],mI Tryz.f11 [(4,76),(3,76),(2,0)]) XL
def d6:(Code×Cx)×iY:=PR (fC Tryz.f15 [1,1,1,1,0,1,0,0],mI Tryz.f15 [(0,220)]) Xg
def d7:(Code×Cx)×iY:=PR (fC Tryz.f15 [1,1,1,1,1,0,1,0,0],mI Tryz.f15 [(2,220)]) Xg
def d8:(Code×Cx)×iY:=PR (fC Tryz.f15 [1,1,1,1,1,1,1,1,0,1,0,0],mI Tryz.f15 [(4,216)]) Xg
def d9:(Code×Cx)×iY:=PR (fC Tryz.f15 [1,1,1,1,1,1,1,1,1,0,1,0,0],mI Tryz.f15 [(6,80)]) Xg
def d10:(Code×Cx)×iY:=gD (fC Tryz.f23 [1,1,0,1,0,0],mI Tryz.f23 [(0,8)]) 10
def d11:(Code×Cx)×iY:=gD (fC Tryz.f24 [1,1,1,0,1,0,0],mI Tryz.f24 [(0,48)]) 11
def d12:(Code×Cx)×iY:=gD (fC Tryz.f29 [1,1,0,1,0,0],mI Tryz.f29 [(0,24)]) 12
def d13:(Code×Cx)×iY:=gD (fC Tryz.f30 [1,1,0,1,0,0],mI Tryz.f30 [(0,0)]) 13
def d14:(Code×Cx)×iY:=gD (fC Tryz.f37 [1,1,0,1,0,0],mI Tryz.f37 [(0,32)]) 14
def d15:(Code×Cx)×iY:=((fC Tryz.f45 [1,1,0,1,0,0],mI Tryz.f45 [(0,1)]),L15)
def d16:(Code×Cx)×iY:=PR (fC Tryz.f50 [1,1,1,0,1,0,0],mI Tryz.f50 [(0,2)]) XM
def d17:(Code×Cx)×iY:=PR (fC Tryz.f50 [1,1,1,1,0,1,0,0],mI Tryz.f50 [(2,2)]) XM
def d18:(Code×Cx)×iY:=PR (fC Tryz.f50 [1,1,1,1,1,1,0,1,0,0],mI Tryz.f50 [(4,0)]) XM
def d19:(Code×Cx)×iY:=((fC Tryz.f51 [1,1,0,1,0,0],mI Tryz.f51 [(0,3)]),L19)
def d20:(Code×Cx)×iY:=((fC Tryz.f51 [1,1,1,1,1,0,1,0,0],mI Tryz.f51 [(2,256)]),L20)
def d21:(Code×Cx)×iY:=gD (fC Tryz.f55 [1,1,0,1,0,0],mI Tryz.f55 [(0,12)]) 21
def d22:(Code×Cx)×iY:=((fC Tryz.f56 [1,0,1,0,0],mI Tryz.f56 [(0,0)]),L22)
def d23:(Code×Cx)×iY:=((fC Tryz.f58 [1,0,1,0,0],mI Tryz.f58 [(0,0)]),L23)
def d24:(Code×Cx)×iY:=((fC Tryz.f64 [1,1,0,1,0,0],mI Tryz.f64 [(0,0)]),L24)
def d25:(Code×Cx)×iY:=((fC Tryz.f70 [1,1,1,0,1,0,0],mI Tryz.f70 [(0,32)]),L25)
def d26:(Code×Cx)×iY:=((fC Tryz.f73 [1,1,1,0,1,0,0],mI Tryz.f73 [(0,2)]),L26)
def d27:(Code×Cx)×iY:=((fC Tryz.f73 [1,1,1,1,1,0,1,0,0],mI Tryz.f73 [(2,0)]),L27)
def d28:(Code×Cx)×iY:=gD (fC Tryz.f75 [1,1,1,0,1,0,0],mI Tryz.f75 [(0,0)]) 28
def d29:(Code×Cx)×iY:=gD (fC Tryz.f76 [1,1,0,1,0,0],mI Tryz.f76 [(0,8)]) 29
def d30:(Code×Cx)×iY:=gD (fC Tryz.f77 [1,1,0,1,0,0],mI Tryz.f77 [(0,0)]) 30
def d31:(Code×Cx)×iY:=((fC Tryz.f85 [1,0,1,0,0],mI Tryz.f85 [(0,0)]),L31)
def d32:(Code×Cx)×iY:=((fC Tryz.f88 [1,1,1,0,1,0,0],mI Tryz.f88 [(0,64)]),L32)
def d33:(Code×Cx)×iY:=((fC Tryz.f88 [1,1,1,0,1,0,0,1,0,0,1,1,0,1,0,0],mI Tryz.f88 [(2,963),(1,195),(0,64)]),L33)
def d34:(Code×Cx)×iY:=((fC Tryz.f95 [1,0,0,0],mI Tryz.f95 [(0,2)]),L34)
def d35:(Code×Cx)×iY:=((fC Tryz.f95 [1,0,0,0,1,0,1,0,1,1,1,0,0,0],mI Tryz.f95 [(3,3),(2,3),(1,3),(0,2)]),L35)
def d36:(Code×Cx)×iY:=gD (fC Tryz.f100 [1,1,1,0,1,0,0],mI Tryz.f100 [(0,33)]) 36
def d37:(Code×Cx)×iY:=((fC Tryz.f101 [1,0,0],mI Tryz.f101 [(0,0)]),L37)
def d38:(Code×Cx)×iY:=gD (fC Tryz.f103 [1,1,1,1,1,0,0,0],mI Tryz.f103 [(0,5)]) 38
def d39:(Code×Cx)×iY:=((fC Tryz.f106 [1,1,0,1,0,0],mI Tryz.f106 [(0,1)]),L39)
def d40:(Code×Cx)×iY:=((fC Tryz.f109 [1,1,0,1,0,0],mI Tryz.f109 [(0,7)]),L40)
def d41:(Code×Cx)×iY:=((fC Tryz.f115 [1,1,0,0,0],mI Tryz.f115 [(0,32)]),L41)
def d42:(Code×Cx)×iY:=gD (fC Tryz.f119 [1,1,1,0,1,0,0],mI Tryz.f119 [(0,16)]) 42
def d43:(Code×Cx)×iY:=((fC Tryz.f120 [1,0,1,0,0],mI Tryz.f120 [(0,1)]),L43)
def d44:(Code×Cx)×iY:=((fC Tryz.f130 [1,1,1,1,1,1,0,1,0,0],mI Tryz.f130 [(0,1408)]),L44)
def d45:(Code×Cx)×iY:=((fC Tryz.f141 [1,1,1,0,0],mI Tryz.f141 [(0,16)]),L45)
def d46:(Code×Cx)×iY:=((fC Tryz.f142 [1,1,0,1,0,0],mI Tryz.f142 [(0,32)]),L46)
def d47:(Code×Cx)×iY:=((fC Tryz.f143 [1,0,1,0,0],mI Tryz.f143 [(0,0)]),L47)
def d48:(Code×Cx)×iY:=((fC Tryz.f158 [1,1,0,1,0,0],mI Tryz.f158 [(0,0)]),L48)
def Ot (f:Nat):Option (Func×iY):=(tN f 101 (tN f 57 (tN f 32 (tN f 20 (tN f 11 (tN f 7 (tL f 6 (Tryz.f6,(gB Tryz.f6))) (tN f 9 (tL f 7 (Tryz.f7,(XI Tryz.f7 s7))) (tL f 9 (Tryz.f9,(Pj Tryz.f9 2))))) (tN f 15 (tL f 11 (Tryz.f11,(XI Tryz.f11 XL))) (tN f 19 (tL f 15 (Tryz.f15,(XI Tryz.f15 Xg))) (tL f 19 (Tryz.f19,(gB Tryz.f19)))))) (tN f 23 (tN f 21 (tL f 20 (Tryz.f20,(gB Tryz.f20))) (tN f 22 (tL f 21 (Tryz.f21,B21)) (tL f 22 (Tryz.f22,(gB Tryz.f22))))) (tN f 29 (tN f 24 (tL f 23 (Tryz.f23,(Pj Tryz.f23 10))) (tL f 24 (Tryz.f24,(Pj Tryz.f24 11)))) (tN f 30 (tL f 29 (Tryz.f29,(Pj Tryz.f29 12))) (tL f 30 (Tryz.f30,(Pj Tryz.f30 13))))))) (tN f 45 (tN f 35 (tN f 33 (tL f 32 (Tryz.f32,(gB Tryz.f32))) (tN f 34 (tL f 33 (Tryz.f33,B33)) (tL f 34 (Tryz.f34,B34)))) (tN f 36 (tL f 35 (Tryz.f35,(gB Tryz.f35))) (tN f 37 (tL f 36 (Tryz.f36,B36)) (tL f 37 (Tryz.f37,(Pj Tryz.f37 14)))))) (tN f 50 (tN f 48 (tL f 45 (Tryz.f45,B45)) (tN f 49 (tL f 48 (Tryz.f48,(gB Tryz.f48))) (tL f 49 (Tryz.f49,(gB Tryz.f49))))) (tN f 55 (tN f 51 (tL f 50 (Tryz.f50,(XI Tryz.f50 XM))) (tL f 51 (Tryz.f51,B51))) (tN f 56 (tL f 55 (Tryz.f55,(Pj Tryz.f55 21))) (tL f 56 (Tryz.f56,B56))))))) (tN f 75 (tN f 65 (tN f 60 (tN f 58 (tL f 57 (Tryz.f57,B57)) (tN f 59 (tL f 58 (Tryz.f58,B58)) (tL f 59 (Tryz.f59,B59)))) (tN f 61 (tL f 60 (Tryz.f60,B60)) (tN f 64 (tL f 61 (Tryz.f61,B61)) (tL f 64 (Tryz.f64,B64))))) (tN f 70 (tN f 66 (tL f 65 (Tryz.f65,B65)) (tN f 67 (tL f 66 (Tryz.f66,B66)) (tL f 67 (Tryz.f67,B67)))) (tN f 73 (tN f 72 (tL f 70 (Tryz.f70,B70)) (tL f 72 (Tryz.f72,(gB Tryz.f72)))) (tN f 74 (tL f 73 (Tryz.f73,B73)) (tL f 74 (Tryz.f74,(gB Tryz.f74))))))) (tN f 89 (tN f 85 (tN f 76 (tL f 75 (Tryz.f75,(Pj Tryz.f75 28))) (tN f 77 (tL f 76 (Tryz.f76,(Pj Tryz.f76 29))) (tL f 77 (Tryz.f77,(Pj Tryz.f77 30))))) (tN f 87 (tL f 85 (Tryz.f85,B85)) (tN f 88 (tL f 87 (Tryz.f87,B87)) (tL f 88 (Tryz.f88,B88))))) (tN f 95 (tN f 90 (tL f 89 (Tryz.f89,B89)) (tN f 91 (tL f 90 (Tryz.f90,B90)) (tL f 91 (Tryz.f91,B91)))) (tN f 99 (tN f 96 (tL f 95 (Tryz.f95,B95)) (tL f 96 (Tryz.f96,(gB Tryz.f96)))) (tN f 100 (tL f 99 (Tryz.f99,(gB Tryz.f99))) (tL f 100 (Tryz.f100,(Pj Tryz.f100 36))))))))) (tN f 139 (tN f 119 (tN f 107 (tN f 104 (tN f 102 (tL f 101 (Tryz.f101,XQ)) (tN f 103 (tL f 102 (Tryz.f102,(gB Tryz.f102))) (tL f 103 (Tryz.f103,(Pj Tryz.f103 38))))) (tN f 105 (tL f 104 (Tryz.f104,XR)) (tN f 106 (tL f 105 (Tryz.f105,(gB Tryz.f105))) (tL f 106 (Tryz.f106,XS))))) (tN f 115 (tN f 108 (tL f 107 (Tryz.f107,(gB Tryz.f107))) (tN f 109 (tL f 108 (Tryz.f108,XT)) (tL f 109 (Tryz.f109,XU)))) (tN f 117 (tN f 116 (tL f 115 (Tryz.f115,XW)) (tL f 116 (Tryz.f116,XX))) (tN f 118 (tL f 117 (Tryz.f117,XY)) (tL f 118 (Tryz.f118,XZ)))))) (tN f 125 (tN f 122 (tN f 120 (tL f 119 (Tryz.f119,(Pj Tryz.f119 42))) (tN f 121 (tL f 120 (Tryz.f120,X_)) (tL f 121 (Tryz.f121,Ya)))) (tN f 123 (tL f 122 (Tryz.f122,Yb)) (tN f 124 (tL f 123 (Tryz.f123,(gB Tryz.f123))) (tL f 124 (Tryz.f124,Yc))))) (tN f 128 (tN f 126 (tL f 125 (Tryz.f125,(gB Tryz.f125))) (tN f 127 (tL f 126 (Tryz.f126,(gB Tryz.f126))) (tL f 127 (Tryz.f127,(gB Tryz.f127))))) (tN f 130 (tN f 129 (tL f 128 (Tryz.f128,(gB Tryz.f128))) (tL f 129 (Tryz.f129,(gB Tryz.f129)))) (tN f 138 (tL f 130 (Tryz.f130,Yd)) (tL f 138 (Tryz.f138,Ye))))))) (tN f 153 (tN f 145 (tN f 142 (tN f 140 (tL f 139 (Tryz.f139,Yf)) (tN f 141 (tL f 140 (Tryz.f140,(gB Tryz.f140))) (tL f 141 (Tryz.f141,Yg)))) (tN f 143 (tL f 142 (Tryz.f142,Yh)) (tN f 144 (tL f 143 (Tryz.f143,Yi)) (tL f 144 (Tryz.f144,(gB Tryz.f144)))))) (tN f 149 (tN f 146 (tL f 145 (Tryz.f145,(gB Tryz.f145))) (tN f 148 (tL f 146 (Tryz.f146,(gB Tryz.f146))) (tL f 148 (Tryz.f148,Yj)))) (tN f 151 (tN f 150 (tL f 149 (Tryz.f149,Yk)) (tL f 150 (Tryz.f150,(gB Tryz.f150)))) (tN f 152 (tL f 151 (Tryz.f151,(gB Tryz.f151))) (tL f 152 (Tryz.f152,Yl)))))) (tN f 160 (tN f 157 (tN f 154 (tL f 153 (Tryz.f153,(gB Tryz.f153))) (tN f 155 (tL f 154 (Tryz.f154,Ym)) (tL f 155 (Tryz.f155,Yn)))) (tN f 158 (tL f 157 (Tryz.f157,(gB Tryz.f157))) (tN f 159 (tL f 158 (Tryz.f158,Yo)) (tL f 159 (Tryz.f159,(gB Tryz.f159)))))) (tN f 163 (tN f 161 (tL f 160 (Tryz.f160,(gB Tryz.f160))) (tN f 162 (tL f 161 (Tryz.f161,Yp)) (tL f 162 (Tryz.f162,Yq)))) (tN f 165 (tN f 164 (tL f 163 (Tryz.f163,Yr)) (tL f 164 (Tryz.f164,(gB Tryz.f164)))) (tN f 166 (tL f 165 (Tryz.f165,(gB Tryz.f165))) (tL f 166 (Tryz.f166,Ys)))))))))
def Uk (f:Nat):Option ((Code×Cx)×iY):=(tN f 24 (tN f 12 (tN f 6 (tN f 3 (tN f 1 (tL f 0 d0) (tN f 2 (tL f 1 d1) (tL f 2 d2))) (tN f 4 (tL f 3 d3) (tN f 5 (tL f 4 d4) (tL f 5 d5)))) (tN f 9 (tN f 7 (tL f 6 d6) (tN f 8 (tL f 7 d7) (tL f 8 d8))) (tN f 10 (tL f 9 d9) (tN f 11 (tL f 10 d10) (tL f 11 d11))))) (tN f 18 (tN f 15 (tN f 13 (tL f 12 d12) (tN f 14 (tL f 13 d13) (tL f 14 d14))) (tN f 16 (tL f 15 d15) (tN f 17 (tL f 16 d16) (tL f 17 d17)))) (tN f 21 (tN f 19 (tL f 18 d18) (tN f 20 (tL f 19 d19) (tL f 20 d20))) (tN f 22 (tL f 21 d21) (tN f 23 (tL f 22 d22) (tL f 23 d23)))))) (tN f 36 (tN f 30 (tN f 27 (tN f 25 (tL f 24 d24) (tN f 26 (tL f 25 d25) (tL f 26 d26))) (tN f 28 (tL f 27 d27) (tN f 29 (tL f 28 d28) (tL f 29 d29)))) (tN f 33 (tN f 31 (tL f 30 d30) (tN f 32 (tL f 31 d31) (tL f 32 d32))) (tN f 34 (tL f 33 d33) (tN f 35 (tL f 34 d34) (tL f 35 d35))))) (tN f 42 (tN f 39 (tN f 37 (tL f 36 d36) (tN f 38 (tL f 37 d37) (tL f 38 d38))) (tN f 40 (tL f 39 d39) (tN f 41 (tL f 40 d40) (tL f 41 d41)))) (tN f 45 (tN f 43 (tL f 42 d42) (tN f 44 (tL f 43 d43) (tL f 44 d44))) (tN f 47 (tN f 46 (tL f 45 d45) (tL f 46 d46)) (tN f 48 (tL f 47 d47) (tL f 48 d48)))))))
def Nq:HA:=⟨Ot,Uk⟩
def FO (f:Nat) (e:Func×iY):Prop:=(∀(c:CH) (lp:LH) us H,e.2 c (Nq.loop lp) us H=Pg zG c lp e.1 us H)∧Tryz.prog.funcs[f]? = some e.1∧bO Tryz.prog f∧VD y e.1=true
def LO (e:(Code×Cx)×iY):Prop:=∀(c:CH) (lp:LH) us H,e.2 c (Nq.loop lp) us H=Wn zG c lp e.1.1 e.1.2 us H
theorem rF {f n:Nat} {x e:Func×iY} (h2:Tryz.prog.funcs[n]? = some x.1) (h3:bO Tryz.prog n) (h1:∀(c:CH) (lp:LH) us H,x.2 c (Nq.loop lp) us H=Pg zG c lp x.1 us H:=by intro _ _ _ _;kernel_rfl) (h4:VD y x.1=true:=by kernel_rfl):tL f n x=some e->FO f e:=rL (show FO n x from⟨h1,h2,h3,h4⟩)
theorem AU {f n:Nat} {x e:(Code×Cx)×iY} (h:LO x:=by intro _ _ _ _;kernel_rfl):tL f n x=some e->LO e:=rL (R:=fun _=>LO) h
theorem Jt {f:Nat} {e:Func×iY}:Ot f=some e->FO f e:=(rN (rN (rN (rN (rN (rN (rF Tryz.func6 Tryz.call6) (rN (rF Tryz.func7 Tryz.call7) (rF Tryz.func9 Tryz.call9))) (rN (rF Tryz.func11 Tryz.call11) (rN (rF Tryz.func15 Tryz.call15) (rF Tryz.func19 Tryz.call19)))) (rN (rN (rF Tryz.func20 Tryz.call20) (rN (rF Tryz.func21 Tryz.call21) (rF Tryz.func22 Tryz.call22))) (rN (rN (rF Tryz.func23 Tryz.call23) (rF Tryz.func24 Tryz.call24)) (rN (rF Tryz.func29 Tryz.call29) (rF Tryz.func30 Tryz.call30))))) (rN (rN (rN (rF Tryz.func32 Tryz.call32) (rN (rF Tryz.func33 Tryz.call33) (rF Tryz.func34 Tryz.call34))) (rN (rF Tryz.func35 Tryz.call35) (rN (rF Tryz.func36 Tryz.call36) (rF Tryz.func37 Tryz.call37)))) (rN (rN (rF Tryz.func45 Tryz.call45) (rN (rF Tryz.func48 Tryz.call48) (rF Tryz.func49 Tryz.call49))) (rN (rN (rF Tryz.func50 Tryz.call50) (rF Tryz.func51 Tryz.call51)) (rN (rF Tryz.func55 Tryz.call55) (rF Tryz.func56 Tryz.call56)))))) (rN (rN (rN (rN (rF Tryz.func57 Tryz.call57) (rN (rF Tryz.func58 Tryz.call58) (rF Tryz.func59 Tryz.call59))) (rN (rF Tryz.func60 Tryz.call60) (rN (rF Tryz.func61 Tryz.call61) (rF Tryz.func64 Tryz.call64)))) (rN (rN (rF Tryz.func65 Tryz.call65) (rN (rF Tryz.func66 Tryz.call66) (rF Tryz.func67 Tryz.call67))) (rN (rN (rF Tryz.func70 Tryz.call70) (rF Tryz.func72 Tryz.call72)) (rN (rF Tryz.func73 Tryz.call73) (rF Tryz.func74 Tryz.call74))))) (rN (rN (rN (rF Tryz.func75 Tryz.call75) (rN (rF Tryz.func76 Tryz.call76) (rF Tryz.func77 Tryz.call77))) (rN (rF Tryz.func85 Tryz.call85) (rN (rF Tryz.func87 Tryz.call87) (rF Tryz.func88 Tryz.call88)))) (rN (rN (rF Tryz.func89 Tryz.call89) (rN (rF Tryz.func90 Tryz.call90) (rF Tryz.func91 Tryz.call91))) (rN (rN (rF Tryz.func95 Tryz.call95) (rF Tryz.func96 Tryz.call96)) (rN (rF Tryz.func99 Tryz.call99) (rF Tryz.func100 Tryz.call100))))))) (rN (rN (rN (rN (rN (rF Tryz.func101 Tryz.call101) (rN (rF Tryz.func102 Tryz.call102) (rF Tryz.func103 Tryz.call103))) (rN (rF Tryz.func104 Tryz.call104) (rN (rF Tryz.func105 Tryz.call105) (rF Tryz.func106 Tryz.call106)))) (rN (rN (rF Tryz.func107 Tryz.call107) (rN (rF Tryz.func108 Tryz.call108) (rF Tryz.func109 Tryz.call109))) (rN (rN (rF Tryz.func115 Tryz.call115) (rF Tryz.func116 Tryz.call116)) (rN (rF Tryz.func117 Tryz.call117) (rF Tryz.func118 Tryz.call118))))) (rN (rN (rN (rF Tryz.func119 Tryz.call119) (rN (rF Tryz.func120 Tryz.call120) (rF Tryz.func121 Tryz.call121))) (rN (rF Tryz.func122 Tryz.call122) (rN (rF Tryz.func123 Tryz.call123) (rF Tryz.func124 Tryz.call124)))) (rN (rN (rF Tryz.func125 Tryz.call125) (rN (rF Tryz.func126 Tryz.call126) (rF Tryz.func127 Tryz.call127))) (rN (rN (rF Tryz.func128 Tryz.call128) (rF Tryz.func129 Tryz.call129)) (rN (rF Tryz.func130 Tryz.call130) (rF Tryz.func138 Tryz.call138)))))) (rN (rN (rN (rN (rF Tryz.func139 Tryz.call139) (rN (rF Tryz.func140 Tryz.call140) (rF Tryz.func141 Tryz.call141))) (rN (rF Tryz.func142 Tryz.call142) (rN (rF Tryz.func143 Tryz.call143) (rF Tryz.func144 Tryz.call144)))) (rN (rN (rF Tryz.func145 Tryz.call145) (rN (rF Tryz.func146 Tryz.call146) (rF Tryz.func148 Tryz.call148))) (rN (rN (rF Tryz.func149 Tryz.call149) (rF Tryz.func150 Tryz.call150)) (rN (rF Tryz.func151 Tryz.call151) (rF Tryz.func152 Tryz.call152))))) (rN (rN (rN (rF Tryz.func153 Tryz.call153) (rN (rF Tryz.func154 Tryz.call154) (rF Tryz.func155 Tryz.call155))) (rN (rF Tryz.func157 Tryz.call157) (rN (rF Tryz.func158 Tryz.call158) (rF Tryz.func159 Tryz.call159)))) (rN (rN (rF Tryz.func160 Tryz.call160) (rN (rF Tryz.func161 Tryz.call161) (rF Tryz.func162 Tryz.call162))) (rN (rN (rF Tryz.func163 Tryz.call163) (rF Tryz.func164 Tryz.call164)) (rN (rF Tryz.func165 Tryz.call165) (rF Tryz.func166 Tryz.call166))))))))
theorem RI {f:Nat} {e:(Code×Cx)×iY}:Uk f=some e->LO e:=(rN (rN (rN (rN (rN AU (rN AU AU)) (rN AU (rN AU AU))) (rN (rN AU (rN AU AU)) (rN AU (rN AU AU)))) (rN (rN (rN AU (rN AU AU)) (rN AU (rN AU AU))) (rN (rN AU (rN AU AU)) (rN AU (rN AU AU))))) (rN (rN (rN (rN AU (rN AU AU)) (rN AU (rN AU AU))) (rN (rN AU (rN AU AU)) (rN AU (rN AU AU)))) (rN (rN (rN AU (rN AU AU)) (rN AU (rN AU AU))) (rN (rN AU (rN AU AU)) (rN (rN AU AU) (rN AU AU))))))
theorem TI:ME Nq zG:=⟨fun h=>(Jt h).1,RI⟩
theorem RH {f:Nat} {e:Func×iY} (h:Ot f=some e):Tryz.prog.funcs[f]? = some e.1∧bO Tryz.prog f∧VD y e.1=true:=(Jt h).2
end
end Go.Gx
end
section
namespace Go.Gx
open Go Go.Sx
section
section
variable {P:Program} {gs:BQ} {w0:iQ gs} {tb:TB}
theorem Lo:sU P w0 (fun _ _ _=>none):=fun f us H g H' h=>by cases h
theorem GX:Ge P w0 tb (fun _ _ _ _=>none):=fun b cx vs H out h=>by cases h
theorem Tk {ch:CH} {lp:LH} (hT:fZ P tb) (hm:P.follows .mixedOrders=true) (hcall:∀w0:iQ gs,sU P w0 ch) (hloop:Ge P w0 tb lp) {f:Nat} {fn:Func} {us:List GV} {H:GH} {out:Lc} (h1:P.funcs[f]? = some fn) (hok:VD tb fn=true) (h:Pg tb ch lp fn us H=some out) (he:out.e = .ret) {ρ:gH} {w:World} {vs:List Value} (R:jG w0 ρ H w) (hr:xQ ρ us vs):
  Calls P f vs.toArray w fun e w'=>∃v ρ',e = .returned v∧ρ.le ρ'∧jG w0 ρ' out.H w'∧Rl ρ' (Pz out.vs) v:=by
 obtain⟨h3,h4⟩:=LC hok
 obtain⟨body,hb,h⟩:=aN.1 (show ob fn.body _=some out from h)
 obtain⟨σ,hσ,h⟩:=q_ h
 rw[List.range_eq_range']at hσ
 have hlen:=HF hσ
 have hvl:vs.length<=fn.ntmps:=by rw[<-hr.len,hlen];exact h4
 refine AP h1 hb ?_
 have F:kU ρ fn.ntmps σ {tmps:=vs.toArray++Array.replicate (fn.ntmps - vs.toArray.size) undef,defers:=[]}:=by
  refine JQ rfl (by simp;omega) hr (fun j v hv=> ?_) hσ
  have hlt:=bN hv
  rw[Nat.zero_add,Array.getElem?_append_left (by simpa using hlt)]
  simpa using hv
 refine Cy hT hm hcall hloop body _ _ _ ⟨σ,H⟩ out ρ _ w _ (h3 body hb) h F R ⟨fun s' ρ' a' w' hk hle' F' R'=> ?_,fun id s' ρ' a' w' hk hle' F' R'=> ?_,fun s' ρ' a' w' hk hle' F' R'=> ?_⟩
 ·obtain⟨e1,v,hv,hres⟩:=FL (fn:=fn) hT rfl F' R' hk
  exact Sx.body_end (.inr rfl) F'.defers hres ⟨v,ρ',rfl,hle',by rw[e1];exact R',hv⟩
 ·have:=AZ hk
  rw[he]at this;cases this
 ·obtain⟨e1,v,hv,hres⟩:=FL (fn:=fn) hT rfl F' R' hk
  exact Sx.body_end (.inl rfl) F'.defers hres ⟨v,ρ',rfl,hle',by rw[e1];exact R',hv⟩
noncomputable def Je (tb:TB) (f:Nat) (fn:Func):CH:=fun g us H=>bif Nat.beq g f then Jr (Pg tb (fun _ _ _=>none) (fun _ _ _ _=>none) fn us H)else none
theorem QP (hT:fZ P tb) (hm:P.follows .mixedOrders=true) {f:Nat} {fn:Func} (h1:P.funcs[f]? = some fn) (hb:bO P f) (hok:VD tb fn=true):sU P w0 (Je tb f fn):=fun g us H x H' h ρ w vs R hr=>by
 unfold Je at h
 cases h2:Nat.beq g f with
 |false=>rw[h2]at h;cases h
 |true=>
 rw[h2]at h
 have h2:=Nat.eq_of_beq_eq_true h2
 subst h2
 replace h:Jr (Pg tb (fun _ _ _=>none) (fun _ _ _ _=>none) fn us H)=some (x,H'):=h
 unfold Jr at h
 obtain⟨o,h3,h4⟩:=aN.1 h
 cases he:o.e with
 |normal=>rw[he]at h4;cases h4
 |exit id=>rw[he]at h4;cases h4
 |ret=>
  rw[he]at h4;cases h4
  exact .inr ⟨hb _ w,Tk hT hm (fun _=>Lo) GX h1 hok h3 he R hr⟩
theorem PP {id:Nat} {o:Oper} {l:List Oper} {Q:Exit->Act->List Frame->World->Prop} {a:Act} {cs:List Frame} {w:World} (hnd:l.all iS=true) (hg:o.guard=none) (hrun:(execOp a.eval o).run P w = .ok .recover w)
  (hrec:recoverD cs=none) (h:Sx.wpList P (o::l).toArray (fun e a' w'=>Q e a' cs w') l (a.put o.dst .nilIface) w):(Code.region id (o::l).toArray false).wpSIn (FR none) 0 P Q a cs w:=by
 intro b k hb hro hF hroom
 have ho:(o::l).toArray[0]? = some o:=by simp
 obtain⟨e,a',w',hq,harr⟩:=wp_opsIn (F:=FR none) (n:=0) (Q:=fun e a' w'=>Q e a' cs w') (ops:=(o::l).toArray) (List.range' 1 l.length) (a.put o.dst .nilIface) w
  (by rw[wpOpsIn_eq_wpListIn l 1 (by intro j;simp[Nat.add_comm 1 j])];exact Sx.wpList_in l _ w hnd h) b k cs hro hF hroom
 have hw:Region.wanted o (yielded (o::l).toArray a.tmps)=true:=by simp[Region.wanted,hg]
 have h0:(lone (b.atR a (.inRegion (o::l).toArray (0::List.range' 1 l.length)::k)) cs w).fenced P (FR none):=fenced_oper hF hroom ho (fun _ _=>trivial)
 have hg':=stepGR_op (P:=P) (b:=b) (k:=k) (cs:=cs) (w:=w) (rest:=List.range' 1 l.length) ho hw
 rw[hro,Oper.semAt_none]at hg'
 have hfin:∀v,(b.atR a (.inRegion (o::l).toArray (0::List.range' 1 l.length)::k)).finish v=b.atR (a.put o.dst v) (.inRegion (o::l).toArray (List.range' 1 l.length)::k):=by
  intro v;rw[Frame.finish_atR,ho];rfl
 have hk:(b.atR a (.inRegion (o::l).toArray (0::List.range' 1 l.length)::k)).kind = .deferred:=hb
 have htr:=tryRecover_deferred hk cs
 have hr:List.range (o::l).toArray.size=0::List.range' 1 l.length:=by simp[List.range_eq_range',List.range'_succ]
 have hs:=stepR_region (P:=P) (b:=b) (a:=a) (k:=k) (cs:=cs) (w:=w) (id:=id) (ops:=(o::l).toArray)
 rw[hr]at hs
 refine⟨e,a',cs,w',rfl,hq,.of_steps (.head (fenced_calm hF hroom rfl) hs (.one h0 (step_lone_go ?_))) harr⟩
 rw[hg',<-hfin]
 simp only[Frame.atR,hro]at htr ⊢
 simp[stepG.apply,hrun,htr,hrec]
theorem OY {ch:CH} {lp:LH} (hT:fZ P tb) (hm:P.follows .mixedOrders=true) {f:Nat} {fn:Func} {id m d:Nat} {o:Oper} {l:List Oper} {rest:Code} {cx:Cx} {out:Lc} {args:Array Value} {w:World}
  (hcall:∀w0:iQ WQ,sU P w0 ch) (hloop:Ge P (iQ.one w) tb lp) (hf:P.funcs[f]? = some fn) (hb:fn.body=some (.seq (.region id (o::l).toArray false) rest)) (hg:o.guard=none) (hd:o.dst=some d) (hdn:d<fn.ntmps)
  (hrun:∀ρ w,(execOp ρ o).run P w = .ok .recover w) (hl:l.all (Gs fn.ntmps)=true) (hr:Gb tb fn.ntmps rest=true) (hres:fn.results = #[]) (hsz:args.size<=fn.ntmps)
  (h:Ev tb ch (o::l) (Tj tb ch lp rest m cx (FK [])) l ⟨[(d,.inil)],H0⟩=some out) (he:out.e = .normal):
  CallsDIn (FR none) 0 P f args .returning w fun e u' w'=>∃v,e = .returned v∧u' = .returning∧Ml w w':=by
 have hnd:l.all iS=true:=List.all_eq_true.2 fun o hmo=>(uO (List.all_eq_true.1 hl o hmo)).1
 refine callsDIn_of_wpSIn hf hb trivial fun c₀ cs hu=> ?_
 have hrec:recoverD (c₀::cs)=none:=by simp[recoverD,hu]
 refine wpSIn_seq (PP hnd hg (hrun _ _) hrec ?_)
 have F:kU (fun _=>none) fn.ntmps [(d,.inil)] (({tmps:=args++Array.replicate (fn.ntmps - args.size) undef,defers:=[]}:Act).put o.dst .nilIface):=by
  rw[hd]
  refine kU.put ⟨rfl,by simp;omega,fun t g hg=>(by cases hg)⟩ hdn ?_
  exact .inil
 refine Fw hT (hcall (iQ.one w)) l ⟨[(d,.inil)],H0⟩ _ _ w hl F (Jc (iQ.one w) rfl) h fun s' ρ' a' w' hk hle' F' R'=> ?_
 refine wpSIn_of_wpIn rfl ?_
 refine Cy hT hm hcall hloop rest _ _ _ s' out ρ' a' w' _ hr hk F' R' ⟨fun s2 ρ2 a2 w2 hk2 hle2 F2 R2=> ?_,fun id s2 ρ2 a2 w2 hk2 hle2 F2 R2=> ?_,fun s2 ρ2 a2 w2 hk2 hle2 F2 R2=> ?_⟩
 ·refine⟨F2.defers,c₀.mode,rfl,.tuple #[],?_,_,rfl,hu,R2.ext.ext⟩
  simp[results,hres]
 ·have:=AZ hk2
  rw[he]at this;cases this
 ·have:=Kz hk2
  rw[he]at this;cases this
theorem Hx {o:Oper} {l:List Oper} {ops:Array Oper} {Q:Exit->Act->World->Prop} {a:Act} {w w':World} {v:Value} (hg:o.guard=none) (hr:(execOp a.eval o).run P w = .ok (.value v) w') (h:Sx.wpList P ops Q l (a.put o.dst v) w'):Sx.wpList P ops Q (o::l) a w:=by
 unfold Sx.wpList
 rw[if_pos (by simp[Region.wanted,hg])]
 exact .inl (by simp only[Oper.wp,hr,Oper.upon];exact h)
theorem Mh {o:Oper} {l:List Oper} {ops:Array Oper} {Q:Exit->Act->World->Prop} {a:Act} {w w':World} (hg:o.guard=none) (hr:(execOp a.eval o).run P w = .ok .skip w') (h:Sx.wpList P ops Q l (a.put o.dst undef) w'):Sx.wpList P ops Q (o::l) a w:=by
 unfold Sx.wpList
 rw[if_pos (by simp[Region.wanted,hg])]
 exact .inl (by simp only[Oper.wp,hr,Oper.upon];exact h)
theorem PQ {o:Oper} {l:List Oper} {ops:Array Oper} {Q:Exit->Act->World->Prop} {a:Act} {w:World} {f:Nat} {args:Array Value} {S:Value->World->Prop} (hg:o.guard=none) (hr:(execOp a.eval o).run P w = .ok (.enter f args) w)
  (hc:Calls P f args w fun e w'=>∃v,e = .returned v∧S v w') (h:∀v w',S v w'->Sx.wpList P ops Q l (a.put o.dst v) w'):Sx.wpList P ops Q (o::l) a w:=by
 unfold Sx.wpList
 rw[if_pos (by simp[Region.wanted,hg])]
 refine .inl ?_
 simp only[Oper.wp,hr,Oper.upon]
 refine hc.mono ?_
 rintro e w' ⟨v,rfl,hs⟩
 exact h v w' hs
theorem Vj (hT:fZ P tb) {c cc T1 T2 i0 i1 i2 i3 y0 y1 y2 y3 y4 y5 y6 y7:Nat} {p0 p1 p2 p3 p4 p5 p6 p7:String} {e0 e1 e2 e3 e4 e5 e6 e7:Array Edge} {fn:Func} (hf:P.funcs[c]? = some fn) (hbd:bO P c) (hcc:bO P cc)
  (hb:fn.body=some (.seq (.region i0 #[⟨some 2,.alloc T1,y0,p0,e0,none⟩,⟨some 3,.alloc T2,y1,p1,e1,none⟩] false)
   (.seq (.region i1 #[⟨some 4,.makeFunc (.func cc) #[] #[.tmp 2,.tmp 3],y2,p2,e2,none⟩,⟨none,.defer ⟨.value (.tmp 4),#[],#[]⟩,y3,p3,e3,none⟩] false)
   (.seq (.region i2 #[⟨some 5,.move (.tmp 0),y4,p4,e4,none⟩,⟨some 6,.call ⟨.value (.tmp 5),#[],#[]⟩,y5,p5,e5,none⟩] false)
   (.seq (.region i3 #[⟨none,.store T1 (.tmp 2) (.const (.int .i64 0)),y6,p6,e6,none⟩,⟨none,.store T2 (.tmp 3) (.const (.int .i64 0)),y7,p7,e7,none⟩] false) .ret)))))
  (hn:fn.ntmps=7) (hres:fn.results = #[.cell 2 T1,.cell 3 T2])
  (hA1:∀H,sN tb T1 H=some (.ptr H.n 0,H.new (.cells [zF]))) (hA2:∀H,sN tb T2 H=some (.ptr H.n 0,H.new (.cells [zF])))
  (hS1:∀H h c,GH.cells H h=some [c]->uB tb T1 (.ptr h 0) zF H=some (.un,H.set h (.cells [zF]))) (hS2:∀H h c,GH.cells H h=some [c]->uB tb T2 (.ptr h 0) zF H=some (.un,H.set h (.cells [zF])))
  (hL1:∀H h,GH.cells H h=some [zF]->xO tb T1 (.ptr h 0) H=some zF) (hL2:∀H h,GH.cells H h=some [zF]->xO tb T2 (.ptr h 0) H=some zF)
  (hdef:∀args w,args.size=2->CallsDIn (FR none) 0 P cc args .returning w fun e u' w'=>∃v,e = .returned v∧u' = .returning∧Ml w w')
  {ρ:gH} {g:Nat} {us cs:List Value} {w:World} {H H':GH} {c1 c2:GV} (R:jG w0 ρ H w) (hc:∀ρ' w',ρ.le ρ'->jG w0 ρ' ((H.new (.cells [zF])).new (.cells [zF])) w'->∃x,wB P w0 ρ' g (us++cs) w' x H') (h1:H'.cells H.n=some [c1]) (h2:H'.cells (H.n+1)=some [c2]):
  wB P w0 ρ c [.func (.func g) us.toArray cs.toArray] w (.tup [zF,zF]) ((((H'.set H.n (.cells [zF])).set (H.n+1) (.cells [zF])).del H.n).del (H.n+1)):=by
 refine .inr ⟨hbd _ w,?_⟩
 refine Lp (r:=none) (n:=0) (callsIn_of_wp_defers hf hb trivial ?_)
 rw[hn]
 obtain⟨v1,w1,ρ1,hr1,hle1,R1,hv1⟩:=GC (P:=P) hT R (hA1 H)
 obtain⟨v2,w2,ρ2,hr2,hle2,R2,hv2⟩:=GC (P:=P) hT R1 (hA2 _)
 obtain⟨x,hx⟩:=hc ρ2 w2 (gH.le_trans hle1 hle2) R2
 refine wpIn_seq (uC rfl ?_)
 refine Hx rfl (v:=v1) (w':=w1) (by simp[execOp,hr1]) ?_
 refine Hx rfl (v:=v2) (w':=w2) (by simp[execOp,hr2]) ?_
 show Code.wpIn (FR none) 0 P _ _ (⟨#[.func (.func g) us.toArray cs.toArray,undef,v1,v2,undef,undef,undef],[]⟩:Act) w2
 refine wpIn_seq (wpIn_region_lit ?_)
 refine wpListIn_plain rfl fun K hK=>⟨fun _ _=>trivial,?_⟩
 have hm:(Oper.semAt (FR none).round (⟨#[.func (.func g) us.toArray cs.toArray,undef,v1,v2,undef,undef,undef],[]⟩:Act).eval ⟨some 4,.makeFunc (.func cc) #[] #[.tmp 2,.tmp 3],y2,p2,e2,none⟩).run P w2 = .ok (.value (.func (.func cc) #[] #[v1,v2])) w2:=by
  rw[show(FR none).round=none from rfl,Oper.semAt_none]
  simp[execOp,Instr.makeFunc,Act.eval]
 rw[hm]
 refine hK _ _ ?_
 show wpListIn _ _ _ _ _ _ (⟨#[.func (.func g) us.toArray cs.toArray,undef,v1,v2,.func (.func cc) #[] #[v1,v2],undef,undef],[]⟩:Act) w2
 refine wpListIn_plain rfl fun K hK=>⟨fun _ _=>trivial,?_⟩
 have hm:(Oper.semAt (FR none).round (⟨#[.func (.func g) us.toArray cs.toArray,undef,v1,v2,.func (.func cc) #[] #[v1,v2],undef,undef],[]⟩:Act).eval ⟨none,.defer ⟨.value (.tmp 4),#[],#[]⟩,y3,p3,e3,none⟩).run P w2 = .ok (.defer ⟨.fn (.func cc) #[v1,v2],#[]⟩) w2:=by
  rw[show(FR none).round=none from rfl,Oper.semAt_none]
  simp[execOp,resolve,Act.eval,Deferred.ofValue]
 rw[hm]
 refine hK _ _ ?_
 show Code.wpIn (FR none) 0 P _ _ (⟨#[.func (.func g) us.toArray cs.toArray,undef,v1,v2,.func (.func cc) #[] #[v1,v2],undef,undef],[⟨.fn (.func cc) #[v1,v2],#[]⟩]⟩:Act) w2
 refine wpIn_seq (uC rfl ?_)
 refine Hx rfl (v:= .func (.func g) us.toArray cs.toArray) (w':=w2) (by simp[execOp,Act.eval]) ?_
 show Sx.wpList _ _ _ _ (⟨#[.func (.func g) us.toArray cs.toArray,undef,v1,v2,.func (.func cc) #[] #[v1,v2],.func (.func g) us.toArray cs.toArray,undef],[⟨.fn (.func cc) #[v1,v2],#[]⟩]⟩:Act) w2
 have go:∀v w3 ρ3,ρ2.le ρ3->jG w0 ρ3 H' w3->Code.wpIn (FR none) 0 P (.seq (.region i3 #[⟨none,.store T1 (.tmp 2) (.const (.int .i64 0)),y6,p6,e6,none⟩,⟨none,.store T2 (.tmp 3) (.const (.int .i64 0)),y7,p7,e7,none⟩] false) .ret) (bodyPostDIn (FR none) 0 P fn fun e w'=>∃v ρ',e = .returned v∧ρ.le ρ'∧jG w0 ρ' ((((H'.set H.n (.cells [zF])).set (H.n+1) (.cells [zF])).del H.n).del (H.n+1)) w'∧Rl ρ' (.tup [zF,zF]) v) (⟨#[.func (.func g) us.toArray cs.toArray,undef,v1,v2,.func (.func cc) #[] #[v1,v2],.func (.func g) us.toArray cs.toArray,v],[⟨.fn (.func cc) #[v1,v2],#[]⟩]⟩:Act) w3:=by
  intro v w3 ρ3 hle3 R3
  have hz:∀ρ,Rl ρ zF (.int .i64 0):=fun ρ=> .int _ _
  obtain⟨_,w4,ρ4,hr4,hle4,R4⟩:=GD (P:=P) (T:=T1) hT R3 ((hv1.le hle2).le hle3) (hz _) (hS1 _ _ _ h1)
  have h2':(H'.set H.n (.cells [zF])).cells (H.n+1)=some [c2]:=by
   rw[iZ]at h2 ⊢
   rw[sW,if_neg (by omega)];exact h2
  obtain⟨_,w5,ρ5,hr5,hle5,R5⟩:=GD (P:=P) (T:=T2) hT R4 ((hv2.le hle3).le hle4) (hz _) (hS2 _ _ _ h2')
  refine wpIn_seq (uC rfl ?_)
  refine Mh rfl (w':=w4) (by simp[execOp,Act.eval,hr4]) ?_
  refine Mh rfl (w':=w5) (by simp[execOp,Act.eval,Act.put,hr5]) ?_
  refine wpIn_ret ?_
  show LeavesIn (FR none) 0 P fn #[.func (.func g) us.toArray cs.toArray,undef,v1,v2,.func (.func cc) #[] #[v1,v2],.func (.func g) us.toArray cs.toArray,v] _ [⟨.fn (.func cc) #[v1,v2],#[]⟩] .returning w5
  refine leavesIn_cons (f:=cc) (args:= #[v1,v2]) (by simp) (by simp[FR,Fence.wide]) (by simp[invoke,hcc _ w5]) (fun _ _=>trivial) ?_
  refine(hdef #[v1,v2] w5 rfl).mono ?_
  rintro e u' w6 ⟨x6,rfl,rfl,hext⟩
  have R6:=R5.ext' hext
  have F:kU ρ5 7 [(2,.ptr H.n 0),(3,.ptr (H.n+1) 0)] (⟨#[.func (.func g) us.toArray cs.toArray,undef,v1,v2,.func (.func cc) #[] #[v1,v2],.func (.func g) us.toArray cs.toArray,v],[]⟩:Act):=by
   refine⟨rfl,rfl,fun t g hg=> ?_⟩
   rw[Bd]at hg
   by_cases h2:t=2
   ·rw[if_pos h2]at hg;cases hg;rw[h2]
    exact(((hv1.le hle2).le hle3).le hle4).le hle5
   ·rw[if_neg h2,Bd]at hg
    by_cases h3:t=3
    ·rw[if_pos h3]at hg;cases hg;rw[h3]
     exact((hv2.le hle3).le hle4).le hle5
    ·rw[if_neg h3]at hg;cases hg
  have hres':Np tb ⟨fn.results.toList,0,[]⟩ ⟨[(2,.ptr H.n 0),(3,.ptr (H.n+1) 0)],(H'.set H.n (.cells [zF])).set (H.n+1) (.cells [zF])⟩=some ⟨.ret,[zF,zF],(H'.set H.n (.cells [zF])).set (H.n+1) (.cells [zF])⟩:=by
   rw[hres]
   have q1:xO tb T1 (.ptr H.n 0) ((H'.set H.n (.cells [zF])).set (H.n+1) (.cells [zF]))=some zF:=hL1 _ _ (by rw[iZ,sW,if_neg (by omega),sW,if_pos rfl])
   have q2:xO tb T2 (.ptr (H.n+1) 0) ((H'.set H.n (.cells [zF])).set (H.n+1) (.cells [zF]))=some zF:=hL2 _ _ (by rw[iZ,sW,if_pos rfl])
   show ob (ob (xO tb T1 (.ptr H.n 0) _) fun v=>ob (ob (xO tb T2 (.ptr (H.n+1) 0) _) fun v=>ob (some []) fun vs=>some (v::vs)) fun vs=>some (v::vs)) _=_
   rw[q1,q2];rfl
  obtain⟨_,v6,hv6,hr6⟩:=FL (fn:=fn) (P:=P) hT rfl F R6 hres'
  exact⟨v6,hr6,v6,ρ5,rfl,gH.le_trans hle1 (gH.le_trans hle2 (gH.le_trans hle3 (gH.le_trans hle4 hle5))),(R6.del _).del _,hv6⟩
 rcases hx with⟨v,w3,ρ3,hr,hle3,R3,_⟩|⟨hr,hcalls⟩
 ·refine Hx rfl (v:=v) (w':=w3) (by simpa [execOp,resolve,Act.eval,Deferred.ofValue,invoke]using hr) ?_
  exact go v w3 ρ3 hle3 R3
 ·refine PQ rfl (f:=g) (args:=(us++cs).toArray) (S:=fun v w'=>∃ρ',ρ2.le ρ'∧jG w0 ρ' H' w') (by simpa [execOp,resolve,Act.eval,Deferred.ofValue,invoke]using hr) (hcalls.mono ?_) fun v w3 ⟨ρ3,hle3,R3⟩=>go v w3 ρ3 hle3 R3
  rintro e w' ⟨v,ρ',rfl,hle,R',_⟩
  exact⟨v,rfl,ρ',hle,R'⟩
end
end
section
noncomputable section
def MZ (n c:Nat) (len:Nat):Nat->Option Nat:=Nat.rec (motive:=fun _=>Nat->Option Nat) (fun _=>none) (fun _ ih i=>Bool.casesOn (motive:=fun _=>Option Nat) (Nat.beq (Nat.mod (Nat.shiftRight n (Nat.mul 8 i)) 256) c) (ih (Nat.succ i)) (some i)) len
def Yx (k:IntKind):Bool:=match k with
 | .u8=>true
 |_=>false
def Tn (fx:Nat) (f:Nat) (us:List GV):Option GV:=bif Nat.beq f fx then List.casesOn (motive:=fun _=>Option GV) us none (fun a r=>List.casesOn (motive:=fun _=>Option GV) r none fun c r=>List.casesOn (motive:=fun _=>Option GV) r (ob a.asStr fun s=>ob c.asI fun p=>ob (UB p.2) fun k=>
 bif Yx p.1 then(bif Nat.blt k 256 then Option.casesOn (motive:=fun _=>Option GV) (MZ s.1 k s.2 0) (some (.int .i64 (.negSucc 0))) (fun i=>some (.int .i64 (.ofNat i)))else none)else none) fun _ _=>none)else none
theorem NZ (x:List UInt8) (c:Nat) (hc:c<256):∀k i,i+k=x.length->(match MZ (mQ x) c k i with|none=>(-1:Int)|some j=>(j:Int))=(if Lib.indexByte (x.drop i) c.toUInt8 = -1 then -1 else Lib.indexByte (x.drop i) c.toUInt8+i)
 |0,i,h=>by
  rw[List.drop_of_length_le (by omega)]
  simp[MZ,Lib.indexByte]
 | k + 1, i, h => by
  have ih:=NZ x c hc k (i+1) (by omega)
  have hi:i<x.length:=by omega
  have e:MZ (mQ x) c (k+1) i=Bool.casesOn (motive:=fun _=>Option Nat) (Nat.beq (Nat.mod (Nat.shiftRight (mQ x) (Nat.mul 8 i)) 256) c) (MZ (mQ x) c k (i+1)) (some i):=rfl
  rw[e,NU x i hi,List.drop_eq_getElem_cons hi]
  have hcc:(x[i]).toNat=c↔x[i]=c.toUInt8:=by
   rw[<-UInt8.toNat_inj]
   have:c.toUInt8.toNat=c:=by simp[Nat.toUInt8];omega
   rw[this]
  unfold Lib.indexByte
  cases hb:Nat.beq (x[i]).toNat c with
  |true=>
   have:=hcc.1 (Nat.eq_of_beq_eq_true hb)
   simp[this]
  | false =>
   have hne:¬x[i]=c.toUInt8:=fun h'=>by
    have:=hcc.2 h'
    rw[this]at hb
    simp at hb
   have hge:=Lib.indexByte_ge (x.drop (i+1)) c.toUInt8
   simp only[beq_iff_eq,hne,if_false]
   rw[ih]
   by_cases h1:Lib.indexByte (x.drop (i+1)) c.toUInt8 = -1
   ·simp[h1]
   ·rw[if_neg h1,if_neg h1,if_neg (by omega)]
    push_cast;omega
section
variable {P:Program} {gs:BQ} {w0:iQ gs}
theorem To {fx:Nat} {fn:Func} (hf:P.funcs[fx]? = some fn) (hname:(fn.name == "runtime.NumGoroutine")=false) (hb:fn.body.isNone=true) (hn:Extern.findNext fn=none) (he:Extern.find fn=some Extern.BytealgIndexByte.indexByte)
  {f:Nat} {us:List GV} {g:GV} (h:Tn fx f us=some g) (ρ:gH) (w:World) (vs:List Value) (H:GH) (R:jG w0 ρ H w) (hr:xQ ρ us vs):wB P w0 ρ f vs w g H:=by
 unfold Tn at h
 replace h:=cN.1 h
 have h1:=Nat.eq_of_beq_eq_true h.1
 replace h:=h.2
 subst h1
 cases us with
 |nil=>cases h
 |cons a us=>
 cases us with
 |nil=>cases h
 |cons c us=>
 cases us with
 |cons _ _=>cases h
 |nil=>
 obtain⟨s,hs,h⟩:=aN.1 (show ob a.asStr _=some g from h)
 obtain⟨p,hp,h⟩:=aN.1 h
 obtain⟨k,hk,h⟩:=aN.1 h
 obtain⟨hu,h⟩:=cN.1 h
 obtain⟨hlt,h⟩:=cN.1 h
 obtain⟨v,vs,rfl,hv,hr⟩:=hr.of_cons
 obtain⟨v',vs,rfl,hv',hr⟩:=hr.of_cons
 rw[hr.of_nil]
 rw[sZ hs]at hv
 rw[nW hp]at hv'
 obtain⟨S,rfl,e1,e2⟩:=hv.str_inv
 have hv':=hv'.int_inv
 subst hv'
 have hpu:p.1 = .u8:=by cases hq:p.1<;>rw[hq]at hu<;>first|rfl|cases hu
 have hk':p.2=(k:Int):=EO hk
 have hlt:k<256:=by simpa using hlt
 refine .inl ⟨.int .i64 (Lib.indexByte S.data.toList p.2.toNat.toUInt8),w,ρ,?_,gH.le_refl _,R,?_⟩
 ·rw[run_callFunc_extern hf hname hb hn he,hpu,Lib.run_indexByteString]
  rfl
 ·have key:=NZ (cM S) k hlt s.2 0 (by omega)
  rw[e1]at h
  rw[List.drop_zero]at key
  have e3:Lib.indexByte S.data.toList p.2.toNat.toUInt8=(match MZ (mQ (cM S)) k s.2 0 with|none=>(-1:Int)|some j=>(j:Int)):=by
   rw[key,hk']
   have:cM S=S.data.toList:=rfl
   rw[this]
   simp only[Int.toNat_natCast]
   split
   ·assumption
   ·omega
  rw[e3]
  cases hx:MZ (mQ (cM S)) k s.2 0 with
  |none=>rw[hx]at h;cases h;exact .int _ _
  |some j=>rw[hx]at h;cases h;exact .int _ _
end
end
end
section
noncomputable section
section
variable {α R:Type}
def a0 (us:List α) (k:Option R):Option R:=List.casesOn (motive:=fun _=>Option R) us k (fun _ _=>none)
def a1 (us:List α) (k:α->Option R):Option R:=List.casesOn (motive:=fun _=>Option R) us none fun a r=>a0 r (k a)
def a2 (us:List α) (k:α->α->Option R):Option R:=List.casesOn (motive:=fun _=>Option R) us none fun a r=>a1 r (k a)
def a3 (us:List α) (k:α->α->α->Option R):Option R:=List.casesOn (motive:=fun _=>Option R) us none fun a r=>a2 r (k a)
def a4 (us:List α) (k:α->α->α->α->Option R):Option R:=List.casesOn (motive:=fun _=>Option R) us none fun a r=>a3 r (k a)
def a5 (us:List α) (k:α->α->α->α->α->Option R):Option R:=List.casesOn (motive:=fun _=>Option R) us none fun a r=>a4 r (k a)
def a6 (us:List α) (k:α->α->α->α->α->α->Option R):Option R:=List.casesOn (motive:=fun _=>Option R) us none fun a r=>a5 r (k a)
end
end
section
variable {P:Program} {gs:BQ} {w0:iQ gs} {w:World} {ρ:gH} {H H':GH} {g:GV}
theorem Vu (w:World) (S:Nat->Prop) (_:∀h∈([]:List bX),h.p w S):∃_:Nat,KW WQ w fun _=>False:=⟨0,fun _ h=>absurd h List.not_mem_nil⟩
theorem Kp {gs:Nat->BQ} {f:Nat} {V:Value} {L:List bX} (hL:∀w S,(∀h∈L,h.p w S)->∃T,KW (gs T) w fun _=>False) (hb:bO P f) (hv:∀ρ V',Rl ρ g V'->V'=V) (h:∀T (b:iQ (gs T)),wB P b (fun _=>none) f [] b.w g H'):bQ P f #[] L (fun _:Unit=>V) (fun _ l=>l) (fun _ l=>l):=by
 intro w0 S0 hw
 obtain⟨T,hT⟩:=hL w0 S0 hw
 rcases h T (.of w0 hT)with⟨v,w',ρ',hr,_⟩|⟨_,hc⟩
 ·have hq:=hb #[] w0
  rw[show([]:List Value).toArray = #[]from rfl]at hr
  rw[show(iQ.of w0 hT).w=w0 from rfl,hq]at hr;cases hr
 refine hc.mono ?_
 rintro e w' ⟨v,ρ',rfl,_,R,hr⟩
 exact⟨(),by rw[hv _ _ hr],R.ext,fun _ _=>False,⟨fun i m hm=>by simp at hm,fun i k h=>h.elim,fun i j k h=>h.elim⟩,fun f hf=>by simp at hf⟩
section
variable {tb:TB} {T:TypeId}
theorem NM (h:BP tb T=some [zF]) (H:GH):sN tb T H=some (.ptr H.n 0,H.new (.cells [zF])):=by
 unfold sN
 rw[h]
 show H.newK (.cells [zF]) (fun h H'=>some (GV.ptr h 0,H'))=_
 rw[jK]
theorem Oy {t:Ty} (h:tb T=some t) (hs:t.size=1) (H:GH) (k:Nat) (c:GV) (hc:GH.cells H k=some [c]):uB tb T (.ptr k 0) zF H=some (.un,H.set k (.cells [zF])):=by
 show ob (H.cells k) (fun cs=>ob (tb T) fun t=>bif Nat.beq 1 t.size then bif Nat.beq t.size 0 then none else ob (Fy [zF] 0 cs) fun cs'=>H.setK k (.cells cs') fun H'=>some (GV.un,H')else none)=_
 rw[hc,h]
 show(bif Nat.beq 1 t.size then bif Nat.beq t.size 0 then none else ob (Fy [zF] 0 [c]) fun cs'=>H.setK k (.cells cs') fun H'=>some (GV.un,H')else none)=_
 rw[hs]
 show H.setK k (.cells [zF]) (fun H'=>some (GV.un,H'))=_
 rw[zH]
theorem Rp {t:Ty} (h:tb T=some t) (ha:Bb t.desc=false) (H:GH) (k:Nat) (hc:GH.cells H k=some [zF]):xO tb T (.ptr k 0) H=some zF:=by
 show ob (H.cells k) (fun cs=>ob (tb T) fun t=>BA t cs 0)=_
 rw[hc,h]
 show BA t [zF] 0=_
 unfold BA
 rw[ha];rfl
end
def Kd (fn:Func):List Oper:=match fn.body with
 |some (.seq (.region _ ops _) _)=>ops.toList
 |_=>[]
def QK (fn:Func):Code:=match fn.body with
 |some (.seq _ c)=>c
 |_=> .skip
def Td (fn:Func):Nat:=match Kd fn with
 |o::_=>o.dst.getD 0
 | []=>0
def okN (r:RS):Bool:=match r with
 |some o=>match o.e with
  | .normal=>true
  |_=>false
 |none=>false
theorem Rv {r:RS} (h:okN r=true):∃out,r=some out∧out.e = .normal:=by
 unfold okN at h
 cases r with
 |none=>cases h
 |some o=>
  refine⟨o,rfl,?_⟩
  cases he:o.e<;>simp only[he]at h<;>first|rfl|cases h
def Yz (r:OR):Bool:=match r with
 |some (.bool true,_)=>true
 |_=>false
theorem Rw {r:OR} (h:Yz r=true):∃H',r=some (.bool true,H'):=by
 unfold Yz at h
 split at h
 ·exact⟨_,rfl⟩
 ·cases h
end
end
end Go.Gx
end
section
set_option maxRecDepth 100000
namespace Go.Gx
open Go Go.Sx Go.Proofs Go.Proofs.YthnplbmmlbnelaaGreat
noncomputable section
def Vt (f:Nat) (us:List GV) (H:GH):Option (GV×GH):=none
abbrev gl:Nat->BQ:=fun _:Nat=>WQ
def gp:GP:=⟨zG,71,Vt,Tn 156⟩
section
variable {T:Nat} {w0:iQ (gl T)} {w:World} {ρ:gH} {H H':GH} {g:GV} {us:List GV} {vs:List Value}
theorem Tp {f:Nat} (h:Vt f us H=some (g,H')) (R:jG w0 ρ H w) (hr:xQ ρ us vs):wB Tryz.prog w0 ρ f vs w g H':=by
 unfold Vt at h
 cases h
end
theorem Vr:WI Tryz.prog zG=true:=by kernel_rfl
theorem Hv:fZ Tryz.prog zG:=⟨LZ,Vq Vr⟩
theorem VT {gs:BQ} (w0:iQ gs):sU Tryz.prog w0 (Je zG 98 Tryz.f98):=QP Hv mixedOrders Tryz.func98 Tryz.call98 (by kernel_rfl)
theorem Vm (args:Array Value) (w:World) (hs:args.size=2):CallsDIn (FR none) 0 Tryz.prog 97 args .returning w fun e u' w'=>∃v,e = .returned v∧u' = .returning∧Ml w w':=by
 obtain⟨out,h,he⟩:=Rv (r:=Ev zG (Je zG 98 Tryz.f98) (Kd Tryz.f97) (Tj zG (Je zG 98 Tryz.f98) (fun _ _ _ _=>none) (QK Tryz.f97) 0 ⟨[],0,[]⟩ (FK [])) (Kd Tryz.f97).tail ⟨[(Td Tryz.f97,.inil)],H0⟩) (by kernel_rfl)
 exact OY (ch:=Je zG 98 Tryz.f98) (lp:=fun _ _ _ _=>none) Hv mixedOrders VT GX Tryz.func97 rfl rfl rfl (by decide +kernel) (fun ρ w=>by simp[execOp,resolve,invoke,builtin]) (by kernel_rfl) (by kernel_rfl) rfl (by rw[hs];decide +kernel) h he
theorem Yw {gs:BQ} {ext:FuncId->List GV->GH->Option (GV×GH)} (hx:∀(w0:iQ gs) {f us H g H'},ext f us H=some (g,H')->∀ρ w vs,jG w0 ρ H w->xQ ρ us vs->wB Tryz.prog w0 ρ f vs w g H') (w0:iQ gs):Hy Tryz.prog ⟨zG,71,ext,Tn 156⟩ Nq.fns w0:=by
 refine⟨Hv,mixedOrders,fun h=> ?_,hx w0,fun h ρ w vs H R hr=>To Tryz.func156 rfl rfl rfl rfl h ρ w vs H R hr,fun R hc h1 h2=> ?_⟩
 ·obtain⟨e,he,h⟩:=aN.1 (show ob (Ot _) _=some _ from h)
  cases h
  obtain⟨q1,q2,q3⟩:=RH he
  exact⟨q1,q2,LC q3⟩
 ·exact Vj (tb:=zG) (T1:=3) (T2:=30) (cc:=97) Hv Tryz.func71 Tryz.call71 Tryz.call97 rfl rfl rfl (NM (by kernel_rfl)) (NM (by kernel_rfl)) (Oy rfl rfl) (Oy rfl rfl) (Rp rfl rfl) (Rp rfl rfl) Vm R hc h1 h2
theorem gok {T:Nat} (w0:iQ (gl T)):Hy Tryz.prog gp Nq.fns w0:=Yw (fun w0 f us H g H' h ρ w vs R hr=>Tp h R hr) w0
end
end Go.Gx
end
section
namespace Go.Proofs.YthnplbmmlbnelaaGreat
open Go Go.Sx Go.Gx
set_option maxRecDepth 100000
def zP (fuel:Nat):Option (Bool):=some (true)
theorem QC:bO Tryz.prog 6:=Tryz.call6
theorem Tf:Yz (QN Nq gp 4000 6 [] H0)=true:=by kernel_rfl
theorem EB (fuel:Nat) (r:Bool) (h:zP fuel=some r):
  bQ Tryz.prog 6 #[] [] (fun x:Unit=>Value.bool (r)) (fun x l=>l) (fun _ l=>l):=by
 obtain rfl:=Option.some.inj h
 obtain⟨H',h1⟩:=Rw Tf
 rw[QO TI]at h1
 exact Kp Vu QC (fun ρ V' h=>h.bool_inv) fun T b=>QM (gs:=gl T) gok h1 (Jc b rfl) .nil
end Go.Proofs.YthnplbmmlbnelaaGreat
end
section
namespace Go.Proofs.YthnplbmmlbnelaaGreat
open Go.Sx
def gV  (a35:Bool):Option (Bool):=
 some (a35)
def kI (U:Nat) (p0:cH) (p1:cH) (a4:Bool):Option (Bool):=
 if a4=true then(Option.bind (zP U) fun r7=>(some (r7)))else(Option.bind (xX U ((p0.1,p0.2.1,p0.2.2)) ((p1.1,p1.2.1,p1.2.2))) fun r10=>(Option.bind (AS U ((p0.1,p0.2.1,p0.2.2)) ((p1.1,p1.2.1,p1.2.2))) fun r16=>(Option.bind (pK U ((p0.1,p0.2.1,p0.2.2)) ((p1.1,p1.2.1,p1.2.2))) fun r22=>(Option.bind (sQ U ((p0.1,p0.2.1,p0.2.2)) ((p1.1,p1.2.1,p1.2.2))) fun r28=>(Option.bind (zP U) fun r37=>(if r37=true then(if r10.2=r16.2 then(Option.bind (uL U ((r10.1.1,r10.1.2.1,r10.1.2.2)) ((r16.1.1,r16.1.2.1,r16.1.2.2))) fun r42=>(if r42=true then(if r22.2=r28.2 then(Option.bind (uL U ((r22.1.1,r22.1.2.1,r22.1.2.2)) ((r28.1.1,r28.1.2.1,r28.1.2.2))) fun r47=>(gV  (r47)))else(gV  (false)))else(gV  (false))))else(gV  (false)))else(gV  (false))))))))
def tE (U:Nat) (p0:cH) (p1:cH):Option (Bool):=
 Option.bind (pB U ((p0.1,p0.2.1,p0.2.2))) fun r50=>(if r50=true then(kI U p0 p1 (true))else(Option.bind (pB U ((p1.1,p1.2.1,p1.2.2))) fun r54=>(kI U p0 p1 (r54))))
theorem DG (U:Nat) {p0:cH} {p1:cH} (v0:Value)  (v1:Value)  (v2:Value)  (v3:Value) (r:Bool) (h:tE U p0 p1=some r):
  bQ Tryz.prog 4 #[Value.agg #[vS (p0.1),v0,v1],Value.agg #[vS (p1.1),v2,v3]] [Sl aF v0 p0.2.1,Sl aD v1 p0.2.2,Sl aF v2 p1.2.1,Sl aD v3 p1.2.2] (fun x:Unit=>vB (r)) (fun x l=>l) (fun _ l=>l):=by
 refine bQ.of Tryz.func4 rfl Tryz.ntmps4 rfl fun c=>?_
 refine aZ<|aT (aW.box (cs:=[vS (p0.1),v0,v1]) rfl rfl) rfl fun b1=>aT (aW.box (cs:=[vS (p1.1),v2,v3]) rfl rfl) rfl fun b2=>aK rfl<|aU<|aP<|aP<|dD (fun a4=>kI U p0 p1 a4=some r) (fun a4 b5=>[(2,vP b1),(3,vP b2),(18,vB (a4))]) (fun a4 b5=>[bJ b2 [vS (p1.1),v2,v3] 25,bJ b1 [vS (p0.1),v0,v1] 25]) ?_ ?_
 ·refine aS<|iC 1 rfl<|fO h fun r50 w51 h=>aT (aW.callQ Uf (EC U v0 v1 r50 w51) rfl (gO [0,1] rfl)) rfl fun x52=>aE rfl ?_
  refine fY (by exact rfl) (by exact rfl) (fun hp53=>?_) (fun hp53=>?_)
  ·have h:=BK hp53 h
   refine aI rfl<|aI rfl<|cE rfl<|aU ?_
   exact cZ (true) () h SF rfl
  have h:=sM hp53 h
  refine aL rfl (iD 0 rfl rfl rfl rfl) rfl<|fO h fun r54 w55 h=>eX rfl (aW.callQ Uf (EC U v2 v3 r54 w55) rfl (gO [2,3] rfl)) rfl fun x56=>cI rfl<|aU ?_
  exact cZ (r54) () h SF rfl
 intro a4 b5 h
 refine gP h rfl (fun _ h=>?_) fun _ h=>?_
 ·refine aZ<|fO h fun r7 w8 h=>aT (aW.callQ QC (EB U  r7 w8) rfl .nil) rfl fun x9=>aK rfl<|aU<|bE<|aR ?_
  cases h
  exact yR rfl
 refine cC<|aZ<|iC 1 rfl<|iC 0 rfl<|fO h fun r10 w11 h=>aT (aW.call UG (Io U v0 v1 v2 v3 r10 w11) rfl (j_.cons (List.mem_of_getElem? (i:=0) rfl) (j_.cons (List.mem_of_getElem? (i:=1) rfl) (j_.cons (List.mem_of_getElem? (i:=2) rfl) (jY 3 rfl)))) (fun _ _=>rfl) (fun _ _=>rfl)) rfl fun x12=>aE rfl<|mM rfl<|mM rfl<|aT (aW.alloc (cs:=fL) rfl rfl) rfl fun b13=>bY (Know.one ((aM.ar (aM.res 1 rfl) aQ))) fun ho14=>bY (Know.one ((dN rfl))) fun ho15=>bL 0 (vs:=[vS (r10.1.1),x12.1,x12.2]) rfl rfl (cR rfl (cR ho14 (cR ho15 rfl))) rfl rfl rfl<|aK rfl<|aU<|aZ<|iC 3 rfl<|iC 2 rfl<|fO h fun r16 w17 h=>aT (aW.call UH (KL U v0 v1 v2 v3 r16 w17) rfl (j_.cons (List.mem_of_getElem? (i:=1) rfl) (j_.cons (List.mem_of_getElem? (i:=2) rfl) (j_.cons (List.mem_of_getElem? (i:=3) rfl) (jY 4 rfl)))) (fun _ _=>rfl) (fun _ _=>rfl)) rfl fun x18=>aE rfl<|mM rfl<|mM rfl<|aT (aW.alloc (cs:=fL) rfl rfl) rfl fun b19=>bY (Know.one ((aM.ar (aM.res 1 rfl) aQ))) fun ho20=>bY (Know.one ((dN rfl))) fun ho21=>bL 0 (vs:=[vS (r16.1.1),x18.1,x18.2]) rfl rfl (cR rfl (cR ho20 (cR ho21 rfl))) rfl rfl rfl<|aK rfl<|aU<|aZ<|iC 5 rfl<|iC 4 rfl<|fO h fun r22 w23 h=>aT (aW.call UI (Er U v0 v1 v2 v3 r22 w23) rfl (j_.cons (List.mem_of_getElem? (i:=2) rfl) (j_.cons (List.mem_of_getElem? (i:=3) rfl) (j_.cons (List.mem_of_getElem? (i:=4) rfl) (jY 5 rfl)))) (fun _ _=>rfl) (fun _ _=>rfl)) rfl fun x24=>aE rfl<|mM rfl<|mM rfl<|aT (aW.alloc (cs:=fL) rfl rfl) rfl fun b25=>bY (Know.one ((aM.ar (aM.res 1 rfl) aQ))) fun ho26=>bY (Know.one ((dN rfl))) fun ho27=>bL 0 (vs:=[vS (r22.1.1),x24.1,x24.2]) rfl rfl (cR rfl (cR ho26 (cR ho27 rfl))) rfl rfl rfl<|aK rfl<|aU<|aZ<|iC 7 rfl<|iC 6 rfl<|fO h fun r28 w29 h=>aT (aW.call UJ (FX U v0 v1 v2 v3 r28 w29) rfl (j_.cons (List.mem_of_getElem? (i:=3) rfl) (j_.cons (List.mem_of_getElem? (i:=4) rfl) (j_.cons (List.mem_of_getElem? (i:=5) rfl) (jY 6 rfl)))) (fun _ _=>rfl) (fun _ _=>rfl)) rfl fun x30=>aE rfl<|mM rfl<|mM rfl<|aT (aW.alloc (cs:=fL) rfl rfl) rfl fun b31=>bY (Know.one ((aM.ar (aM.res 1 rfl) aQ))) fun ho32=>bY (Know.one ((dN rfl))) fun ho33=>bL 0 (vs:=[vS (r28.1.1),x30.1,x30.2]) rfl rfl (cR rfl (cR ho32 (cR ho33 rfl))) rfl rfl rfl<|aK rfl<|aU<|aP<|iM (B:=Unit) (fun a35=>gV  a35=some r) (fun a35 b36=>[(4,vB (a35))]) (fun a35 b36=>[]) (fun a35 b36=>[Sl aD x30.2 r28.1.2.2,Sl aD x24.2 r22.1.2.2,Sl aD x18.2 r16.1.2.2,Sl aD x12.2 r10.1.2.2,Sl aF v0 p0.2.1,Sl aD v1 p0.2.2,Sl aF v2 p1.2.1,Sl aD v3 p1.2.2]) ?_ ?_
 ·refine aS<|fO h fun r37 w38 h=>aT (aW.callQ QC (EB U  r37 w38) rfl .nil) rfl fun x39=>aE rfl ?_
  refine fY (by exact rfl) (by exact rfl) (fun hp40=>?_) (fun hp40=>?_)
  ·have h:=BK hp40 h
   refine cP rfl<|cP rfl<|aL rfl (mU rfl rfl) rfl<|cE rfl<|aE rfl ?_
   refine oD h rfl (fun _ h=>?_) fun _ h=>?_
   ·refine aL rfl (iD 6 rfl rfl rfl rfl) rfl<|aL rfl (iD 4 rfl rfl rfl rfl) rfl<|fO h fun r42 w43 h=>eX rfl (aW.callQ Qs (FV U x12.1 x12.2 x18.1 x18.2 r42 w43) rfl (aV.cons (aM.ar (aM.res 7 rfl) aQ) (aV.cons (bV 3 rfl) (aV.cons (aM.ar (aM.res 5 rfl) aQ) (gO [2] rfl))))) rfl fun x44=>cE rfl<|aE rfl ?_
    refine fY (by exact rfl) (by exact rfl) (fun hp45=>?_) (fun hp45=>?_)
    ·have h:=BK hp45 h
     refine cP rfl<|cP rfl<|aL rfl (mU rfl rfl) rfl<|cE rfl<|aE rfl ?_
     refine oD h rfl (fun _ h=>?_) fun _ h=>?_
     ·refine aL rfl (iD 2 rfl rfl rfl rfl) rfl<|aL rfl (iD 0 rfl rfl rfl rfl) rfl<|fO h fun r47 w48 h=>eX rfl (aW.callQ Qs (FV U x24.1 x24.2 x30.1 x30.2 r47 w48) rfl (aV.cons (aM.ar (aM.res 3 rfl) aQ) (aV.cons (fP rfl) (aV.cons (aM.ar (aM.res 1 rfl) aQ) (gO [0] rfl))))) rfl fun x49=>cE rfl<|aK rfl<|aU ?_
      exact cK (r47) () h SF .nil (aV.refl _ _)
     refine aI rfl<|aI rfl<|aI rfl<|cI rfl<|aK rfl<|aU ?_
     exact cK (false) () h SF .nil (aV.refl _ _)
    have h:=sM hp45 h
    refine aI rfl<|aI rfl<|aI rfl<|cI rfl<|aE rfl<|aI rfl<|aI rfl<|aI rfl<|cI rfl<|aK rfl<|aU ?_
    exact cK (false) () h SF .nil (aV.refl _ _)
   refine aI rfl<|aI rfl<|aI rfl<|cI rfl<|aE rfl<|aI rfl<|aI rfl<|aI rfl<|cI rfl<|aE rfl<|aI rfl<|aI rfl<|aI rfl<|cI rfl<|aK rfl<|aU ?_
   exact cK (false) () h SF .nil (aV.refl _ _)
  have h:=sM hp40 h
  refine aI rfl<|aI rfl<|aI rfl<|cI rfl<|aE rfl<|aI rfl<|aI rfl<|aI rfl<|cI rfl<|aE rfl<|aI rfl<|aI rfl<|aI rfl<|cI rfl<|aE rfl<|aI rfl<|aI rfl<|aI rfl<|cI rfl<|aK rfl<|aU ?_
  exact cK (false) () h SF .nil (aV.refl _ _)
 intro a35 b36 h
 unfold gV at h
 refine bE ?_
 cases h
 exact kF rfl
end Go.Proofs.YthnplbmmlbnelaaGreat
end
