/- Models and proofs. Conditions: none. -/
import Derived.Test.YtpenklncfhiloaaGreatDoorZCLi3
import Derived.Test.YtpenklncfhiloaaGreatDoorZCLi1
import Derived.RecoverIn
import Derived.DefersIn
import Derived.Lib.Bytealg
import Derived.Test.YtpenklncfhiloaaGreatDoorZCLi2
set_option linter.unusedVariables false
set_option linter.unusedSimpArgs false
set_option maxHeartbeats 4000000
set_option maxRecDepth 20000
section
namespace Go.Gx
open Go Go.Sx Go.RowKit
section

section
variable {R α:Type}
theorem wJ (r:OR) (k:GV->GH->Option R):kS r k=kS (kS r Gg) k:=by
 cases r with
 |none=>rfl
 |some p=>rfl
theorem cX (x:Option α) {f:α->Option R} {g:α->OR} {k:GV->GH->Option R} (h:∀a,f a=kS (g a) k):ob x f=kS (ob x g) k:=by
 cases x with
 |none=>rfl
 |some a=>exact h a
theorem Wi {tb:TB} {n:CH} {σ:GF} {H:GH} (o:Op) (k:GV->GH->Option R):KU tb n o σ H k=kS (KU tb n o σ H Gg) k:=by
 have a:∀x (f:GV->Option GV),k1 x f σ H k=kS (k1 x f σ H Gg) k:=fun x f=>cX _ fun x=>cX _ fun v=>cX _ fun g=>rfl
 have d:∀x y (f:GV->GV->Option GV),k2 x y f σ H k=kS (k2 x y f σ H Gg) k:=fun x y f=>cX _ fun x=>cX _ fun v=>cX _ fun u=>cX _ fun g=>rfl
 have r:∀x y z (f:GV->GV->GV->Option GV),k3 x y z f σ H k=kS (k3 x y z f σ H Gg) k:=fun x y z f=>cX _ fun x=>cX _ fun v=>cX _ fun u=>cX _ fun t=>cX _ fun g=>rfl
 cases o with
 |move x=>exact cX _ fun v=>rfl
 |assign x=>exact cX _ fun v=>rfl
 |pick c x y=>exact r _ _ _ _
 |alloc T=>exact wJ _ _
 |box T x=>exact cX _ fun v=>wJ _ _
 |build T ps=>exact cX _ fun vs=>cX _ fun g=>rfl
 |buildSlice T m ps=>exact cX _ fun x=>wJ _ _
 |load T x=>exact cX _ fun v=>cX _ fun g=>rfl
 |store T x y=>exact cX _ fun v=>cX _ fun u=>wJ _ _
 |nilCheck x=>exact a _ _
 |binOp w T x y T'=>exact d _ _ _
 |unOp w T x=>exact a _ _
 |convert S D x=>exact a _ _
 |makeFunc fn first j=>
  cases fn with
  |func f=>exact cX _ fun us=>cX _ fun vs=>rfl
  |_=>rfl
 |makeMap T q=>
  cases q with
  |none=>exact wJ _ _
  |some x=>rfl
 |makeSlice T x y=>exact cX _ fun v=>cX _ fun u=>wJ _ _
 |slice T x B A s=>
  cases s with
  |none=>exact cX _ fun v=>cX _ fun l=>cX _ fun h=>cX _ fun g=>rfl
  |some y=>rfl
 |fieldAddr T x f=>exact a _ _
 |field T x f=>exact a _ _
 |indexAddr T x y=>exact d _ _ _
 |index T x y=>exact d _ _ _
 |lookup T x y C=>exact cX _ fun v=>cX _ fun u=>cX _ fun g=>rfl
 |mapUpdate T x y z=>exact cX _ fun v=>cX _ fun u=>cX _ fun t=>wJ _ _
 |extract x i=>exact a _ _
 | call c =>
  obtain⟨e,xs,p⟩:=c
  cases e with
  |value f=>exact cX _ fun v=>cX _ fun g=>cX _ fun us=>wJ _ _
  |invoke x m=>rfl
  | builtin b =>
   show NW tb xs p b σ H k=kS (NW tb xs p b σ H Gg) k
   obtain⟨xs⟩:=xs
   cases b with
   |len=>
    match xs with
    | []=>rfl
    | [x]=>exact cX _ fun T=>cX _ fun v=>cX _ fun g=>rfl
    |_::_::_=>rfl
   |max=>
    match xs with
    | []=>rfl
    | [x]=>rfl
    | [x,y]=>exact d _ _ _
    |_::_::_::_=>rfl
   |min=>
    match xs with
    | []=>rfl
    | [x]=>rfl
    | [x,y]=>exact d _ _ _
    |_::_::_::_=>rfl
   |append=>
    match xs with
    | []=>rfl
    | [x]=>rfl
    | [x,y]=>exact cX _ fun T=>cX _ fun T'=>cX _ fun v=>cX _ fun u=>wJ _ _
    |_::_::_::_=>rfl
   |copy=>
    match xs with
    | []=>rfl
    | [x]=>rfl
    | [x,y]=>exact cX _ fun T=>cX _ fun v=>cX _ fun u=>wJ _ _
    |_::_::_::_=>rfl
   |cap=>
    match xs with
    | []=>rfl
    | [x]=>exact cX _ fun T=>cX _ fun v=>cX _ fun g=>rfl
    |_::_::_=>rfl
   |_=>rfl
 |_=>rfl

theorem AT {σ a:GF}:∀{xs:List Operand},(∀x∈xs,i_ σ x=i_ a x)->Dt σ xs=Dt a xs
 | [],_=>rfl
 |x::xs,h=>by
  show ob (i_ σ x) (fun v=>ob (Dt σ xs) fun vs=>some (v::vs))=ob (i_ a x) (fun v=>ob (Dt a xs) fun vs=>some (v::vs))
  rw[h x List.mem_cons_self,AT fun y b=>h y (List.mem_cons_of_mem _ b)]
theorem AU {σ a:GF}:∀{xs:List (Nat×Operand)},(∀x∈xs,i_ σ x.2=i_ a x.2)->sB σ xs=sB a xs
 | [],_=>rfl
 |x::xs,h=>by
  show ob (i_ σ x.2) (fun v=>ob (sB σ xs) fun vs=>some ((x.1,v)::vs))=ob (i_ a x.2) (fun v=>ob (sB a xs) fun vs=>some ((x.1,v)::vs))
  rw[h x List.mem_cons_self,AU fun y b=>h y (List.mem_cons_of_mem _ b)]
theorem HF {σ a:GF} {o:Option Operand} (h:∀x∈o.toArray,i_ σ x=i_ a x):Fc σ o=Fc a o:=by
 cases o with
 |none=>rfl
 |some x=>
  show ob (i_ σ x) (fun v=>some (some v))=ob (i_ a x) (fun v=>some (some v))
  rw[h x (by simp)]
theorem QO {tb:TB} {C:CH} {σ a:GF} {H:GH} {o:Op} {k:GV->GH->Option R} (h:∀x∈o.operands,i_ σ x=i_ a x):KU tb C o σ H k=KU tb C o a H k:=by
 have n:∀x (f:GV->Option GV),i_ σ x=i_ a x->k1 x f σ H k=k1 x f a H k:=fun x f e=>by simp only[k1,ob,e]
 have p:∀x y (f:GV->GV->Option GV),i_ σ x=i_ a x->i_ σ y=i_ a y->k2 x y f σ H k=k2 x y f a H k:=fun x y f e s=>by simp only[k2,ob,e,s]
 have F:∀x y z (f:GV->GV->GV->Option GV),i_ σ x=i_ a x->i_ σ y=i_ a y->i_ σ z=i_ a z->k3 x y z f σ H k=k3 x y z f a H k:=fun x y z f e s t=>by simp only[k3,ob,e,s,t]
 cases o with
 |move x=>show FS x σ H k=FS x a H k;simp only[FS,ob,h x (by simp[Op.operands])]
 |assign x=>show FS x σ H k=FS x a H k;simp only[FS,ob,h x (by simp[Op.operands])]
 |pick c x y=>exact F _ _ _ _ (h _ (by simp[Op.operands])) (h _ (by simp[Op.operands])) (h _ (by simp[Op.operands]))
 |alloc T=>rfl
 |box T x=>show Wo x σ H k=Wo x a H k;simp only[Wo,ob,h x (by simp[Op.operands])]
 | build T ps =>
  show ob (sB σ ps.toList) _=ob (sB a ps.toList) _
  rw[AU fun x d=>h x.2 (by
   have:x∈ps:=by simpa using d
   simp only[Op.operands,List.mem_toArray,List.mem_map];exact⟨x,d,rfl⟩)]
 | buildSlice T m ps =>
  show ob (sB σ ps.toList) _=ob (sB a ps.toList) _
  rw[AU fun x d=>h x.2 (by
   simp only[Op.operands,List.mem_toArray,List.mem_map];exact⟨x,d,rfl⟩)]
 |load T x=>show Pq tb T x σ H k=Pq tb T x a H k;simp only[Pq,ob,h x (by simp[Op.operands])]
 |store T x y=>show Kp tb T x y σ H k=Kp tb T x y a H k;simp only[Kp,ob,h x (by simp[Op.operands]),h y (by simp[Op.operands])]
 |nilCheck x=>exact n _ _ (h _ (by simp[Op.operands]))
 |binOp I T x y T'=>exact p _ _ _ (h _ (by simp[Op.operands])) (h _ (by simp[Op.operands]))
 |unOp I T x=>exact n _ _ (h _ (by simp[Op.operands]))
 |convert S D x=>exact n _ _ (h _ (by simp[Op.operands]))
 | makeFunc fn first caps =>
  cases fn with
  | func f =>
   show ob (Dt σ first.toList) _=ob (Dt a first.toList) _
   rw[AT fun x d=>h x (by simp only[Op.operands,Array.mem_append];exact .inl (by simpa using d)),
    AT (xs:=caps.toList) fun x d=>h x (by simp only[Op.operands,Array.mem_append];exact .inr (by simpa using d))]
  |_=>rfl
 |makeMap T q=>
  cases q with
  |none=>rfl
  |some x=>rfl
 |makeSlice T x y=>show Ps tb T x y σ H k=Ps tb T x y a H k;simp only[Ps,ob,h x (by simp[Op.operands]),h y (by simp[Op.operands])]
 | slice T x lo hi mx =>
  cases mx with
  |none=>
   show ob (some x) (fun x=>ob (i_ σ x) fun v=>ob (Fc σ lo) fun l=>ob (Fc σ hi) fun h=>ob (DI tb T v l h H) fun g=>k g H)=ob (some x) (fun x=>ob (i_ a x) fun v=>ob (Fc a lo) fun l=>ob (Fc a hi) fun h=>ob (DI tb T v l h H) fun g=>k g H)
   have w:Fc σ lo=Fc a lo:=HF fun y B=>h y (by simp only[Op.operands,Array.mem_append];exact .inl (.inl (.inr B)))
   have u:Fc σ hi=Fc a hi:=HF fun y B=>h y (by simp only[Op.operands,Array.mem_append];exact .inl (.inr B))
   have d:i_ σ x=i_ a x:=h x (by simp only[Op.operands,Array.mem_append];exact .inl (.inl (.inl (by simp))))
   simp only[ob,w,u,d]
  |some y=>rfl
 |fieldAddr T x f=>exact n _ _ (h _ (by simp[Op.operands]))
 |field T x f=>exact n _ _ (h _ (by simp[Op.operands]))
 |indexAddr T x y=>exact p _ _ _ (h _ (by simp[Op.operands])) (h _ (by simp[Op.operands]))
 |index T x y=>exact p _ _ _ (h _ (by simp[Op.operands])) (h _ (by simp[Op.operands]))
 |lookup T x y E=>show Pr tb T x y E σ H k=Pr tb T x y E a H k;simp only[Pr,ob,h x (by simp[Op.operands]),h y (by simp[Op.operands])]
 |mapUpdate T x y z=>show Ko tb T x y z σ H k=Ko tb T x y z a H k;simp only[Ko,ob,h x (by simp[Op.operands]),h y (by simp[Op.operands]),h z (by simp[Op.operands])]
 |extract x i=>exact n _ _ (h _ (by simp[Op.operands]))
 | call c =>
  obtain⟨r,xs,j⟩:=c
  cases r with
  |value f=>
   have G:i_ σ f=i_ a f:=h f (by simp[Op.operands,Call.operands])
   have A:Dt σ xs.toList=Dt a xs.toList:=AT fun x d=>h x (by simp[Op.operands,Call.operands];exact .inr (by simpa using d))
   show ob (i_ σ f) _=ob (i_ a f) _
   simp only[ob,G,A]
  |invoke x m=>rfl
  | builtin b =>
   show NW tb xs j b σ H k=NW tb xs j b a H k
   have d:∀x∈xs,i_ σ x=i_ a x:=fun x d=>h x (by simp[Op.operands,Call.operands];exact d)
   obtain⟨xs⟩:=xs
   cases b with
   |len=>
    match xs,d with
    | [],_=>rfl
    | [x],d=>show QT tb j.toList x σ H k=QT tb j.toList x a H k;simp only[QT,ob,d x (by simp)]
    |_::_::_,_=>rfl
   |max=>
    match xs,d with
    | [],_=>rfl
    | [x],_=>rfl
    | [x,y],d=>exact p _ _ _ (d _ (by simp)) (d _ (by simp))
    |_::_::_::_,_=>rfl
   |min=>
    match xs,d with
    | [],_=>rfl
    | [x],_=>rfl
    | [x,y],d=>exact p _ _ _ (d _ (by simp)) (d _ (by simp))
    |_::_::_::_,_=>rfl
   |append=>
    match xs,d with
    | [],_=>rfl
    | [x],_=>rfl
    | [x,y],d=>show TI tb j.toList x y σ H k=TI tb j.toList x y a H k;simp only[TI,ob,d x (by simp),d y (by simp)]
    |_::_::_::_,_=>rfl
   |copy=>
    match xs,d with
    | [],_=>rfl
    | [x],_=>rfl
    | [x,y],d=>show LZ tb j.toList x y σ H k=LZ tb j.toList x y a H k;simp only[LZ,ob,d x (by simp),d y (by simp)]
    |_::_::_::_,_=>rfl
   |cap=>
    match xs,d with
    | [],_=>rfl
    | [x],d=>show QS tb j.toList x σ H k=QS tb j.toList x a H k;simp only[QS,ob,d x (by simp)]
    |_::_::_,_=>rfl
   |_=>rfl
 |_=>rfl
end
noncomputable def CM (tb:TB) (a:CH) (all:List Oper) (o:Oper) (σ:GF) (H:GH):OR:=Option.casesOn (motive:=fun _=>OR) o.guard (KU tb a o.op σ H Gg) fun g=>ob (EI all g.1) fun c=>ob c.dst fun b=>ob (CN σ b) fun v=>Zr tb a o ⟨σ,H⟩ g.2 v
theorem Wb {tb:TB} {a:CH} {all:List Oper} {o:Oper} {k:GS->RS} {s:GS}:HA tb a all o k s=kS (CM tb a all o s.σ s.H) (opK o.dst s k):=by
 unfold HA CM
 cases o.guard with
 |none=>exact Wi _ _
 |some g=>exact cX _ fun c=>cX _ fun b=>cX _ fun v=>rfl
theorem Cr {tb:TB} {b:CH} {all:List Oper} {o:Oper} {k:GS->RS} {s:GS} {a:Lj} (h:HA tb b all o k s=some a):∃g H',CM tb b all o s.σ s.H=some (g,H')∧k ⟨putD o.dst g s.σ,H'⟩=some a:=by
 rw[Wb]at h
 obtain⟨g,H',c,d⟩:=lR h
 exact⟨g,H',c,d⟩
theorem NL {tb:TB} {b:CH} {all:List Oper} {o:Oper} {σ a:GF} {H:GH} (h:∀t∈o.looksAt all.toArray,CN σ t=CN a t):CM tb b all o σ H=CM tb b all o a H:=by
 have c:KU tb b o.op σ H Gg=KU tb b o.op a H Gg:=QO fun x j=>by
  cases x with
  |tmp t=>exact h t (List.mem_append_left _ (List.mem_filterMap.2 ⟨.tmp t,by simpa using j,rfl⟩))
  |_=>rfl
 unfold CM
 cases f:o.guard with
 |none=>exact c
 | some g =>
  show ob (EI all g.1) _=ob (EI all g.1) _
  cases d:EI all g.1 with
  |none=>rfl
  | some oj =>
   show ob oj.dst _=ob oj.dst _
   cases e:oj.dst with
   |none=>rfl
   | some dj =>
    have i:dj∈o.looksAt all.toArray:=by
     rw[sC]at d
     simp[Oper.looksAt,f,d,e]
    show ob (CN σ dj) (fun v=>Zr tb b o ⟨σ,H⟩ g.2 v)=ob (CN a dj) (fun v=>Zr tb b o ⟨a,H⟩ g.2 v)
    rw[h dj i]
    cases CN a dj with
    |none=>rfl
    | some v =>
     show Zr tb b o ⟨σ,H⟩ g.2 v=Zr tb b o ⟨a,H⟩ g.2 v
     cases v with
     |bool q=>
      show Bool.casesOn (motive:=fun _=>OR) (Pg q g.2) (some (.un,H)) (KU tb b o.op σ H Gg)=Bool.casesOn (motive:=fun _=>OR) (Pg q g.2) (some (.un,H)) (KU tb b o.op a H Gg)
      rw[c]
     |_=>rfl
section
variable {P:Program} {tb:TB} {gs:wT} {w0:eD gs}
theorem Cq {s:CH} {all:List Oper} {n:Nat} {o:Oper} {σ:GF} {H H':GH} {g:GV} {ρ:dH} {a:Act} (F:jQ ρ n σ a) (h:CM tb s all o σ H=some (g,H')):
  (Region.wanted o (yielded all.toArray a.tmps)=true∧KU tb s o.op σ H Gg=some (g,H'))∨(Region.wanted o (yielded all.toArray a.tmps)=false∧g = .un∧H'=H):=by
 unfold CM at h
 cases k:o.guard with
 |none=>
  rw[k]at h
  exact .inl ⟨by simp[Region.wanted,k],h⟩
 | some gd =>
  rw[k]at h
  obtain⟨x,l,h⟩:=aD.1 (show ob (EI all gd.1) _=some (g,H')from h)
  obtain⟨i,p,h⟩:=aD.1 h
  obtain⟨v,w,j⟩:=aD.1 h
  have e:=F.slot i v w
  rw[sC]at l
  have r:yielded all.toArray a.tmps gd.1=(match a.tmps[i]? with|some (.bool b)=>some b|_=>none):=by
   unfold yielded
   have:(all.toArray[gd.1]?).bind (·.dst)=some i:=by simp[l,p]
   rw[this];rfl
  cases v with
  | bool q =>
   have d:=e.bool_inv
   have u:a.tmps[i]? = some (.bool q):=by
    simp only[Act.eval,Array.getD_eq_getD_getElem?]at d
    cases m:a.tmps[i]? with
    |none=>rw[m]at d;cases d
    |some z=>rw[m]at d;simp at d;rw[d]
   rw[u]at r
   have c:Bool.casesOn (motive:=fun _=>OR) (Pg q gd.2) (some (.un,H)) (KU tb s o.op σ H Gg)=some (g,H'):=j
   rw[Dp]at c
   have t:Region.wanted o (yielded all.toArray a.tmps)=(q==gd.2):=by
    simp only[Region.wanted,k]
    rw[r]
    cases q<;>cases gd.2<;>rfl
   cases f:(q==gd.2)with
   |true=>rw[f]at c;exact .inl ⟨by rw[t,f],c⟩
   |false=>rw[f]at c;cases c;exact .inr ⟨by rw[t,f],rfl,rfl⟩
  | un =>
   have d:=e.un_inv
   cases j
   refine .inr ⟨?_,rfl,rfl⟩
   simp only[Region.wanted,k]
   rw[r]
   have:(match a.tmps[i]? with|some (.bool b)=>some b|_=>none)=(none:Option Bool):=by
    simp only[Act.eval,Array.getD_eq_getD_getElem?]at d
    cases m:a.tmps[i]? with
    |none=>rfl
    |some z=>rw[m]at d;simp at d;rw[d];rfl
   rw[this];rfl
  |_=>cases j
theorem Gw {c:CH} (f:eK P tb) (b:qM P w0 c) {all:List Oper} {n:Nat} {o:Oper} {σ:GF} {H H':GH} {g:GV} {ρ:dH} {a:Act} {w:World} (k:Fo n o=true) (F:jQ ρ n σ a) (R:eT w0 ρ H w) (h:CM tb c all o σ H=some (g,H')):
  (Region.wanted o (yielded all.toArray a.tmps)=true∧Af P w0 ρ σ a w o g H H')∨(Region.wanted o (yielded all.toArray a.tmps)=false∧g = .un∧H'=H):=by
 obtain⟨_,_,e⟩:=rS k
 rcases Cq F h with⟨m,i⟩|h
 ·obtain⟨p,d,j,l⟩:=NQ f b F R e i
  cases j
  exact .inl ⟨m,l⟩
 ·exact .inr h

def Uu (tb:TB) (T:TypeId):Bool:=match tb T with
 |some t=>(match t.desc with|.array .. => false|_=>true)
 |none=>false
def pureOp (tb:TB):Op->Bool
 | .move _ | .assign _ | .pick .. | .build .. | .nilCheck _ | .binOp .. | .unOp .. | .convert .. | .makeFunc .. | .fieldAddr .. | .field .. | .indexAddr .. | .index .. | .extract .. => true
 | .slice T _ _ _ _=>Uu tb T
 | .call ⟨.builtin .len,_,_⟩ | .call ⟨.builtin .max,_,_⟩ | .call ⟨.builtin .min,_,_⟩=>true
 |_=>false
def isFloat:Op->Bool
 | .buildSlice .. | .alloc .. | .box .. => true
 |_=>false
theorem fK {ρ:dH} {g:GV} {s:Sem Value} {a:Act} {o:Oper} (h:AB P ρ s g) (b:∀w v,s.run P w = .ok v w->(execOp a.eval o).run P w = .ok (.value v) w):∃v,Rl ρ g v∧∀w,(execOp a.eval o).run P w = .ok (.value v) w:=
 let ⟨v,hv,hr⟩:=h;⟨v,hv,fun w=>b w v (hr w)⟩
theorem TD {ih:CH} (B:eK P tb) {ρ:dH} {n:Nat} {σ:GF} {a:Act} (F:jQ ρ n σ a) {o:Oper} {H H':GH} {g:GV} (K:pureOp tb o.op=true) (Q:HV o.op=true) (h:KU tb ih o.op σ H Gg=some (g,H')):
  H'=H∧∃v,Rl ρ g v∧∀w,(execOp a.eval o).run P w = .ok (.value v) w:=by
 obtain⟨d,N,ty,pos,aft,gd⟩:=o
 cases N with
 |move x=>
  obtain⟨v,q,h⟩:=aD.1 (show ob (i_ σ x) _=some (g,H')from h)
  cases h
  exact⟨rfl,_,b_ F q,fun w=>by simp[execOp]⟩
 |assign x=>
  obtain⟨v,q,h⟩:=aD.1 (show ob (i_ σ x) _=some (g,H')from h)
  cases h
  exact⟨rfl,_,b_ F q,fun w=>by simp[execOp]⟩
 |pick c x y=>
  obtain⟨v,q,h⟩:=aD.1 (show ob (i_ σ c) _=some (g,H')from h)
  obtain⟨u,A,h⟩:=aD.1 h
  obtain⟨t,R,h⟩:=aD.1 h
  obtain⟨r,k,h⟩:=aD.1 h
  cases h
  obtain⟨b,Y,k⟩:=aD.1 (show ob v.asB _=some g from k)
  have hc:=b_ F q
  rw[zO Y]at hc
  cases b with
  |true=>cases k;exact⟨rfl,_,b_ F A,fun w=>by simp[execOp,hc.bool_inv,asBool]⟩
  |false=>cases k;exact⟨rfl,_,b_ F R,fun w=>by simp[execOp,hc.bool_inv,asBool]⟩
 | build T ps =>
  obtain⟨vs,I,h⟩:=aD.1 (show ob (sB σ ps.toList) _=some (g,H')from h)
  obtain⟨r,k,h⟩:=aD.1 h
  cases h
  exact⟨rfl,fK (Jy B (Am F I) k) (fun w v j=>by
   have e:(ps.toList.map fun p=>(p.1,a.eval p.2)).toArray=ps.map fun p=>(p.1,a.eval p.2):=by apply Array.toList_inj.1;simp
   rw[e]at j
   simp[execOp,j])⟩
 |nilCheck x=>
  obtain⟨v,q,h⟩:=aD.1 (show ob (i_ σ x) _=some (g,H')from h)
  obtain⟨r,k,h⟩:=aD.1 h
  cases h
  obtain⟨rfl,j⟩:=Mg (P:=P) (b_ F q) k
  exact⟨rfl,_,b_ F q,fun w=>j _ x a.eval rfl rfl w⟩
 | binOp N T x y T' =>
  obtain⟨v,q,h⟩:=aD.1 (show ob (i_ σ x) _=some (g,H')from h)
  obtain⟨u,A,h⟩:=aD.1 h
  obtain⟨r,k,h⟩:=aD.1 h
  cases h
  exact⟨rfl,fK (PU B x y (b_ F q) (b_ F A) k) (fun w v j=>by
   simp only[execOp]
   simp at j ⊢
   cases M:Sem.run P (eqGuard N T x y (a.eval x) (a.eval y)) w with
   |ok u w1=>rw[M]at j;simp at j;simp[j]
   |halt h1 w1=>rw[M]at j;cases j)⟩
 |unOp N T x=>
  obtain⟨v,q,h⟩:=aD.1 (show ob (i_ σ x) _=some (g,H')from h)
  obtain⟨r,k,h⟩:=aD.1 h
  cases h
  exact⟨rfl,fK (UO (b_ F q) k) (fun w v j=>by simp[execOp,j])⟩
 |convert S D x=>
  obtain⟨v,q,h⟩:=aD.1 (show ob (i_ σ x) _=some (g,H')from h)
  obtain⟨r,k,h⟩:=aD.1 h
  cases h
  exact⟨rfl,fK (MR B (b_ F q) k) (fun w v j=>by simp[execOp,j])⟩
 | makeFunc fn first caps =>
  cases fn with
  |func f=>
   obtain⟨us,U,h⟩:=aD.1 (show ob (Dt σ first.toList) _=some (g,H')from h)
   obtain⟨vs,I,h⟩:=aD.1 h
   cases h
   refine⟨rfl,_,Rl.fn' (Cs F U) (Cs F I),fun w=> ?_⟩
   have V:(first.toList.map a.eval).toArray=first.map a.eval:=by apply Array.toList_inj.1;simp
   have W:(caps.toList.map a.eval).toArray=caps.map a.eval:=by apply Array.toList_inj.1;simp
   rw[V,W]
   simp[execOp,Instr.makeFunc]
  |_=>cases h
 |fieldAddr T x f=>
  obtain⟨v,q,h⟩:=aD.1 (show ob (i_ σ x) _=some (g,H')from h)
  obtain⟨r,k,h⟩:=aD.1 h
  cases h
  exact⟨rfl,fK (Jz B (b_ F q) k) (fun w v j=>by simp[execOp,j])⟩
 |field T x f=>
  obtain⟨v,q,h⟩:=aD.1 (show ob (i_ σ x) _=some (g,H')from h)
  obtain⟨r,k,h⟩:=aD.1 h
  cases h
  exact⟨rfl,fK (MV B (b_ F q) k) (fun w v j=>by simp[execOp,j])⟩
 |indexAddr T x y=>
  obtain⟨v,q,h⟩:=aD.1 (show ob (i_ σ x) _=some (g,H')from h)
  obtain⟨u,A,h⟩:=aD.1 h
  obtain⟨r,k,h⟩:=aD.1 h
  cases h
  exact⟨rfl,fK (JA B (b_ F q) (b_ F A) k) (fun w v j=>by simp[execOp,j])⟩
 |index T x y=>
  obtain⟨v,q,h⟩:=aD.1 (show ob (i_ σ x) _=some (g,H')from h)
  obtain⟨u,A,h⟩:=aD.1 h
  obtain⟨r,k,h⟩:=aD.1 h
  cases h
  exact⟨rfl,fK (UE B (b_ F q) (b_ F A) k) (fun w v j=>by simp[execOp,j])⟩
 | slice T x lo hi mx =>
  cases mx with
  | none =>
   obtain⟨v,q,h⟩:=aD.1 (show ob (i_ σ x) _=some (g,H')from h)
   obtain⟨l,hl,h⟩:=aD.1 h
   obtain⟨e,Z,h⟩:=aD.1 h
   obtain⟨r,k,h⟩:=aD.1 h
   cases h
   have X:∀t,tb T=some t->Zh t.desc=none:=fun t R=>by
    have L:Uu tb T=true:=K
    unfold Uu at L
    rw[R]at L
    simp only at L
    cases M:t.desc<;>rw[M]at L<;>first|rfl|cases L
   exact⟨rfl,fK (JB (gs:=YX) B (.inr X) (b_ F q) (GA F hl) (GA F Z) k) (fun w v j=>by simp[execOp,j])⟩
  |some y=>cases h
 |extract x i=>
  obtain⟨v,q,h⟩:=aD.1 (show ob (i_ σ x) _=some (g,H')from h)
  obtain⟨r,k,h⟩:=aD.1 h
  cases h
  exact⟨rfl,fK (PW (b_ F q) k) (fun w v j=>by simp[execOp,j])⟩
 | call c =>
  obtain⟨O,xs,z⟩:=c
  cases O with
  |value f=>cases K
  |invoke x m=>cases K
  | builtin b =>
   have s:z.size=xs.size:=Nat.eq_of_beq_eq_true Q
   have h:NW tb xs z b σ H Gg=some (g,H'):=h
   cases b with
   | len =>
    obtain⟨x,J,h⟩:=AV (show HL xs.toList (QT tb z.toList) σ H Gg=some (g,H')from h)
    obtain⟨T,G,h⟩:=aD.1 (show ob (EI z.toList 0) _=some (g,H')from h)
    obtain⟨v,q,h⟩:=aD.1 h
    obtain⟨r,k,h⟩:=aD.1 h
    cases h
    have E:=GM J
    subst E
    have C:z = #[T]:=by
     rw[sC]at G
     obtain⟨l⟩:=z
     match l,s with
     | [t],_=>simp at G;subst G;rfl
    subst C
    exact⟨rfl,fK (PX B (ty:=ty) (b_ F q) k) (fun w v j=>by simp[execOp,resolve,invoke,builtin,j])⟩
   | cap =>
    obtain⟨x,J,h⟩:=AV (show HL xs.toList (QS tb z.toList) σ H Gg=some (g,H')from h)
    obtain⟨T,G,h⟩:=aD.1 (show ob (EI z.toList 0) _=some (g,H')from h)
    obtain⟨v,q,h⟩:=aD.1 h
    obtain⟨r,k,h⟩:=aD.1 h
    cases h
    have E:=GM J
    subst E
    have C:z = #[T]:=by
     rw[sC]at G
     obtain⟨l⟩:=z
     match l,s with
     | [t],_=>simp at G;subst G;rfl
    subst C
    exact⟨rfl,fK (PV B (ty:=ty) (b_ F q) k) (fun w v j=>by simp[execOp,resolve,invoke,builtin,j])⟩
   | max =>
    obtain⟨x,y,J,h⟩:=vZ (show BM xs.toList (fun x y=>k2 x y UM) σ H Gg=some (g,H')from h)
    obtain⟨v,q,h⟩:=aD.1 (show ob (i_ σ x) _=some (g,H')from h)
    obtain⟨u,A,h⟩:=aD.1 h
    obtain⟨r,k,h⟩:=aD.1 h
    cases h
    have E:=CF J
    subst E
    obtain⟨t1,t2,C⟩:∃t1 t2,z = #[t1,t2]:=by
     obtain⟨l⟩:=z
     match l,s with
     | [t,t'],_=>exact⟨t,t',rfl⟩
    subst C
    exact⟨rfl,fK (P_ (t1:=t1) (t2:=t2) (ty:=ty) (b_ F q) (b_ F A) k) (fun w v j=>by simp[execOp,resolve,invoke,builtin,j])⟩
   | min =>
    obtain⟨x,y,J,h⟩:=vZ (show BM xs.toList (fun x y=>k2 x y UN) σ H Gg=some (g,H')from h)
    obtain⟨v,q,h⟩:=aD.1 (show ob (i_ σ x) _=some (g,H')from h)
    obtain⟨u,A,h⟩:=aD.1 h
    obtain⟨r,k,h⟩:=aD.1 h
    cases h
    have E:=CF J
    subst E
    obtain⟨t1,t2,C⟩:∃t1 t2,z = #[t1,t2]:=by
     obtain⟨l⟩:=z
     match l,s with
     | [t,t'],_=>exact⟨t,t',rfl⟩
    subst C
    exact⟨rfl,fK (Qa (t1:=t1) (t2:=t2) (ty:=ty) (b_ F q) (b_ F A) k) (fun w v j=>by simp[execOp,resolve,invoke,builtin,j])⟩
   |_=>cases K
 |_=>cases K
theorem MQ (hG:eK P tb) {T:TypeId} {n:Nat} {l:List (Nat×GV)} {parts:List (Nat×Value)} {ρ:dH} {H H':GH} {g:GV} (hp:Zp ρ l parts) (h:CG tb T n l H=some (g,H')):
  ∃cs a' T' len sz,H'=H.new (.cells cs)∧g = .sl H.n 0 len sz∧Qm ρ cs a'∧cs.length=a'.size∧∀w:World,∃V,(Instr.buildSlice T n parts.toArray).run P w = .ok V (w.alloc (.cells a' T'))∧∀ρ':dH,ρ' H.n=some ⟨w.heap.size,0,a'.size,.cells a' T',.cells cs⟩->Rl ρ' g V:=by
 obtain⟨te,hte,h⟩:=aD.1 (show ob (yF tb T) _=some (g,H')from h)
 obtain⟨zc,hz,h⟩:=aD.1 h
 obtain⟨hlen,h⟩:=bI.1 h
 obtain⟨hbig,h⟩:=bI.1 h
 obtain⟨h0,h⟩:=jL.1 h
 obtain⟨cs,hfill,h⟩:=aD.1 h
 rw[gT]at h;cases h
 obtain⟨⟨d,hd,hde⟩,hE,htab⟩:=vV hG hte
 obtain⟨dz,hdz,_,hC⟩:=tZ (ρ:=ρ) hG hz
 rw[htab]at hdz;cases hdz
 have hlen:zc.length=te.2.size:=Nat.eq_of_beq_eq_true hlen
 have h0:te.2.size≠0:=fun e=>by rw[e]at h0;cases h0
 have hbig:n*te.2.size<16777216:=by simpa [Nat.blt_eq]using hbig
 have hrep:=GI hC (by omega) n
 rw[hlen]at hrep
 obtain⟨a',f1,f2⟩:=Ct hp hrep hfill
 have hsz0:cs.length=a'.size:=by have:=f2.r.len;simpa using this
 have hsz:a'.size=n*te.2.size:=by
  have e1:=f2.r.len
  have:cs.length=(Ni zc n).length:=Du hfill
  rw[this,En,hlen]at e1
  simp at e1;omega
 refine⟨cs,a',te.1,n,te.2.size,rfl,rfl,f2,hsz0,fun w=>⟨.slice (some ⟨w.heap.size,0,none⟩) n n,?_,fun ρ' hρ=> .sl (l:=⟨w.heap.size,0,a'.size,.cells a' te.1,.cells cs⟩) hρ (Nat.le_refl _) (.inr ⟨rfl,by simp[hsz]⟩)⟩⟩
 have hu:=hd.run_und w
 rw[hde]at hu
 by_cases hn:n*te.2.size=0
 ·have hz0:n=0:=by rcases Nat.mul_eq_zero.1 hn with h|h;exact h;exact absurd h h0
  subst hz0
  have e0:(Array.range (0*te.2.size)).map (te.2.zero.cells[· % te.2.zero.cells.size]!)=(#[]:Array Value):=by simp
  rw[e0]at f1
  have e1:(Array.range 0).map (fun _=>(default:Value)) = #[]:=by simp
  simp[Instr.buildSlice,hu,hE.run_size w,newRow]
  simp[e1,f1]
 ·simp[Instr.buildSlice,hu,hE.run_size w,hE.run_zero w,hn,f1,newRow,show¬(16777216<n*te.2.size) by omega]

theorem Sc {t u w:dH} (x:∀h A l,t h=some A->u h=some l->w h=some l) {g:GV} {v:Value} (D:Rl u g v):∀{r:Value},Rl t g r->Rl w g v:=by
 induction D with
 |int k n=>exact fun _=> .int k n
 |bool b=>exact fun _=> .bool b
 |str s=>exact fun _=> .str s
 |ptr y q=>exact fun j=>by cases j with|ptr _ m=>exact .ptr y (x _ _ _ m q)
 |pnil=>exact fun _=> .pnil
 |sl q hc E=>exact fun j=>by cases j with|sl m _ _=>exact .sl (x _ _ _ m q) hc E
 |snil=>exact fun _=> .snil
 |map q=>exact fun j=>by cases j with|map m=>exact .map (x _ _ _ m q)
 | fn f a b c d ihb ihd =>
   intro r j
   cases j with
   | fn _ z p B C =>
    refine .fn f a (fun i g v e o=> ?_) c (fun i g v e o=> ?_)
    ·have:=bA e
     exact ihb i g v e o (p i g _ e (List.getElem?_eq_getElem (by omega)))
    ·have:=bA e
     exact ihd i g v e o (C i g _ e (List.getElem?_eq_getElem (by omega)))
 |fnil=>exact fun _=> .fnil
 |inil=>exact fun _=> .inil
 | agg a b c ihb =>
   intro r j
   cases j with
   |agg z p B=>
    refine .agg a (fun i g v e o=> ?_) c
    have:=bA e
    exact ihb i g v e o (p i g _ e (List.getElem?_eq_getElem (by omega)))
 | tup a b ihb =>
   intro r j
   cases j with
   |tup z p=>
    refine .tup a (fun i g v e o=> ?_)
    have:=bA e
    exact ihb i g v e o (p i g _ e (List.getElem?_eq_getElem (by omega)))
 |un=>exact fun _=> .un
 |bad v=>exact fun _=> .bad v
 | opn v h hx =>
   intro r j
   obtain⟨A,a,_⟩:=j.opn_inv
   exact .opn v (x _ _ _ a h) hx

structure Xa (tb:TB) (ih:CH) (all l:List Oper) (S:Nat->GF) (HH:Nat->GH) (gg:Nat->GV):Prop where
 st:∀i o,l[i]? = some o->CM tb ih all o (S i) (HH i)=some (gg i,HH (i+1))
 up:∀i o,l[i]? = some o->S (i+1)=putD o.dst (gg i) (S i)
theorem Jc {d:CH} {all:List Oper} {k:GS->RS} {b:Lj}:∀(l:List Oper) (s:GS),CW tb d all k l s=some b->∃S c e,S 0=s.σ∧c 0=s.H∧Xa tb d all l S c e∧k ⟨S l.length,c l.length⟩=some b
 | [],s,h=>⟨fun _=>s.σ,fun _=>s.H,fun _=> .un,rfl,rfl,⟨fun i o a=>by simp at a,fun i o a=>by simp at a⟩,h⟩
 | o :: l, s, h => by
  obtain⟨g,H',p,q⟩:=Cr (show HA tb d all o (CW tb d all k l) s=some b from h)
  obtain⟨S,c,e,m,n,j,r⟩:=Jc l _ q
  refine⟨fun i=>Nat.casesOn i s.σ S,fun i=>Nat.casesOn i s.H c,fun i=>Nat.casesOn i g e,rfl,rfl,⟨fun i f a=> ?_,fun i f a=> ?_⟩,r⟩
  ·cases i with
   |zero=>simp at a;subst a;show CM tb d all o s.σ s.H=some (g,c 0);rw[p,n]
   |succ i=>exact j.st i f (by simpa using a)
  ·cases i with
   |zero=>simp at a;subst a;exact m
   |succ i=>exact j.up i f (by simpa using a)
theorem v_ {o:Op} (h:kZ o=true):dX o=false:=by
 cases o<;>first|rfl|cases h
structure Vrs (all l:List Oper) (m:List Nat) (i:Nat) (S:Nat->GF) (HH:Nat->GH) (pr:List (Nat×Option (Nat×Nat))) (hs:List (Nat×GH)):Prop where
 pr:∀q h v,(q,some (h,v))∈pr->∀j oj,l[j]? = some oj->dX oj.op=true->before m (i+j) q=false->(HH (j+1)).ver h=some v
 hs:∀k ok h,l[k]? = some ok->kZ ok.op=true->Ws (S k) ok.op=some h->∃v,(HH k).ver h=some v∧∀q Hq,(q,Hq)∈hs->before m (i+k) q=false->Hq.ver h=some v
 lo:∀k ok h v,l[k]? = some ok->kZ ok.op=true->Ws (S k) ok.op=some h->(HH k).ver h=some v->
  (∀j oj,j<k->l[j]? = some oj->dX oj.op=true->before m (i+k) (i+j)=false->(HH j).ver h=some v)∧(∀j oj,k<j->l[j]? = some oj->dX oj.op=true->before m (i+j) (i+k)=false->(HH (j+1)).ver h=some v)
theorem Vrs.cons {all l:List Oper} {m:List Nat} {i:Nat} {S:Nat->GF} {B:Nat->GH} {G x:List (Nat×Option (Nat×Nat))} {F u:List (Nat×GH)} {o:Oper} {σ:GF} {H:GH} (V:Vrs all l m (i+1) S B x u)
  (E:∀p∈G,p∈x) (C:∀p∈F,p∈u) (I:dX o.op=true->(i,H)∈u∧∀p∈G,before m i p.1=false->∀d,p.2=some d->(B 0).ver d.1=some d.2)
  (J:kZ o.op=true->∀h,Ws σ o.op=some h->∃v,H.ver h=some v∧(i,some (h,v))∈x∧∀q y,(q,y)∈F->before m i q=false->y.ver h=some v):
  Vrs all (o::l) m i (fun j=>Nat.casesOn j σ S) (fun j=>Nat.casesOn j H B) G F:=by
 have e:∀j,i+(j+1)=i+1+j:=fun j=>by omega
 refine⟨fun q h v z j w g s f=> ?_,fun k A h n s t=> ?_,fun k A h v n s t d=>⟨fun j w D g r f=> ?_,fun j w D g r f=> ?_⟩⟩
 ·cases j with
  |zero=>simp at g;subst g;exact(I s).2 _ z (by simpa using f) _ rfl
  |succ j=>exact V.pr q h v (E _ z) j w (by simpa using g) s (by rw[<-e];exact f)
 ·cases k with
  |zero=>
   simp at n;subst n
   obtain⟨v,a,_,c⟩:=J s h t
   exact⟨v,a,fun q y z f=>c q y z (by simpa using f)⟩
  |succ k=>
   obtain⟨v,a,b⟩:=V.hs k A h (by simpa using n) s t
   exact⟨v,a,fun q y z f=>b q y (C _ z) (by rw[<-e];exact f)⟩
 ·cases k with
  |zero=>omega
  | succ k =>
   have n:l[k]? = some A:=by simpa using n
   cases j with
   |zero=>
    simp at g;subst g
    obtain⟨K,a,b⟩:=V.hs k A h n s t
    have a:(B k).ver h=some K:=a
    have d:(B k).ver h=some v:=d
    rw[a]at d;cases d
    exact b i H (I r).1 (by rw[<-e];simpa using f)
   |succ j=>exact(V.lo k A h v n s t d).1 j w (by omega) (by simpa using g) r (by rw[<-e,<-e];exact f)
 ·cases j with
  |zero=>omega
  | succ j =>
   have g:l[j]? = some w:=by simpa using g
   cases k with
   |zero=>
    simp at n;subst n
    obtain⟨K,a,b,_⟩:=J s h t
    have d:H.ver h=some v:=d
    rw[a]at d;cases d
    exact V.pr i h v b j w g r (by rw[<-e];simpa using f)
   |succ k=>exact(V.lo k A h v (by simpa using n) s t d).2 j w (by omega) g r (by rw[<-e,<-e];exact f)
theorem Gy {x:CH} {all:List Oper} {m:List Nat} {k:GS->RS} {A:Lj}:∀(l:List Oper) (i:Nat) (I:List (Nat×Option (Nat×Nat))) (C:List (Nat×GH)) (s:GS),Zt tb x all m k l i I C s=some A->
  ∃S a r,S 0=s.σ∧a 0=s.H∧Xa tb x all l S a r∧Vrs all l m i S a I C∧k ⟨S l.length,a l.length⟩=some A
 | [],i,I,C,s,h=>⟨fun _=>s.σ,fun _=>s.H,fun _=> .un,rfl,rfl,⟨fun i o d=>by simp at d,fun i o d=>by simp at d⟩,⟨fun _ _ _ _ j X U=>by simp at U,fun k W h f=>by simp at f,fun k W h v f=>by simp at f⟩,h⟩
 | o :: l, i, I, C, s, h => by
  have t:Tn tb x all m o (Zt tb x all m k l) i I C s=some A:=h
  have B:∀{g:GV} {H':GH} {S:Nat->GF} {a:Nat->GH} {r:Nat->GV},CM tb x all o s.σ s.H=some (g,H')->S 0=putD o.dst g s.σ->a 0=H'->Xa tb x all l S a r->Xa tb x all (o::l) (fun j=>Nat.casesOn j s.σ S) (fun j=>Nat.casesOn j s.H a) (fun j=>Nat.casesOn j g r):=fun {g H' S a r} z y n w=>⟨fun i N d=>by
    cases i with
    |zero=>simp at d;subst d;show CM tb x all o s.σ s.H=some (g,a 0);rw[z,n]
    |succ i=>exact w.st i N (by simpa using d),fun i N d=>by
    cases i with
    |zero=>simp at d;subst d;exact y
    |succ i=>exact w.up i N (by simpa using d)⟩
  unfold Tn at t
  cases b:dX o.op with
  |true=>
   rw[b]at t
   obtain⟨g,H',z,D⟩:=Cr t
   obtain⟨_,u,J⟩:=aD.1 D
   have u:=BE u
   obtain⟨S,a,r,y,n,w,G,f⟩:=Gy l _ _ _ _ J
   refine⟨_,_,_,rfl,rfl,B z y n w,G.cons (fun _ h=>h) (fun p F=>List.mem_cons_of_mem _ F) (fun _=>⟨List.mem_cons_self,fun p F K L T=>by rw[n];exact u p F K L T⟩) (fun c=>by rw[v_ c]at b;cases b),f⟩
  | false =>
   rw[b]at t
   cases c:kZ o.op with
   |true=>
    simp only[c]at t
    obtain⟨g,H',z,D⟩:=Cr t
    obtain⟨e,u,J⟩:=aD.1 D
    obtain⟨S,a,r,y,n,w,G,f⟩:=Gy l _ _ _ _ J
    refine⟨_,_,_,rfl,rfl,B z y n w,G.cons (fun p F=>List.mem_cons_of_mem _ F) (fun _ h=>h) (fun h=>by rw[b]at h;cases h) (fun _ O E=> ?_),f⟩
    rw[E]at u
    obtain⟨v,M,u⟩:=aD.1 (show ob (s.H.ver O) (fun v=>Hs m i O v C)=some e from u)
    obtain⟨rfl,R⟩:=BF u
    exact⟨v,M,List.mem_cons_self,fun q Q V K=>R (q,Q) V K⟩
   |false=>
    simp only[c]at t
    obtain⟨g,H',z,D⟩:=Cr t
    obtain⟨S,a,r,y,n,w,G,f⟩:=Gy l _ _ _ _ D
    exact⟨_,_,_,rfl,rfl,B z y n w,G.cons (fun _ h=>h) (fun _ h=>h) (fun h=>by rw[b]at h;cases h) (fun h=>by rw[c]at h;cases h),f⟩
theorem Tm {m:CH} (p:eK P tb) (k:qM P w0 m) {all:List Oper} {n:Nat} {o:Oper} {σ:GF} {H H':GH} {g:GV} {ρ:dH} {a:Act} {w:World} (l:Fo n o=true) (F:jQ ρ n σ a) (R:eT w0 ρ H w) (h:CM tb m all o σ H=some (g,H')):
  ∃b e w',ρ.le b∧eT w0 b H' w'∧jQ b n (putD o.dst g σ) e:=by
 obtain⟨_,c,_⟩:=rS l
 rcases Gw p k l F R h with⟨_,r⟩|⟨_,rfl,rfl⟩
 ·rcases r with⟨_,_,_,rfl,v,d,_⟩|⟨_,_,rfl,v,_,_,_,_,_,d,_⟩|⟨_,_,rfl,v,d,_⟩|⟨_,q⟩
  ·exact⟨ρ,_,w,dH.le_refl _,R,F.putD c d⟩
  ·exact⟨ρ,_,w,dH.le_refl _,R,F.putD c d⟩
  ·exact⟨ρ,_,w,dH.le_refl _,R,F.putD c d⟩
  ·obtain⟨e,w',b,v,f,i,j,rfl⟩:=Mj (q (fun e w'=>∃b v,ρ.le b∧eT w0 b H' w'∧Rl b g v∧e=a.put o.dst v) fun b w' v f i j=>⟨b,v,f,i,j,rfl⟩)
   exact⟨b,_,w',f,i,(F.le f).putD c j⟩
 ·exact⟨ρ,_,w,dH.le_refl _,R,F.putD c .un⟩
theorem Jv {ih:CH} (hG:eK P tb) (hih:qM P w0 ih) {all:List Oper} {n:Nat} (hall:all.all (Fo n)=true) {S:Nat->GF} {HH:Nat->GH} {gg:Nat->GV} (T:Xa tb ih all all S HH gg) {ρ:dH} {a:Act} {w:World} (F:jQ ρ n (S 0) a) (R:eT w0 ρ (HH 0) w):
    ∀m,m<=all.length->∃ρs:Nat->dH,(∀i,i<=m->∃a w,eT w0 (ρs i) (HH i) w∧jQ (ρs i) n (S i) a)∧∀i,i<m->(ρs i).le (ρs (i+1))
  | 0, _ => ⟨fun _ => ρ, fun i hi => by have : i = 0 := by omega
                                        subst this;exact⟨a,w,R,F⟩,fun i hi=>by omega⟩
  | m + 1, hm => by
    obtain⟨ρs,h1,h2⟩:=Jv hG hih hall T F R m (by omega)
    obtain⟨a1,w1,R1,F1⟩:=h1 m (Nat.le_refl _)
    have hget:all[m]? = some all[m]:=List.getElem?_eq_getElem (by omega)
    obtain⟨ρ2,a2,w2,hle,h3,h4⟩:=Tm hG hih (List.all_eq_true.1 hall _ (List.getElem_mem (by omega))) F1 R1 (T.st m _ hget)
    refine⟨fun i=>if i<=m then ρs i else ρ2,fun i hi=> ?_,fun i hi=> ?_⟩
    · by_cases e:i<=m
      · simp only[e,if_true];exact h1 i e
      · have:i=m+1:=by omega
        subst this
        simp only[e,if_false]
        exact⟨a2,w2,h3,by rw[T.up m _ hget];exact h4⟩
    · by_cases e:i+1<=m
      · simp only[e,show i<=m by omega,if_true];exact h2 i (by omega)
      · have:i=m:=by omega
        subst this
        simp only[e,Nat.le_refl,if_true,if_false];exact hle
theorem MM {a:Nat->GH} {m:Nat} (b:∀i,i<m->(a i).n<=(a (i+1)).n) {i:Nat}:∀{j:Nat},i<=j->j<=m->(a i).n<=(a j).n
  | 0, h, _ => by have : i = 0 := by omega
                  subst this;exact Nat.le_refl _
  | j + 1, h, hj => by
    by_cases e:i=j+1
    · subst e;exact Nat.le_refl _
    · exact Nat.le_trans (MM b (by omega) (by omega)) (b j (by omega))
theorem Io {v:CH} {all:List Oper} {S:Nat->GF} {s:Nat->GH} {m:Nat->GV} (T:Xa tb v all all S s m) {t:Nat} {g:GV}:∀k,k<=all.length->CN (S k) t=some g->
  (∃i o,i<k∧all[i]? = some o∧o.dst=some t∧m i=g∧∀j a,i<j->j<k->all[j]? = some a->a.dst≠some t)∨((∀j a,j<k->all[j]? = some a->a.dst≠some t)∧CN (S 0) t=some g)
 |0,_,h=> .inr ⟨fun j a r=>by omega,h⟩
 | k + 1, hk, h => by
  have c:all[k]? = some all[k]:=List.getElem?_eq_getElem (by omega)
  rw[T.up k _ c]at h
  have old:all[k].dst≠some t->CN (S k) t=some g->_:=fun l h=>
   match Io T k (by omega) h with
   | .inl ⟨i, o, p, n, h3, h4, h5⟩ => (.inl ⟨i, o, by omega, n, h3, h4, fun j a q r b => by
     by_cases e:j=k
     ·subst e;rw[c]at b;cases b;exact l
     ·exact h5 j a q (by omega) b⟩:(∃i o,i<k+1∧all[i]? = some o∧o.dst=some t∧m i=g∧∀j a,i<j->j<k+1->all[j]? = some a->a.dst≠some t)∨((∀j a,j<k+1->all[j]? = some a->a.dst≠some t)∧CN (S 0) t=some g))
   | .inr ⟨p, n⟩ => .inr ⟨fun j a r b => by
     by_cases e:j=k
     ·subst e;rw[c]at b;cases b;exact l
     ·exact p j a (by omega) b,n⟩
  cases f:all[k].dst with
  |none=>
   rw[f]at h
   exact old (by rw[f];simp) h
  | some d =>
   rw[f]at h
   have h:CN ((d,m k)::S k) t=some g:=h
   rw[yG]at h
   by_cases e:t=d
   ·subst e
    rw[if_pos rfl]at h;cases h
    exact .inl ⟨k,_,by omega,c,f,rfl,fun j a p n=>by omega⟩
   ·rw[if_neg e]at h
    exact old (by rw[f];intro u;cases u;exact e rfl) h

def lS (o:Op):Bool:=dX o && !isFloat o
def FW (tb:TB) (x o:Op):Bool:=pureOp tb x||pureOp tb o||isFloat o||(!dX x && !dX o)||(kZ x&&dX o)||(lS x&&kZ o)
def chkF (tb:TB) (l:List Oper) (m:List Nat):Bool:=
 (List.range l.length).all fun i=>match l[i]? with
  |none=>false
  |some o=>
   (rV o).all (fun e=>Nat.blt e i&&before m i e&&(List.range i).all (fun k=> !before m e k||before m i k)) &&
   (List.range l.length).all (fun k=> !before m i k||(Nat.blt k i&&(rV o).any (fun e=>Nat.beq e k||before m e k))) &&
   !An o.op &&
   (List.range i).all (fun x=>before m i x||(match l[x]? with|none=>false|some a=>a.apart l.toArray o&&FW tb a.op o.op))
structure Ry (tb:TB) (l:List Oper) (m:List Nat):Prop where
 edge:∀(i:Nat) (o:Oper),l[i]? = some o->∀e∈rV o,e<i∧before m i e=true
 trans:∀(i:Nat) (o:Oper),l[i]? = some o->∀k,before m i k=true->k<l.length->k<i∧∃e∈rV o,e=k∨before m e k=true
 ind:∀(i x:Nat) (oi ox:Oper),l[i]? = some oi->l[x]? = some ox->x<i->before m i x=false->ox.apart l.toArray oi=true∧FW tb ox.op oi.op=true
theorem EY {l:List Oper} {m:List Nat} (h:chkF tb l m=true):Ry tb l m:=by
 have b:∀(i:Nat) (o:Oper),l[i]? = some o->
   ((rV o).all (fun e=>Nat.blt e i&&before m i e&&(List.range i).all (fun k=> !before m e k||before m i k))=true)∧
   ((List.range l.length).all (fun k=> !before m i k||(Nat.blt k i&&(rV o).any (fun e=>Nat.beq e k||before m e k)))=true)∧An o.op=false∧
   ((List.range i).all (fun x=>before m i x||(match l[x]? with|none=>false|some g=>g.apart l.toArray o&&FW tb g.op o.op))=true):=by
  intro i o c
  have:=List.all_eq_true.1 h i (List.mem_range.2 (bA c))
  simp only[c,Bool.and_eq_true,Bool.not_eq_true']at this
  exact⟨this.1.1.1,this.1.1.2,this.1.2,this.2⟩
 refine⟨?_,?_,?_⟩
 ·intro i o c e f
  have:=List.all_eq_true.1 (b i o c).1 e f
  simp only[Bool.and_eq_true,Nat.blt_eq]at this
  exact⟨this.1.1,this.1.2⟩
 ·intro i o c k q a
  have:=List.all_eq_true.1 (b i o c).2.1 k (List.mem_range.2 a)
  simp only[q,Bool.not_true,Bool.false_or,Bool.and_eq_true,Nat.blt_eq,List.any_eq_true,Bool.or_eq_true]at this
  obtain⟨j,e,f,d⟩:=this
  refine⟨j,e,f,?_⟩
  rcases d with d|d
  ·exact .inl (Nat.eq_of_beq_eq_true d)
  ·exact .inr d
 ·intro i x s g p r a n
  have:=(b i s p).2.2.2
  have:=List.all_eq_true.1 this x (List.mem_range.2 a)
  simp only[n,Bool.false_or,r,Bool.and_eq_true]at this
  exact this

theorem Jg {M:CH} (A:eK P tb) {all:List Oper} {n:Nat} {o:Oper} {σ:GF} {H H':GH} {g:GV} {ρ:dH} {a:Act} (J:isFloat o.op=true) (F:jQ ρ n σ a) (h:CM tb M all o σ H=some (g,H')):
  (Region.wanted o (yielded all.toArray a.tmps)=false∧g = .un∧H'=H)∨
  (Region.wanted o (yielded all.toArray a.tmps)=true∧∃cs f T',H'=H.new (.cells cs)∧Qm ρ cs f∧cs.length=f.size∧∀w:World,∃V,(execOp a.eval o).run P w = .ok (.value V) (w.alloc (.cells f T'))∧∀c:dH,c H.n=some ⟨w.heap.size,0,f.size,.cells f T',.cells cs⟩->Rl c g V):=by
 rcases Cq F h with⟨K,b⟩|h
 ·refine .inr ⟨K,?_⟩
  obtain⟨d,N,ty,pos,aft,O⟩:=o
  cases N with
  |buildSlice T m ps=>
   obtain⟨vs,u,b⟩:=aD.1 (show ob (sB σ ps.toList) _=some (g,H')from b)
   obtain⟨y,j,b,k⟩:=lR b
   cases k
   obtain⟨cs,f,T',len,S,s,Q,D,E,G⟩:=MQ (P:=P) A (Am F u) b
   refine⟨cs,f,T',s,D,E,fun w=> ?_⟩
   obtain⟨V,q,t⟩:=G w
   refine⟨V,?_,t⟩
   have e:(ps.toList.map fun p=>(p.1,a.eval p.2)).toArray=ps.map fun p=>(p.1,a.eval p.2):=by apply Array.toList_inj.1;simp
   rw[e]at q
   simp[execOp,q]
  |alloc T=>
   obtain⟨y,j,b,k⟩:=lR (show kS (u_ tb T H) Gg=some (g,H')from b)
   cases k
   obtain⟨C,L,b⟩:=aD.1 (show ob (Ac tb T) _=some (g,H')from b)
   rw[gT]at b;cases b
   obtain⟨d,R,I,z⟩:=tZ (ρ:=ρ) A L
   refine⟨C,d.zero.cells,T,rfl,z,by have:=z.r.len;simpa using this,fun w=>⟨_,?_,fun c i=> .ptr (l:=⟨w.heap.size,0,d.zero.cells.size,.cells d.zero.cells T,.cells C⟩) 0 i⟩⟩
   simp[execOp,Fu w I]
  |box T x=>
   obtain⟨v,t,b⟩:=aD.1 (show ob (i_ σ x) (fun v=>kS (Ox v H) Gg)=some (g,H')from b)
   obtain⟨y,j,b,k⟩:=lR b
   cases k
   obtain⟨B,hc,b⟩:=aD.1 (show ob v.cells _=some (g,H')from b)
   rw[gT]at b;cases b
   obtain⟨vs,e,q,s⟩:=(b_ F t).cells hc
   refine⟨B,(a.eval x).cells,T,rfl,by rw[e];exact⟨q,s⟩,by rw[e];have:=q.len;simpa using this,fun w=>⟨_,?_,fun c i=> .ptr (l:=⟨w.heap.size,0,(a.eval x).cells.size,.cells (a.eval x).cells T,.cells B⟩) 0 i⟩⟩
   simp[execOp,Instr.box,newVar,newRow]
  |_=>cases J
 ·exact .inl h
end
end
section
def DJ (ρ a:dH):dH:=fun h=>match ρ h with
 |some l=>some l
 |none=>a h
theorem uK {ρ a:dH} {h:Nat} {l:IM} (e:ρ h=some l):DJ ρ a h=some l:=by simp[DJ,e]
theorem uJ {ρ a:dH} {h:Nat} (e:ρ h=none):DJ ρ a h=a h:=by simp[DJ,e]
theorem Ej {ρ a:dH}:ρ.le (DJ ρ a):=fun _ _ e=>uK e
def ZN (all:List Oper) (b:GF) (c:Nat->GV) (D:Nat->Bool) (t:Nat) (g:GV):Prop:=
 (∃i o,D i=true∧all[i]? = some o∧o.dst=some t∧c i=g∧∀j a,D j=true->all[j]? = some a->a.dst=some t->j<=i)∨((∀j a,D j=true->all[j]? = some a->a.dst≠some t)∧CN b t=some g)
def ins (D:Nat->Bool) (k:Nat):Nat->Bool:=fun j=>j==k||D j
theorem yJ (D:Nat->Bool) (k:Nat):ins D k k=true:=by simp[ins]
theorem xI {D:Nat->Bool} {k j:Nat} (h:j≠k):ins D k j=D j:=by simp[ins,h]
theorem yI {D:Nat->Bool} {k j:Nat} (h:D j=true):ins D k j=true:=by simp[ins,h]
noncomputable def Bh (σ:GF) (L:gJ):GF:=L.filterMap fun t=>(CN σ t).map fun g=>(t,g)
theorem Al {σ:GF} {t:Nat}:∀{L:gJ},CN (Bh σ L) t=if t∈L then CN σ t else none
 | []=>rfl
 | x :: L => by
  have c:=Al (σ:=σ) (t:=t) (L:=L)
  cases b:CN σ x with
  |none=>
   have e:Bh σ (x::L)=Bh σ L:=by simp[Bh,b]
   rw[e,c]
   by_cases a:t=x
   ·subst a;simp[b]
   ·simp[a]
  |some g=>
   have e:Bh σ (x::L)=(x,g)::Bh σ L:=by simp[Bh,b]
   rw[e,yG,c]
   by_cases a:t=x
   ·subst a;simp[b]
   ·simp[a]
section
variable {P:Program} {tb:TB} {gs:wT} {w0:eD gs} {ih:CH} {all:List Oper} {n:Nat} {S:Nat->GF} {HH:Nat->GH} {gg:Nat->GV}
structure tQ (P:Program) (tb:TB) {gs:wT} (w0:eD gs) (ih:CH) (all:List Oper) (n:Nat) (S:Nat->GF) (HH:Nat->GH) (gg:Nat->GV):Prop where
 tab:eK P tb
 call:∀w0:eD gs,qM P w0 ih
 ops:all.all (Fo n)=true
 chk:Ry tb all (nP all)
 trc:Xa tb ih all all S HH gg
 vrs:∀k ok h v,all[k]? = some ok->kZ ok.op=true->Ws (S k) ok.op=some h->(HH k).ver h=some v->
  (∀j oj,j<k->all[j]? = some oj->dX oj.op=true->before (nP all) k j=false->(HH j).ver h=some v)∧(∀j oj,k<j->all[j]? = some oj->dX oj.op=true->before (nP all) j k=false->(HH (j+1)).ver h=some v)
 chain:∃ρs:Nat->dH,(∀i,i<=all.length->∃a w,eT w0 (ρs i) (HH i) w∧jQ (ρs i) n (S i) a)∧∀i,i<all.length->(ρs i).le (ρs (i+1))
theorem tQ.ghost (E:tQ P tb w0 ih all n S HH gg) (i:Nat) (b:i<=all.length):∃ρ a w,eT w0 ρ (HH i) w∧jQ ρ n (S i) a:=
 let ⟨ρs,h,_⟩:=E.chain
 ⟨ρs i,h i b⟩
theorem tQ.mono (E:tQ P tb w0 ih all n S HH gg) (i:Nat) (a:i<all.length):(HH i).n<=(HH (i+1)).n:=by
 obtain⟨e,h,b⟩:=E.chain
 obtain⟨_,_,c,_⟩:=h i (Nat.le_of_lt a)
 obtain⟨_,_,d,_⟩:=h (i+1) a
 exact c.mono d (b i a)
theorem LN {a:Nat->dH} {m:Nat} (h:∀i,i<m->(a i).le (a (i+1))) {i:Nat}:∀{j:Nat},i<=j->j<=m->(a i).le (a j)
  | 0, h1, _ => by have : i = 0 := by omega
                   subst this;exact dH.le_refl _
  | j + 1, h1, hj => by
    by_cases e:i=j+1
    · subst e;exact dH.le_refl _
    · exact dH.le_trans (LN h (by omega) (by omega)) (h j (by omega))
theorem tQ.same (E:tQ P tb w0 ih all n S HH gg) {i j:Nat} (b:i<=j) (u:j<=all.length) {h v:Nat} (q:(HH i).ver h=some v) (r:(HH j).ver h=some v):(HH i).get h=(HH j).get h:=by
 obtain⟨I,s,e⟩:=E.chain
 have hc:=LN e b u
 obtain⟨_,J,l,_⟩:=s i (by omega)
 obtain⟨_,K,m,_⟩:=s j u
 have a:∀{k:Nat},(HH k).ver h=some v->∃o,(HH k).get h=some o:=fun {k} hv=>by
  obtain⟨p,A,_⟩:=aD.1 (show ob ((HH k).t.get h) _=some v from hv)
  exact⟨p.2,by unfold GH.get;rw[A];rfl⟩
 obtain⟨G,f⟩:=a q
 obtain⟨H,g⟩:=a r
 obtain⟨B,c,_⟩:=l.live h G f
 obtain⟨C,d,_⟩:=m.live h H g
 obtain⟨D,w,_,y⟩:=l.vers h v B q c
 obtain⟨F,x,_,z⟩:=m.vers h v C r d
 have:=hc _ _ w
 rw[x]at this;cases this
 rw[y,z]
theorem tQ.op (E:tQ P tb w0 ih all n S HH gg) {k:Nat} {o:Oper} (a:all[k]? = some o):Fo n o=true:=List.all_eq_true.1 E.ops o (List.mem_of_getElem? a)
theorem tQ.quiet (E:tQ P tb w0 ih all n S HH gg) {k:Nat} {o:Oper} (b:all[k]? = some o) (c:dX o.op=false):HH (k+1)=HH k:=by
 obtain⟨ρ,a,w,R,F⟩:=E.ghost k (Nat.le_of_lt (bA b))
 rcases Gw E.tab (E.call w0) (E.op b) F R (E.trc.st k o b)with⟨_,d⟩|⟨_,_,h⟩
 ·rcases d with⟨_,_,_,h,_⟩|⟨_,_,h,_⟩|⟨_,_,h,_⟩|⟨h,_⟩
  ·exact h
  ·exact h
  ·exact h
  ·rw[c]at h;cases h
 ·exact h
theorem tQ.floats (E:tQ P tb w0 ih all n S HH gg) {k:Nat} {o:Oper} (b:all[k]? = some o) (c:isFloat o.op=true):HH (k+1)=HH k∨∃cs,HH (k+1)=(HH k).new (.cells cs):=by
 obtain⟨ρ,a,w,R,F⟩:=E.ghost k (Nat.le_of_lt (bA b))
 rcases Jg (P:=P) E.tab c F (E.trc.st k o b)with⟨_,_,h⟩|⟨_,cs,_,_,h,_⟩
 ·exact .inl h
 ·exact .inr ⟨cs,h⟩
theorem TW {H:GH} {o:GO} (h:H=H.new o):False:=by
 have:H.n=H.n+1:=congrArg GH.n h
 omega
theorem QZ {H:GH} {c a:List GV} (h:H.new (.cells c)=H.new (.cells a)):c=a:=by
 have b:=pA H (.cells c) H.n
 have d:=pA H (.cells a) H.n
 rw[if_pos rfl]at b d
 rw[h,d]at b
 cases b;rfl
theorem tQ.mono' (E:tQ P tb w0 ih all n S HH gg) {i j:Nat} (h:i<=j) (a:j<=all.length):(HH i).n<=(HH j).n:=MM E.mono h a
theorem tQ.apart (E:tQ P tb w0 ih all n S HH gg) {i j:Nat} {b c:List GV} (k:i<all.length) (l:j<all.length) (d:HH (i+1)=(HH i).new (.cells b)) (f:HH (j+1)=(HH j).new (.cells c)) (h:(HH i).n=(HH j).n):i=j:=by
 have e:(HH (i+1)).n=(HH i).n+1:=by rw[d];rfl
 have g:(HH (j+1)).n=(HH j).n+1:=by rw[f];rfl
 rcases Nat.lt_trichotomy i j with a|a|a
 ·have:=E.mono' (i:=i+1) (j:=j) (by omega) (by omega);omega
 ·exact a
 ·have:=E.mono' (i:=j+1) (j:=i) (by omega) (by omega);omega
structure t_ {gs:wT} (w0:eD gs) (ρb:dH) (n:Nat) (all:List Oper) (S0:GF) (HH:Nat->GH) (gg:Nat->GV) (D:Nat->Bool) (a:Act) (w:World) (t:Nat) (ρ pm:dH):Prop where
 tm:t<=all.length
 lou:∀j o,all[j]? = some o->lS o.op=true->(D j=true↔j<t)
 flo:∀j o,all[j]? = some o->isFloat o.op=true->j<t->D j=true
 rel:eT w0 ρ (HH t) w
 up:ρb.le ρ
 defers:a.defers=[]
 size:a.tmps.size=n
 slot:∀s g,ZN all S0 gg D s g->Rl (DJ ρ pm) g (a.eval (.tmp s))
 pend:∀i o cs,all[i]? = some o->isFloat o.op=true->HH (i+1)=(HH i).new (.cells cs)->t<=i->D i=true->∃l,pm (HH i).n=some l∧w0.mine l.b∧¬RB ρ (HH t) l.b∧w.heap[l.b]? = some l.x∧vF (DJ ρ pm) w l (.cells cs)∧l.o = .cells cs
 only:∀h l,pm h=some l->∃i o cs,all[i]? = some o∧isFloat o.op=true∧HH (i+1)=(HH i).new (.cells cs)∧t<=i∧D i=true∧h=(HH i).n
 inj:∀h h' l l',pm h=some l->pm h'=some l'->l.b=l'.b->h=h'
variable {D:Nat->Bool} {a:Act} {w:World} {t:Nat} {ρ pm ρb:dH}
theorem t_.low (E:tQ P tb w0 ih all n S HH gg) (I:t_ w0 ρb n all (S 0) HH gg D a w t ρ pm) {h:Nat} {l:IM} (d:pm h=some l):(HH t).n<=h:=by
 obtain⟨i,o,cs,b,_,_,c,_,rfl⟩:=I.only h l d
 exact E.mono' c (Nat.le_of_lt (bA b))
theorem t_.adopt (E:tQ P tb w0 ih all n S HH gg) (I:t_ w0 ρb n all (S 0) HH gg D a w t ρ pm) {o:Oper} (X:all[t]? = some o) (hl:lS o.op=false) (hf:isFloat o.op=true->D t=true):
  ∃c b,t_ w0 ρb n all (S 0) HH gg D a w (t+1) c b∧DJ c b=DJ ρ pm:=by
 have ht:=bA X
 have F:∀j o,all[j]? = some o->lS o.op=true->(D j=true↔j<t+1):=fun j oj M O=>by
  have q:j≠t:=fun e=>by subst e;rw[X]at M;cases M;rw[hl]at O;cases O
  rw[I.lou j oj M O];omega
 have B:∀j o,all[j]? = some o->isFloat o.op=true->j<t+1->D j=true:=fun j oj M aa ag=>by
  by_cases e:j=t
  ·subst e;rw[X]at M;cases M;exact hf aa
  ·exact I.flo j oj M aa (by omega)
 -- nothing is taken up
 have G:HH (t+1)=HH t->∃c b,t_ w0 ρb n all (S 0) HH gg D a w (t+1) c b∧DJ c b=DJ ρ pm:=fun e=>
  ⟨ρ,pm,⟨ht,F,B,by rw[e];exact I.rel,I.up,I.defers,I.size,I.slot,fun i V cs f r y h4 J=>by rw[e];exact I.pend i V cs f r y (by omega) J,fun h l hp=>by
   obtain⟨i,V,cs,f,r,y,h4,J,h6⟩:=I.only h l hp
   refine⟨i,V,cs,f,r,y,?_,J,h6⟩
   by_cases e':i=t
   ·subst e';rw[e]at y;exact(TW y).elim
   ·omega,I.inj⟩,rfl⟩
 cases z:isFloat o.op with
 |false=>exact G (E.quiet X (by simpa [lS,z]using hl))
 | true =>
  rcases E.floats X z with e|⟨cs,e⟩
  ·exact G e
  obtain⟨l,hp,R,L,hx,ac,af⟩:=I.pend t o cs X z e (Nat.le_refl _) (hf z)
  have m:ρ (HH t).n=none:=I.rel.fresh _ (Nat.le_refl _)
  let c:=ρ.upd (HH t).n l
  let b:dH:=fun h=>if h=(HH t).n then none else pm h
  have k:c (HH t).n=some l:=by simp[c,dH.upd]
  have u:∀h,h≠(HH t).n->c h=ρ h:=fun h hh=>by simp[c,dH.upd,hh]
  have N:DJ c b=DJ ρ pm:=by
   funext h
   by_cases d:h=(HH t).n
   ·subst d;rw[uK k,uJ m,hp]
   ·unfold DJ;rw[u h d];simp[b,d]
  have hn:(HH (t+1)).n=(HH t).n+1:=by rw[e];rfl
  -- what the object holds is older
  have Z:∀{g:GV} {v v0:Value} {x:dH},(∀h l,x h=some l->h<(HH (t+1)).n)->Rl (DJ ρ pm) g v->Rl x g v0->Rl c g v:=fun {g v v0 x} hlow f h0=>by
   refine Sc (fun h l0 Y e0 W=> ?_) f h0
   have ag:=hlow h l0 e0
   by_cases d:h=(HH t).n
   ·subst d;rw[uJ m,hp]at W;rw[k];exact W
   ·rw[u h d]
    cases hr:ρ h with
    |some l2=>rw[uK hr]at W;exact W
    |none=>
     rw[uJ hr]at W
     have:=I.low E W
     omega
  obtain⟨x,a0,wg,R0,F0⟩:=E.ghost (t+1) ht
  have Q:∀h l,x h=some l->h<(HH (t+1)).n:=fun h l hl=>by
   rcases Nat.lt_or_ge h (HH (t+1)).n with H|H
   ·exact H
   ·rw[R0.fresh h H]at hl;cases hl
  have K:(HH (t+1)).get (HH t).n=some (.cells cs):=by rw[e,pA,if_pos rfl]
  obtain⟨l0,_,_,ab⟩:=R0.live _ _ K
  obtain⟨ah,T0,q1,q2,q3,q4⟩:=ab
  have U:vF c w l (.cells cs):=by
   obtain⟨ad,T,p1,p2,p3,p4⟩:=ac
   refine⟨ad,T,p1,p2,p3,fun i g C=> ?_⟩
   obtain⟨v,r1,r2,r3⟩:=p4 i g C
   obtain⟨v0,_,s2,_⟩:=q4 i g C
   exact⟨v,r1,Z Q r2 s2,r3⟩
  obtain⟨ae,R'⟩:=I.rel.new (o:= .cells cs) (l:=l) I.rel.ext (fun h o' l' C p=>⟨rfl,fun eb=>L ⟨h,o',l',C,p,eb⟩⟩) R U hx af
  rw[<-e]at R'
  refine⟨c,b,⟨ht,F,B,R',dH.le_trans I.up ae,I.defers,I.size,fun s g hs=>by rw[N];exact I.slot s g hs,fun i V ci f r y h4 J=> ?_,fun h Y A=> ?_,fun h H Y l2 f r hb=> ?_⟩,N⟩
  ·obtain⟨li,a1,a2,a3,a4,a5,a6⟩:=I.pend i V ci f r y (by omega) J
   have q:(HH i).n≠(HH t).n:=fun d=>by
    have:=E.apart (bA f) ht y e d;omega
   refine⟨li,by simp[b,q,a1],a2,?_,a4,by rw[N];exact a5,a6⟩
   rintro⟨h,o',l',C,p,eb⟩
   rw[e,pA]at C
   by_cases d:h=(HH t).n
   ·subst d;rw[k]at p;cases p
    exact q (I.inj _ _ _ _ a1 hp eb.symm)
   ·rw[if_neg d]at C
    rw[u h d]at p
    exact a3 ⟨h,o',l',C,p,eb⟩
  ·have q:h≠(HH t).n:=fun d=>by subst d;simp[b]at A
   have A:pm h=some Y:=by simpa [b,q]using A
   obtain⟨i,V,ci,f,r,y,h4,J,h6⟩:=I.only h Y A
   refine⟨i,V,ci,f,r,y,?_,J,h6⟩
   by_cases e':i=t
   ·subst e';exact absurd h6 q
   ·omega
  ·have f:pm h=some Y:=by
    by_cases d:h=(HH t).n
    ·simp[b,d]at f
    ·simpa [b,d]using f
   have r:pm H=some l2:=by
    by_cases d:H=(HH t).n
    ·simp[b,d]at r
    ·simpa [b,d]using r
   exact I.inj h H Y l2 f r hb
theorem t_.adoptTo (E:tQ P tb w0 ih all n S HH gg):∀(d t k:Nat) (ρ pm:dH),t_ w0 ρb n all (S 0) HH gg D a w t ρ pm->t+d=k->k<=all.length->(∀j o,t<=j->j<k->all[j]? = some o->lS o.op=false∧(isFloat o.op=true->D j=true))->
  ∃c b,t_ w0 ρb n all (S 0) HH gg D a w k c b∧DJ c b=DJ ρ pm
 |0,t,k,ρ,pm,I,hd,hk,_=>by
  have:t=k:=by omega
  subst this
  exact⟨ρ,pm,I,rfl⟩
 |d+1,t,k,ρ,pm,I,hd,hk,h=>by
  have p:all[t]? = some all[t]:=List.getElem?_eq_getElem (by omega)
  obtain⟨m,e⟩:=h t _ (Nat.le_refl _) (by omega) p
  obtain⟨i,f,q,s⟩:=I.adopt E p m e
  obtain⟨l,g,r,u⟩:=t_.adoptTo E d (t+1) k i f q (by omega) hk (fun j o m e=>h j o (by omega) e)
  exact⟨l,g,r,by rw[u,s]⟩
def Cl (all:List Oper) (D:Nat->Bool):Prop:=∀j k,D j=true->before (nP all) j k=true->k<all.length->D k=true
structure Nu (all:List Oper) (D:Nat->Bool) (k:Nat) (o:Oper):Prop where
 get:all[k]? = some o
 undone:D k=false
 past:∀j,before (nP all) k j=true->j<all.length->D j=true
theorem Nu.behind (C:Ry tb all (nP all)) (c:Cl all D) {k:Nat} {o:Oper} (e:Nu all D k o) {j:Nat} {b:Oper} (h:all[j]? = some b) (g:D j=true) (d:k<j):o.apart all.toArray b=true∧FW tb o.op b.op=true:=by
 cases f:before (nP all) j k with
 |false=>exact C.ind j k b o h e.get d f
 |true=>
  have:=c j k g f (bA e.get)
  rw[e.undone]at this;cases this
theorem Nu.ahead (C:Ry tb all (nP all)) {k:Nat} {o:Oper} (f:Nu all D k o) {j:Nat} {b:Oper} (e:all[j]? = some b) (c:j<k):D j=true∨b.apart all.toArray o=true∧FW tb b.op o.op=true:=by
 cases d:before (nP all) k j with
 |true=>exact .inl (f.past j d (bA e))
 |false=>exact .inr (C.ind k j o b f.get e c d)
theorem Nu.look (E:tQ P tb w0 ih all n S HH gg) (q:Cl all D) {k:Nat} {o:Oper} (p:Nu all D k o) {s:Nat} {g:GV} (u:s∈o.looksAt all.toArray) (y:CN (S k) s=some g):ZN all (S 0) gg D s g:=by
 have b:∀j c,D j=true->all[j]? = some c->c.dst=some s->j<k:=fun j c d f e=>by
  rcases Nat.lt_trichotomy j k with h|h|h
  ·exact h
  ·subst h;rw[p.undone]at d;cases d
  ·obtain⟨l,_⟩:=p.behind E.chk q f d h
   exact absurd u ((Oper.apart_spec l).2.2 s e)
 rcases Io E.trc k (Nat.le_of_lt (bA p.get)) y with⟨i,z,l,m,r,v,x⟩|⟨l,m⟩
 ·refine .inl ⟨i,z,?_,m,r,v,fun j c d f e=> ?_⟩
  ·rcases p.ahead E.chk m l with h|⟨h,_⟩
   ·exact h
   ·exact absurd u ((Oper.apart_spec h).1 s r)
  ·have:=b j c d f e
   rcases Nat.lt_or_ge i j with h|h
   ·exact absurd e (x j c h this f)
   ·exact h
 ·exact .inr ⟨fun j c d f e=>l j c (b j c d f e) f e,m⟩
theorem Nu.slot (C:Ry tb all (nP all)) (F:Cl all D) {K:GF} {k:Nat} {o:Oper} (y:Nu all D k o) (x:∀d,o.dst=some d->d<n) (I:a.tmps.size=n) {z u:dH} (G:z.le u) (q:∀s g,ZN all K gg D s g->Rl z g (a.eval (.tmp s))) {v:Value} (Q:Rl u (gg k) v):
  ∀s g,ZN all K gg (ins D k) s g->Rl u g ((a.put o.dst v).eval (.tmp s)):=fun s g L=>by
 have c:∀j r,D j=true->all[j]? = some r->o.dst=some s->r.dst=some s->j<k:=fun j r m O f p=>by
  rcases Nat.lt_trichotomy j k with h|h|h
  ·exact h
  ·subst h;rw[y.undone]at m;cases m
  ·obtain⟨b,_⟩:=y.behind C F O m h
   exact absurd p ((Oper.apart_spec b).2.1 s f)
 by_cases f:o.dst=some s
 ·have N:gg k=g:=by
   rcases L with⟨i,J,b,l,A,B,E⟩|⟨b,_⟩
   ·have R:=E k o (yJ D k) y.get f
    by_cases e:i=k
    ·subst e;exact B
    ·rw[xI e]at b
     have:=c i J b l f A
     omega
   ·exact absurd f (b k o (yJ D k) y.get)
  rw[f,<-N]
  have H:=x s f
  have:(a.put (some s) v).eval (.tmp s)=v:=by simp[Act.put,Act.eval,I,H]
  rw[this];exact Q
 ·have M:(a.put o.dst v).eval (.tmp s)=a.eval (.tmp s):=Act.eval_put fun d p e=>by cases e;exact f p
  rw[M]
  refine(q s g ?_).le G
  rcases L with⟨i,J,b,l,A,B,E⟩|⟨b,l⟩
  ·have e:i≠k:=fun e=>by subst e;rw[y.get]at l;cases l;exact f A
   rw[xI e]at b
   exact .inl ⟨i,J,b,l,A,B,fun j r m=>E j r (yI m)⟩
  ·exact .inr ⟨fun j r m=>b j r (yI m),l⟩
theorem CC (a:Act) (d:Option Tmp) (v:Value):(a.put d v).defers=a.defers∧(a.put d v).tmps.size=a.tmps.size:=by
 cases d with
 |none=>exact⟨rfl,rfl⟩
 |some d=>exact⟨rfl,by simp[Act.put]⟩
theorem t_.plain (E:tQ P tb w0 ih all n S HH gg) (s:Cl all D) (I:t_ w0 ρb n all (S 0) HH gg D a w t ρ pm) {k:Nat} {o:Oper} (q:Nu all D k o) (C:lS o.op=false) (B:isFloat o.op=true->HH (k+1)=HH k) {v:Value} (G:Rl (DJ ρ pm) (gg k) v):
  t_ w0 ρb n all (S 0) HH gg (ins D k) (a.put o.dst v) w t ρ pm:=by
 obtain⟨_,f,_⟩:=rS (E.op q.get)
 obtain⟨p1,p2⟩:=CC a o.dst v
 refine⟨I.tm,fun j z g b=> ?_,fun j z g u x=>yI (I.flo j z g u x),I.rel,I.up,by rw[p1];exact I.defers,by rw[p2];exact I.size,q.slot E.chk s f I.size (dH.le_refl _) I.slot G,fun i y cs c m d r p=> ?_,fun h l F=> ?_,I.inj⟩
 ·have e:j≠k:=fun e=>by subst e;rw[q.get]at g;cases g;rw[C]at b;cases b
  rw[xI e];exact I.lou j z g b
 ·have e:i≠k:=fun e=>by
   subst e;rw[q.get]at c;cases c;rw[B m]at d;exact TW d
  rw[xI e]at p
  exact I.pend i y cs c m d r p
 ·obtain⟨i,y,cs,c,m,d,r,p,A⟩:=I.only h l F
  exact⟨i,y,cs,c,m,d,r,yI p,A⟩
def JS (all:List Oper) (D:Nat->Bool) (t:Nat):Prop:=t=0∨∃o,all[t - 1]? = some o∧lS o.op=true∧D (t - 1)=true
theorem JS.ins {k:Nat} (h:JS all D t):JS all (ins D k) t:=by
 rcases h with h|⟨o,b,c,d⟩
 ·exact .inl h
 ·exact .inr ⟨o,b,c,yI d⟩
theorem CB {o:Op} (h:pureOp tb o=true):dX o=false:=by
 unfold pureOp at h
 split at h<;>first|rfl|cases h
theorem Dq {o:Op} (h:isFloat o=true):dX o=true:=by
 unfold isFloat at h
 split at h<;>first|rfl|cases h
theorem Dr {o:Op} (h:isFloat o=true):pureOp tb o=false:=by
 cases b:pureOp tb o with
 |false=>rfl
 |true=>have:=CB b;rw[Dq h]at this;cases this
theorem t_.reach (E:tQ P tb w0 ih all n S HH gg) (u:Cl all D) (I:t_ w0 ρb n all (S 0) HH gg D a w t ρ pm) (i:JS all D t) {k:Nat} {o:Oper} (r:Nu all D k o) (z:pureOp tb o.op=false) (B:isFloat o.op=false) (m:kZ o.op=false):
  ∃q p,t_ w0 ρb n all (S 0) HH gg D a w k q p∧DJ q p=DJ ρ pm:=by
 have F:=bA r.get
 have C:t<=k:=by
  rcases i with h|⟨d,x,f,s⟩
  ·omega
  ·rcases Nat.lt_or_ge (t - 1) k with h|h
   ·omega
   ·exfalso
    by_cases e:t - 1=k
    ·rw[e,r.undone]at s;cases s
    ·obtain⟨_,A⟩:=r.behind E.chk u x s (by omega)
     simp only[lS,Bool.and_eq_true,Bool.not_eq_true']at f
     have:pureOp tb d.op=false:=by
      cases v:pureOp tb d.op with
      |false=>rfl
      |true=>have:=CB v;rw[f.1]at this;cases this
     have c:kZ d.op=false:=by
      cases v:kZ d.op with
      |false=>rfl
      |true=>rw[v_ v]at f;cases f.1
     simp[FW,z,this,f.1,f.2,m,c]at A
 refine I.adoptTo E (k - t) t k ρ pm (by omega) (by omega) fun j d x f y=> ?_
 have g:D j=true∨dX d.op=false∨pureOp tb d.op=true:=by
  rcases r.ahead E.chk y f with h|⟨_,h⟩
  ·exact .inl h
  ·simp only[FW,z,B,m,Bool.or_false,Bool.and_false,Bool.or_eq_true,Bool.and_eq_true,Bool.not_eq_true']at h
   rcases h with(h|h)|h
   ·exact .inr (.inr h)
   ·exact .inr (.inl h.1)
   ·exact .inr (.inl (v_ h.1))
 refine⟨?_,fun l=> ?_⟩
 ·cases c:lS d.op with
  |false=>rfl
  |true=>
   exfalso
   have b:=c
   simp only[lS,Bool.and_eq_true,Bool.not_eq_true']at b
   rcases g with h|h|h
   ·have:=(I.lou j d y c).1 h;omega
   ·rw[b.1]at h;cases h
   ·have:=CB h;rw[b.1]at this;cases this
 ·rcases g with h|h|h
  ·exact h
  ·rw[Dq l]at h;cases h
  ·rw[Dr l]at h;cases h
theorem t_.frame (E:tQ P tb w0 ih all n S HH gg) (c:Cl all D) (I:t_ w0 ρb n all (S 0) HH gg D a w t ρ pm) {k:Nat} {o:Oper} (e:Nu all D k o):jQ (DJ ρ pm) n (Bh (S k) (o.looksAt all.toArray)) a:=
 ⟨I.defers,I.size,fun s g b=>by
  rw[Al]at b
  by_cases d:s∈o.looksAt all.toArray
  ·rw[if_pos d]at b;exact I.slot s g (e.look E c d b)
  ·rw[if_neg d]at b;cases b⟩
theorem t_.frame' (E:tQ P tb w0 ih all n S HH gg) (e:Cl all D) {k:Nat} (I:t_ w0 ρb n all (S 0) HH gg D a w k ρ pm) {o:Oper} (i:Nu all D k o):jQ ρ n (Bh (S k) (o.looksAt all.toArray)) a:=by
 have F:=I.frame E e i
 obtain⟨u,v,z,p,m⟩:=E.ghost k (Nat.le_of_lt (bA i.get))
 refine⟨F.defers,F.size,fun s g b=> ?_⟩
 have q:=F.slot s g b
 rw[Al]at b
 by_cases j:s∈o.looksAt all.toArray
 ·rw[if_pos j]at b
  refine Sc (fun h x l f d=> ?_) q (m.slot s g b)
  cases c:ρ h with
  |some y=>rw[uK c]at d;exact d
  |none=>
   rw[uJ c]at d
   have r:=I.low E d
   rw[p.fresh h r]at f;cases f
 ·rw[if_neg j]at b;cases b
theorem tQ.st (E:tQ P tb w0 ih all n S HH gg) {k:Nat} {o:Oper} (b:all[k]? = some o):CM tb ih all o (Bh (S k) (o.looksAt all.toArray)) (HH k)=some (gg k,HH (k+1)):=by
 rw[<-E.trc.st k o b]
 exact NL fun s c=>by rw[Al,if_pos c]
theorem t_.loads (E:tQ P tb w0 ih all n S HH gg) (L:Cl all D) (I:t_ w0 ρb n all (S 0) HH gg D a w t ρ pm) (s:JS all D t) {k:Nat} {o:Oper} (u:Nu all D k o) (f:kZ o.op=true) {h:Nat} {W:GO} (hh:Ws (S k) o.op=some h) (i:(HH k).get h=some W):
  ∃p H G,t_ w0 ρb n all (S 0) HH gg D a w p H G∧DJ H G=DJ ρ pm∧(HH p).get h=some W:=by
 have Z:=bA u.get
 have hq:=v_ f
 have R:pureOp tb o.op=false:=by cases N:o.op<;>rw[N]at f<;>first|rfl|cases f
 have M:isFloat o.op=false:=by cases N:o.op<;>rw[N]at f<;>first|rfl|cases f
 obtain⟨v,V⟩:∃v,(HH k).ver h=some v:=by
  obtain⟨p,hp,_⟩:=aD.1 (show Gx.ob ((HH k).t.get h) _=some W from i)
  exact⟨p.1,by unfold GH.ver;rw[hp];rfl⟩
 obtain⟨v1,v2⟩:=E.vrs k o h v u.get f hh V
 rcases Nat.lt_or_ge k t with C|C
 ·
  rcases s with e|⟨c,x,z,K⟩
  ·omega
  have b:=z
  simp only[lS,Bool.and_eq_true]at b
  have q:before (nP all) (t - 1) k=false:=by
   cases q:before (nP all) (t - 1) k with
   |false=>rfl
   |true=>have:=L _ _ K q Z;rw[u.undone]at this;cases this
  have aa:t - 1≠k:=fun e=>by rw[e,u.undone]at K;cases K
  have:=v2 (t - 1) c (by omega) x b.1 q
  rw[show t - 1+1=t by omega]at this
  exact⟨t,ρ,pm,I,rfl,by rw[<-E.same (Nat.le_of_lt C) I.tm V this];exact i⟩
 ·
  have first:∀d g,g+d=k->t<=g->(∀j c,t<=j->j<g->all[j]? = some c->lS c.op=false)->∃p,t<=p∧p<=k∧(∀j c,t<=j->j<p->all[j]? = some c->lS c.op=false)∧(p=k∨∃F,all[p]? = some F∧lS F.op=true):=by
   intro d
   induction d with
   |zero=>exact fun g e U h=>⟨g,U,by omega,h,.inl (by omega)⟩
   | succ d ihd =>
    intro g e U h
    have m:all[g]? = some all[g]:=List.getElem?_eq_getElem (by omega)
    cases hl:lS all[g].op with
    |true=>exact⟨g,U,by omega,h,.inr ⟨_,m,hl⟩⟩
    |false=>
     refine ihd (g+1) (by omega) (by omega) fun j c x z y=> ?_
     by_cases e:j=g
     ·subst e;rw[m]at y;cases y;exact hl
     ·exact h j c x (by omega) y
  obtain⟨p,ab,ac,O,Q⟩:=first (k - t) t (by omega) (Nat.le_refl _) (fun j c x z=>by omega)
  obtain⟨Y,X,I1,e1⟩:=I.adoptTo E (p - t) t p ρ pm (by omega) (by omega) fun j c x z y=>by
   refine⟨O j c x z y,fun r=> ?_⟩
   rcases u.ahead E.chk y (by omega)with h|⟨_,h⟩
   ·exact h
   ·have a1:=Dr (tb:=tb) r
    have J:=Dq r
    have a3:kZ c.op=false:=by
     cases T:kZ c.op with
     |false=>rfl
     |true=>rw[v_ T]at J;cases J
    have a4:lS c.op=false:=by simp[lS,r]
    simp[FW,a1,J,a3,a4,R,M]at h
  refine⟨p,Y,X,I1,e1,?_⟩
  rcases Q with e|⟨F,l,A⟩
  ·rw[e];exact i
  ·have b:=A
   simp only[lS,Bool.and_eq_true]at b
   have B:p<k:=by
    rcases Nat.lt_or_ge p k with h|h
    ·exact h
    ·have:p=k:=by omega
     subst this;rw[u.get]at l;cases l;rw[hq]at b;cases b.1
   have q:before (nP all) k p=false:=by
    cases q:before (nP all) k p with
    |false=>rfl
    |true=>have:=u.past p q (by omega);rw[I.lou p F l A]at this;omega
   rw[E.same (Nat.le_of_lt B) (Nat.le_of_lt Z) (v1 p F B l b.1 q) V];exact i
theorem t_.step (E:tQ P tb w0 ih all n S HH gg) (hcl:Cl all D) (I:t_ w0 ρb n all (S 0) HH gg D a w t ρ pm) (hlast:JS all D t) {k:Nat} {o:Oper} (hr:Nu all D k o) {Q:Exit->Act->World->Prop} {K:Act->World->Prop}
  (hK:∀a' w' t' ρ' pm',t_ w0 ρb n all (S 0) HH gg (ins D k) a' w' t' ρ' pm'->JS all (ins D k) t'->K a' w'):Sx.wpOp P all.toArray Q k K a w:=by
 have hk:=bA hr.get
 obtain⟨_,hdst,hoa⟩:=rS (E.op hr.get)
 have hst:=E.st hr.get
 unfold Sx.wpOp
 simp only[List.getElem?_toArray,hr.get]
 cases hp:pureOp tb o.op with
 | true =>
  have hl:lS o.op=false:=by simp[lS,CB hp]
  have hnf:isFloat o.op=false:=by
   cases hf:isFloat o.op with
   |false=>rfl
   |true=>rw[Dr hf]at hp;cases hp
  have F:=I.frame E hcl hr
  rcases Cq F hst with⟨hw,hg⟩|⟨hw,hg,hH⟩
  ·rw[if_pos hw]
   have hoa':HV o.op=true:=by
    rcases hoa with h|⟨c,f,h1,h2⟩
    ·exact h
    ·obtain⟨cal,xs,ts⟩:=c
     simp only at h2
     rw[h1,h2]at hp;cases hp
   obtain⟨_,v,hv,hrun⟩:=TD (P:=P) E.tab F hp hoa' hg
   left
   simp only[Oper.wp,hrun w,Oper.upon]
   exact hK _ _ t ρ pm (I.plain E hcl hr hl (fun h=>by rw[hnf]at h;cases h) hv) hlast.ins
  ·rw[if_neg (by rw[hw];simp)]
   exact hK _ _ t ρ pm (I.plain E hcl hr hl (fun h=>by rw[hnf]at h;cases h) (by rw[hg];exact .un)) hlast.ins
 | false =>
  cases hf:isFloat o.op with
  | true =>
   have hl:lS o.op=false:=by simp[lS,hf]
   have F:=I.frame E hcl hr
   rcases Jg (P:=P) E.tab hf F hst with⟨hw,hg,hH⟩|⟨hw,cs,a',T',hH,hC,hlen,hrun⟩
   ·rw[if_neg (by rw[hw];simp)]
    exact hK _ _ t ρ pm (I.plain E hcl hr hl (fun _=>hH) (by rw[hg];exact .un)) hlast.ins
   ·rw[if_pos hw]
    obtain⟨V,hV,hrel⟩:=hrun w
    left
    simp only[Oper.wp,hV,Oper.upon]
    have htk:t<=k:=by
     rcases Nat.lt_or_ge k t with h|h
     ·have:=I.flo k o hr.get hf h;rw[hr.undone]at this;cases this
     ·exact h
    let l:IM:=⟨w.heap.size,0,a'.size,.cells a' T',.cells cs⟩
    have e:JJ w (w.alloc (.cells a' T')):=(Below.refl _ _).alloc (Nat.le_refl _) _
    have hρ:ρ (HH k).n=none:=I.rel.fresh _ (E.mono' htk (by omega))
    have hpm:pm (HH k).n=none:=by
     cases hq:pm (HH k).n with
     |none=>rfl
     |some l1=>
      obtain⟨i,oi,ci,h1,h2,h3,h4,h5,h6⟩:=I.only _ _ hq
      have:=E.apart (bA h1) hk h3 hH h6.symm
      subst this
      rw[hr.undone]at h5;cases h5
    let pm':=pm.upd (HH k).n l
    have hself:pm' (HH k).n=some l:=by simp[pm',dH.upd]
    have hoth:∀h,h≠(HH k).n->pm' h=pm h:=fun h hh=>by simp[pm',dH.upd,hh]
    have hle:(DJ ρ pm).le (DJ ρ pm'):=fun h l1 h1=>by
     cases hr1:ρ h with
     |some l2=>rw[uK hr1]at h1;rw[uK hr1];exact h1
     |none=>
      rw[uJ hr1]at h1;rw[uJ hr1,hoth h (fun eh=>by subst eh;rw[hpm]at h1;cases h1)];exact h1
    have hjl:DJ ρ pm' (HH k).n=some l:=by rw[uJ hρ,hself]
    obtain⟨p1,p2⟩:=CC a o.dst V
    have old:∀h l1,pm h=some l1->l1.b<w.heap.size:=fun h l1 h1=>by
     obtain⟨i,oi,ci,q1,q2,q3,q4,q5,rfl⟩:=I.only _ _ h1
     obtain⟨l2,r1,_,_,r4,_⟩:=I.pend i oi ci q1 q2 q3 q4 q5
     rw[h1]at r1;cases r1
     exact(Array.getElem?_eq_some_iff.1 r4).1
    refine hK _ _ t ρ pm' ⟨I.tm,fun j oj hj hlj=> ?_,fun j oj hj hfj hlt=>yI (I.flo j oj hj hfj hlt),I.rel.ext' e,I.up,by rw[p1];exact I.defers,by rw[p2];exact I.size,hr.slot E.chk hcl hdst I.size hle I.slot (hrel _ hjl),fun i oi ci h1 h2 h3 h4 h5=> ?_,fun h l1 hp1=> ?_,fun h h' l1 l2 h1 h2 hb=> ?_⟩ hlast.ins
    ·have e:j≠k:=fun e=>by subst e;rw[hr.get]at hj;cases hj;rw[hl]at hlj;cases hlj
     rw[xI e];exact I.lou j oj hj hlj
    ·by_cases ei:i=k
     ·subst ei
      rw[hH]at h3
      have:=QZ h3
      subst this
      refine⟨l,hself,.inl I.rel.ext.size,?_,heap_alloc_new w _,⟨a',T',heap_alloc_new w _,rfl,by show 0+cs.length<=a'.size;omega,fun j g hg=> ?_⟩,rfl⟩
      ·rintro⟨h,o',l',hg,hl',eb⟩
       obtain⟨l2,r1,_,r3⟩:=I.rel.live h o' hg
       rw[hl']at r1;cases r1
       have:=r3.lt
       rw[eb]at this
       exact absurd this (Nat.lt_irrefl _)
      ·obtain⟨x,hx,hrx⟩:=hC.r.get hg
       rw[Array.getElem?_toList]at hx
       exact⟨x,by show a'[0+j]? = some x;simpa using hx,hrx.le hle,Kl hC.one hx⟩
     ·rw[xI ei]at h5
      obtain⟨l1,a1,a2,a3,a4,a5,a6⟩:=I.pend i oi ci h1 h2 h3 h4 h5
      have hne:(HH i).n≠(HH k).n:=fun eh=>ei (E.apart (bA h1) hk h3 hH eh)
      have hb:=old _ _ a1
      exact⟨l1,by rw[hoth _ hne];exact a1,a2,a3,by rw[e.block _ hb];exact a4,a5.move hle (e.block _ hb),a6⟩
    ·by_cases eh:h=(HH k).n
     ·exact⟨k,o,cs,hr.get,hf,hH,htk,yJ D k,eh⟩
     ·rw[hoth h eh]at hp1
      obtain⟨i,oi,ci,q1,q2,q3,q4,q5,q6⟩:=I.only h l1 hp1
      exact⟨i,oi,ci,q1,q2,q3,q4,yI q5,q6⟩
    ·by_cases eh:h=(HH k).n
     ·by_cases eh':h'=(HH k).n
      ·rw[eh,eh']
      ·rw[hoth h' eh']at h2
       subst eh;rw[hself]at h1;cases h1
       have:=old _ _ h2
       rw[<-hb]at this
       exact absurd this (Nat.lt_irrefl _)
     ·rw[hoth h eh]at h1
      by_cases eh':h'=(HH k).n
      ·subst eh';rw[hself]at h2;cases h2
       have:=old _ _ h1
       rw[hb]at this
       exact absurd this (Nat.lt_irrefl _)
      ·rw[hoth h' eh']at h2
       exact I.inj h h' l1 l2 h1 h2 hb
  | false =>
   cases hld:kZ o.op with
   | true =>
    have hl:lS o.op=false:=by simp[lS,v_ hld]
    have F0:=I.frame E hcl hr
    rcases Cq F0 hst with⟨hw,hg⟩|⟨hw,hg,hH⟩
    ·rw[if_pos hw]
     have hopl:∃T x,o.op = .load T x:=by
      cases ho:o.op<;>rw[ho]at hld<;>first|exact⟨_,_,rfl⟩|cases hld
     obtain⟨T,x,hox⟩:=hopl
     rw[hox]at hg
     obtain⟨va,hva,hg⟩:=aD.1 (show ob (i_ (Bh (S k) (o.looksAt all.toArray)) x) _=some (gg k,HH (k+1))from hg)
     obtain⟨g',hld',hk'⟩:=aD.1 hg
     have eg:g'=gg k:=by
      have:=congrArg (fun o=>o.map Prod.fst) (show some (g',HH k)=some (gg k,HH (k+1))from hk')
      simpa using this
     rw[eg]at hld'
     obtain⟨q,hq,hc⟩:=aD.1 (show ob va.asP _=some (gg k)from hld')
     obtain⟨cs,hcs,hc⟩:=aD.1 hc
     have hget:=gC.1 hcs
     have hxt:∀s,x = .tmp s->s∈o.looksAt all.toArray:=fun s e=>List.mem_append_left _ (List.mem_filterMap.2 ⟨.tmp s,by rw[hox,e];simp[Op.operands],rfl⟩)
     have hva':i_ (S k) x=some va:=by
      rw[<-hva]
      cases x with
      |tmp s=>
       show CN (S k) s=CN (Bh (S k) (o.looksAt all.toArray)) s
       rw[Al,if_pos (hxt s rfl)]
      |_=>rfl
     have hh:Ws (S k) o.op=some q.1:=by
      rw[hox]
      show ob (i_ (S k) x) _=_
      rw[hva']
      show ob va.asP _=_
      rw[hq];rfl
     obtain⟨p,ρ1,pm1,I1,hj1,hgp⟩:=I.loads E hcl hlast hr hld hh hget
     have hv0:=b_ F0 hva
     have hv1:Rl ρ1 va (a.eval x):=by
      rw[BB hq]at hv0 ⊢
      obtain⟨l,hl,e⟩:=hv0.ptr_inv
      obtain⟨l1,hl1,_⟩:=I1.rel.live _ _ hgp
      rw[<-hj1,uK hl1]at hl
      cases hl
      rw[e];exact .ptr _ hl1
     have hload:vA tb T va (HH p)=some (gg k):=by
      show ob va.asP _=_
      rw[hq]
      show ob ((HH p).cells q.1) _=_
      rw[gC.2 hgp]
      exact hc
     obtain⟨X,_,l,_,_,_,hX,hrun⟩:=Is (P:=P) E.tab I1.rel hv1 hload
     left
     have hr1:(execOp a.eval o).run P w = .ok (.value X) w:=by
      have:=hrun w rfl
      obtain⟨d,op,ty,pos,aft,gd⟩:=o
      simp only at hox
      subst hox
      simp[execOp,this]
     simp only[Oper.wp,hr1,Oper.upon]
     exact hK _ _ t ρ pm (I.plain E hcl hr hl (fun h=>by rw[hf]at h;cases h) (by rw[<-hj1];exact hX.le Ej)) hlast.ins
    ·rw[if_neg (by rw[hw];simp)]
     exact hK _ _ t ρ pm (I.plain E hcl hr hl (fun h=>by rw[hf]at h;cases h) (by rw[hg];exact .un)) hlast.ins
   |false=>
   obtain⟨ρ1,pm1,I1,hj1⟩:=I.reach E hcl hlast hr hp hf hld
   have F:=I1.frame' E hcl hr
   cases hlo:dX o.op with
   | false =>
    have hl:lS o.op=false:=by simp[lS,hlo]
    have fin:∀v,Rl ρ1 (gg k) v->t_ w0 ρb n all (S 0) HH gg (ins D k) (a.put o.dst v) w t ρ pm:=fun v hv=>
     I.plain E hcl hr hl (fun h=>by rw[hf]at h;cases h) (by rw[<-hj1];exact hv.le Ej)
    rcases Gw E.tab (E.call w0) (E.op hr.get) F I1.rel hst with⟨hw,hs⟩|⟨hw,hg,hH⟩
    ·rw[if_pos hw]
     left
     rcases hs with⟨_,_,_,_,v,hv,hrun⟩|⟨_,_,_,v,_,_,_,_,_,hv,hrun⟩|⟨_,_,_,v,hv,hrun⟩|⟨hq,_⟩
     ·simp only[Oper.wp,hrun w,Oper.upon];exact hK _ _ t ρ pm (fin v hv) hlast.ins
     ·simp only[Oper.wp,hrun w rfl,Oper.upon];exact hK _ _ t ρ pm (fin v hv) hlast.ins
     ·simp only[Oper.wp,hrun,Oper.upon];exact hK _ _ t ρ pm (fin v hv) hlast.ins
     ·rw[hlo]at hq;cases hq
    ·rw[if_neg (by rw[hw];simp)]
     exact hK _ _ t ρ pm (fin undef (by rw[hg];exact .un)) hlast.ins
   | true =>
    have hl:lS o.op=true:=by simp[lS,hlo,hf]
    have hkn:∀(i:Nat) (oi:Oper) (ci:List GV),all[i]? = some oi->isFloat oi.op=true->i≠k:=fun i oi ci h1 h2 e=>by
     subst e;rw[hr.get]at h1;cases h1;rw[hf]at h2;cases h2
    have lou':∀j o,all[j]? = some o->lS o.op=true->(ins D k j=true↔j<k+1):=fun j oj hj hlj=>by
     by_cases e:j=k
     ·subst e;simp[yJ]
     ·rw[xI e,I1.lou j oj hj hlj];omega
    have flo':∀j o,all[j]? = some o->isFloat o.op=true->j<k+1->ins D k j=true:=fun j oj hj hfj hlt=>by
     have:=hkn j oj [] hj hfj
     exact yI (I1.flo j oj hj hfj (by omega))
    have only':∀h l,pm1 h=some l->∃i o cs,all[i]? = some o∧isFloat o.op=true∧HH (i+1)=(HH i).new (.cells cs)∧k+1<=i∧ins D k i=true∧h=(HH i).n:=fun h l hp1=>by
     obtain⟨i,oi,ci,q1,q2,q3,q4,q5,q6⟩:=I1.only h l hp1
     have:=hkn i oi ci q1 q2
     exact⟨i,oi,ci,q1,q2,q3,by omega,yI q5,q6⟩
    have hlast':JS all (ins D k) (k+1):= .inr ⟨o,by simpa using hr.get,hl,by simp[yJ]⟩
    rcases Gw E.tab (E.call I1.rel.base) (E.op hr.get) F I1.rel.rebase hst with⟨hw,hs⟩|⟨hw,hg,hH⟩
    ·rw[if_pos hw]
     left
     rcases hs with⟨hq,_⟩|⟨hq,_⟩|⟨hq,_⟩|⟨_,hrun⟩
     ·rw[hlo]at hq;cases hq
     ·rw[hlo]at hq;cases hq
     ·rw[hlo]at hq;cases hq
     refine HT (hrun _ fun ρ2 w2 v hle R2 hv=>hK _ _ (k+1) ρ2 pm1 ?_ hlast')
     obtain⟨R3,hframe⟩:=I1.rel.back R2
     have hj:(DJ ρ1 pm1).le (DJ ρ2 pm1):=fun h l h1=>by
      cases hr1:ρ1 h with
      |some l2=>rw[uK hr1]at h1;cases h1;exact uK (hle _ _ hr1)
      |none=>
       rw[uJ hr1]at h1
       obtain⟨i,oi,ci,q1,q2,q3,q4,q5,rfl⟩:=only' h l h1
       rw[uJ (R2.fresh _ (E.mono' q4 (Nat.le_of_lt (bA q1))))];exact h1
     obtain⟨p1,p2⟩:=CC a o.dst v
     refine⟨hk,lou',flo',R3,dH.le_trans I1.up hle,by rw[p1];exact I1.defers,by rw[p2];exact I1.size,hr.slot E.chk hcl hdst I1.size hj I1.slot (hv.le Ej),fun i oi ci h1 h2 h3 h4 h5=> ?_,only',I1.inj⟩
     rw[xI (hkn i oi ci h1 h2)]at h5
     obtain⟨l1,a1,a2,a3,a4,a5,a6⟩:=I1.pend i oi ci h1 h2 h3 (by omega) h5
     have hb:l1.b<w.heap.size:=(Array.getElem?_eq_some_iff.1 a4).1
     refine⟨l1,a1,a2,?_,by rw[hframe _ hb a3];exact a4,a5.move hj (hframe _ hb a3),a6⟩
     rintro⟨h,o',l',hg,hl',eb⟩
     obtain⟨l2,r1,r2,_⟩:=R2.live h o' hg
     rw[hl']at r1;cases r1
     rw[eb]at r2
     rcases r2 with r2|r2
     ·have:w.heap.size<=l1.b:=r2
      omega
     ·exact a3 r2
    ·rw[if_neg (by rw[hw];simp)]
     obtain⟨p1,p2⟩:=CC a o.dst undef
     refine hK _ _ (k+1) ρ1 pm1 ⟨hk,lou',flo',by rw[hH];exact I1.rel,I1.up,by rw[p1];exact I1.defers,by rw[p2];exact I1.size,hr.slot E.chk hcl hdst I1.size (dH.le_refl _) I1.slot (by rw[hg];exact .un),fun i oi ci h1 h2 h3 h4 h5=> ?_,only',I1.inj⟩ hlast'
     rw[xI (hkn i oi ci h1 h2)]at h5
     rw[hH]
     exact I1.pend i oi ci h1 h2 h3 (by omega) h5
theorem t_.done (E:tQ P tb w0 ih all n S HH gg) (I:t_ w0 ρb n all (S 0) HH gg D a w t ρ pm) (b:∀i,i<all.length->D i=true):∃f,ρb.le f∧eT w0 f (HH all.length) w∧jQ f n (S all.length) a:=by
 obtain⟨d,e,k,_⟩:=I.adoptTo E (all.length - t) t all.length ρ pm (by have:=I.tm;omega) (Nat.le_refl _) fun j q m p c=>by
  refine⟨?_,fun _=>b j p⟩
  cases B:lS q.op with
  |false=>rfl
  |true=>have:=(I.lou j q c B).1 (b j p);omega
 refine⟨d,k.up,k.rel,k.defers,k.size,fun s g A=> ?_⟩
 have r:∀h,e h=none:=fun h=>by
  cases C:e h with
  |none=>rfl
  |some l=>
   obtain⟨i,H,G,m,_,_,u,_⟩:=k.only h l C
   have:=bA m;omega
 have c:DJ d e=d:=by
  funext h
  unfold DJ
  rw[r]
  cases d h<;>rfl
 have F:ZN all (S 0) gg D s g:=by
  rcases Io E.trc all.length (Nat.le_refl _) A with⟨i,o,m,p,v,u,x⟩|⟨m,p⟩
  ·refine .inl ⟨i,o,b i m,p,v,u,fun j q y c z=> ?_⟩
   rcases Nat.lt_or_ge i j with h|h
   ·exact absurd z (x j q h (bA c) c)
   ·exact h
  ·exact .inr ⟨fun j q y c=>m j q (bA c) c,p⟩
 have:=k.slot s g F
 rwa[c]at this
theorem QL (E:tQ P tb w0 ih all n S HH gg) {Q:Exit->Act->World->Prop} (hQ:∀c J w',ρb.le c->eT w0 c (HH all.length) w'->jQ c n (S all.length) J->Q .normal J w'):
  ∀(fuel:Nat) (L:List Nat) (b:Array Bool) (a:Act) (w:World) (t:Nat) (ρ pm:dH),L.length<=fuel->b.size=all.length->(∀i,i<all.length->b.getD i false=false->i∈L)->Cl all (fun j=>b.getD j false)->
  t_ w0 ρb n all (S 0) HH gg (fun j=>b.getD j false) a w t ρ pm->JS all (fun j=>b.getD j false) t->Sx.wpAny P .any all.toArray Q fuel b a w:=by
 intro fuel
 induction fuel with
 | zero =>
  intro L b a w t ρ pm F H f l I g
  have hL:L=[]:=List.eq_nil_of_length_eq_zero (by omega)
  subst hL
  have d:∀i,i<all.length->b.getD i false=true:=fun i q=>by
   cases s:b.getD i false with
   |true=>rfl
   |false=>have:=f i q s;simp at this
  refine⟨?_,?_⟩
  ·rw[List.eq_nil_iff_forall_not_mem]
   intro i q
   obtain⟨h,o,r,_⟩:=mem_ready.1 q
   have U:i<all.length:=by have:=(Array.getElem?_eq_some_iff.1 r).1;simpa using this
   have:=d i U
   have X:i<b.size:=by omega
   simp[X]at this h
   rw[h]at this;cases this
  ·obtain⟨c,h,K,M⟩:=I.done E d
   exact hQ c a w h K M
 | succ fuel ihf =>
  intro L b a w t ρ pm F H f l I g
  refine⟨fun W=> ?_,fun k hk=> ?_⟩
  ·have d:∀i,i<all.length->b.getD i false=true:=by
    intro i
    induction i using Nat.strongRecOn with
    | ind i Y =>
     intro q
     cases s:b.getD i false with
     |true=>rfl
     | false =>
      exfalso
      have r:all[i]? = some all[i]:=List.getElem?_eq_getElem q
      have G:i∈Region.ready .any all.toArray b:=by
       refine mem_ready.2 ⟨?_,all[i],by simp,fun e N u=> ?_⟩
       ·have X:i<b.size:=by omega
        simp[X]at s ⊢;exact s
       ·have R:e.on∈rV all[i]:=List.mem_map.2 ⟨e,List.mem_filter.2 ⟨by simpa using N,u⟩,rfl⟩
        have:=(E.chk.edge i _ r e.on R).1
        exact Y e.on this (by omega)
      rw[W]at G
      simp at G
   obtain⟨c,h,K,M⟩:=I.done E d
   exact hQ c a w h K M
  ·obtain⟨h,o,V,p⟩:=mem_ready.1 hk
   have r:all[k]? = some o:=by simpa using V
   have T:k<all.length:=bA r
   have C:k<b.size:=by omega
   have v:b.getD k false=false:=by simp[C]at h ⊢;exact h
   have hr:Nu all (fun j=>b.getD j false) k o:=by
    refine⟨r,v,fun j u A=> ?_⟩
    obtain⟨_,e,N,hej⟩:=E.chk.trans k o r j u A
    obtain⟨ed,O,rfl⟩:=List.mem_map.1 N
    obtain⟨y,z⟩:=List.mem_filter.1 O
    have hl:=p ed (by simpa using y) z
    rcases hej with rfl|hej
    ·exact hl
    ·exact l _ _ hl hej A
   have x:(fun j=>(b.setIfInBounds k true).getD j false)=ins (fun j=>b.getD j false) k:=by
    funext j
    by_cases e:j=k
    ·subst e;rw[yJ];simp[C]
    ·rw[xI e]
     exact getD_set_ne false (Ne.symm e)
   refine I.step E l g hr fun J w' t' c Z I' m=> ?_
   refine ihf (L.erase k) _ J w' t' c Z ?_ (by simp[H]) (fun i q s=> ?_) ?_ (by rw[x];exact I') (by rw[x];exact m)
   ·have hm:=f k T v
    rw[List.length_erase_of_mem hm]
    omega
   ·have e:i≠k:=fun e=>by
     subst e
     have:=congrFun x i
     rw[yJ]at this
     rw[s]at this;cases this
    have:b.getD i false=false:=by
     have:=congrFun x i
     rw[xI e]at this
     rw[<-this];exact s
    exact(List.mem_erase_of_ne e).2 (f i q this)
   ·rw[x]
    intro j k' A u B
    by_cases e:j=k
    ·subst e;exact yI (hr.past k' u B)
    ·rw[xI e]at A
     exact yI (l j k' A u B)
theorem Kj (X:eK P tb) (d:∀w0:eD gs,qM P w0 ih) (hm:P.follows .mixedOrders=true) {ops:List Oper} {id:Nat} (e:ops.all (Fo n)=true) (hc:chkF tb ops (nP ops)=true) {k:GS->RS} {s:GS} {m:Lj} {ρ:dH} {a:Act} {w:World} {Q:Exit->Act->World->Prop} (F:jQ ρ n s.σ a) (R:eT w0 ρ s.H w) (h:(CW tb ih ops k ops s=some m∧Cy ops kZ=true)∨Zt tb ih ops (nP ops) k ops 0 [] [] s=some m)
  (q:∀C f G w',k C=some m->ρ.le f->jQ f n C.σ G->eT w0 f C.H w'->Q .normal G w'):(Code.region id ops.toArray true).wpr none P Q a w:=by
 have N:ops.all iI=true:=List.all_eq_true.2 fun o M=>(rS (List.all_eq_true.1 e o M)).1
 obtain⟨S,HH,gg,y,z,T,B,b⟩:∃S HH gg,S 0=s.σ∧HH 0=s.H∧Xa tb ih ops ops S HH gg∧(∀k x h v,ops[k]? = some x->kZ x.op=true->Ws (S k) x.op=some h->(HH k).ver h=some v->
   (∀j r,j<k->ops[j]? = some r->dX r.op=true->before (nP ops) k j=false->(HH j).ver h=some v)∧(∀j r,k<j->ops[j]? = some r->dX r.op=true->before (nP ops) j k=false->(HH (j+1)).ver h=some v))∧k ⟨S ops.length,HH ops.length⟩=some m:=by
  rcases h with⟨h,Y⟩|h
  ·obtain⟨S,HH,gg,y,z,T,b⟩:=Jc ops s h
   refine⟨S,HH,gg,y,z,T,fun k x h v q J _ _=>⟨fun j r L p u A=> ?_,fun j r L p u A=> ?_⟩,b⟩
   ·rcases El Y q p J u with c|c
    ·rw[c]at A;cases A
    ·have:=((EY hc).trans j r p k c (bA q)).1;omega
   ·rcases El Y q p J u with c|c
    ·have:=((EY hc).trans k x q j c (bA p)).1;omega
    ·rw[c]at A;cases A
  ·obtain⟨S,HH,gg,y,z,T,V,b⟩:=Gy ops 0 [] [] s h
   exact⟨S,HH,gg,y,z,T,fun k x h v q J hh hv=>by have:=V.lo k x h v q J hh hv;simpa using this,b⟩
 rw[<-y]at F
 rw[<-z]at R
 have E:tQ P tb w0 ih ops n S HH gg:=⟨X,d,e,EY hc,T,B,Jv X (d w0) e T F R _ (Nat.le_refl _)⟩
 have I:∀j,(Array.replicate ops.length false).getD j false=false:=fun j=>by
  by_cases h:j<ops.length<;>simp[h]
 refine Cg N hm ?_
 have U:ops.toArray.size=ops.length:=by simp
 rw[U]
 refine QL (ρb:=ρ) E (fun f G w' Z c K=>q ⟨S ops.length,HH ops.length⟩ f G w' b Z K c) ops.length (List.range ops.length) _ a _ 0 ρ (fun _=>none) (by simp) (by simp) (fun i hi _=>List.mem_range.2 hi) (fun j k' p=>by simp only[I]at p;cases p) ?_ (.inl rfl)
 refine⟨Nat.zero_le _,fun j o _ _=>by simp only[I];simp,fun j o _ _ h=>absurd h (Nat.not_lt_zero j),R.ext' ((Below.refl _ _).drew),dH.le_refl _,F.defers,F.size,fun C g hs=> ?_,fun i o cs _ _ _ _ W=>(by simp only[I]at W;cases W),fun h l O=>(by cases O),fun h h' l l' O=>(by cases O)⟩
 rcases hs with⟨i,o,c,_⟩|⟨_,K⟩
 ·simp only[I]at c;cases c
 ·exact(F.slot C g K).le Ej
end
end
section

def EJ (tb:TB) (n:Nat):Code->Bool
 | .skip | .exit _ | .ret=>true
 | .region _ ops dr=>ops.toList.all (Fo n)&&(!dr||chkF tb ops.toList (nP ops.toList))
 | .seq a b=>EJ tb n a&&EJ tb n b
 | .cond _ a b=>EJ tb n a&&EJ tb n b
 | .block _ b=>EJ tb n b
 | .loop b=>EJ tb n b
 |_=>false
section
variable {P:Program} {G:GP} {tb:TB} {Fs:FT} {gs:wT} {w0:eD gs}

def By (P:Program) (c:Code) (Q:Exit->Act->World->Prop) (a:Act) (w:World):Prop:=
 ∀(b:Frame) (k:List Item) (cs:List Frame),b.roundOf=(FR none).round->(FR none).fn b.fn->(FR none).room (cs.length+1+0)->
  ∃e d w',Q e d w'∧ArrivesIn (Machine.fenced P (FR none)) P (lone (b.atR a (.code c :: .inLoop c::k)) cs w) b k cs e d w'
theorem By.loop {c:Code} {Q:Exit->Act->World->Prop} {a:Act} {w:World} (h:By P c Q a w):(Code.loop c).wpr none P Q a w:=by
 intro b k cs f g i
 obtain⟨e,j,w',l,d⟩:=h b k cs f g i
 exact⟨e,j,w',l,.of_steps (.one (fenced_calm g i rfl) stepR_loop) d⟩
theorem By.round {c:Code} {Q:Exit->Act->World->Prop} {a:Act} {w:World} (h:c.wpr none P (Exit.then (By P c Q) Q) a w):By P c Q a w:=by
 intro b k cs p r s
 obtain⟨e,f,g,m,d⟩:=h b (.inLoop c::k) cs p r s
 cases e with
 |normal=>
  obtain⟨o,n,q,j,i⟩:=m b k cs p r s
  exact⟨o,n,q,j,.of_steps (StepsIn.trans d (.one (fenced_calm r s rfl) stepR_inLoop)) i⟩
 |exit id=>exact⟨_,f,g,m,.pass (x:= .inLoop c) rfl (fun _ _=> .inl (by simp)) d⟩
 |goto l=>exact⟨_,f,g,m,.pass (x:= .inLoop c) rfl (fun _ _=> .inl (by simp)) d⟩
 |ret=>exact⟨_,f,g,m,.pass (x:= .inLoop c) rfl (fun _ _=> .inl (by simp)) d⟩
 |panic ch=>exact⟨_,f,g,m,.pass (x:= .inLoop c) rfl (fun _ _=> .inl (by simp)) d⟩
 |outgrown=>exact⟨_,f,g,m,.pass (x:= .inLoop c) rfl (fun _ _=> .inl (by simp)) d⟩

noncomputable def Gz (a:Cx) (id:Nat) (s:GS):RS:=some ⟨.exit id,Au s.σ (jZ (zS a.env id)),s.H⟩
structure RP {gs:wT} (w0:eD gs) (tb:TB) (n:Nat) (cx:Cx) (k:GS->RS) (out:Lj) (ρ:dH) (Q:Exit->Act->World->Prop):Prop where
 k:∀s' ρ' a' w',k s'=some out->ρ.le ρ'->jQ ρ' n s'.σ a'->eT w0 ρ' s'.H w'->Q .normal a' w'
 x:∀id s' ρ' a' w',Gz cx id s'=some out->ρ.le ρ'->jQ ρ' n s'.σ a'->eT w0 ρ' s'.H w'->Q (.exit id) a' w'
 r:∀s' ρ' a' w',Oh tb cx s'=some out->ρ.le ρ'->jQ ρ' n s'.σ a'->eT w0 ρ' s'.H w'->Q .ret a' w'
def EM (P:Program) {gs:wT} (w0:eD gs) (tb:TB) (lp:LH):Prop:=∀b g vs H d,lp b g vs H=some d->∀n σ ρ a w Q,EJ tb n b=true->iN (jZ (live (.loop b) 0 g)) vs some=some σ->jQ ρ n σ a->eT w0 ρ H w->
 (∀id e c f w',Gz g id e=some d->ρ.le c->jQ c n e.σ f->eT w0 c e.H w'->Q (.exit id) f w')->
 (∀e c f w',Oh tb g e=some d->ρ.le c->jQ c n e.σ f->eT w0 c e.H w'->Q .ret f w')->By P b Q a w
theorem Kz {b:Cx} {s:GS} {a:Lj} (h:Oh tb b s=some a):a.e = .ret:=by
 obtain⟨vs,_,h⟩:=aD.1 (show ob (Mw tb s b.res) _=some a from h)
 cases h;rfl
theorem x_ {b:Cx} {id:Nat} {s:GS} {a:Lj} (h:Gz b id s=some a):a.e = .exit id:=by cases h;rfl
theorem Og {b:List Nat} {s:GS} {a:Lj} (h:Eo b s=some a):a.e = .normal∧a.vs=Au s.σ b∧a.H=s.H:=by cases h;exact⟨rfl,rfl,rfl⟩
theorem NV {n:Nat} {i:Cx} {g:List Nat} {k:GS->RS} {o b:Lj} {ρ:dH} {Q:Exit->Act->World->Prop} (L:RP w0 tb n i k b ρ Q) (h:iN g o.vs (fun σ=>k ⟨σ,o.H⟩)=some b) {c:GS} {a:dH} {d:Act} {w':World}
  (m:o.vs=Au c.σ g) (l:o.H=c.H) (e:ρ.le a) (F:jQ a n c.σ d) (R:eT w0 a c.H w'):Q .normal d w':=by
 obtain⟨σ,f,j⟩:=pG h
 rw[m]at f
 exact L.k ⟨σ,o.H⟩ a d w' j e (GE F f) (by rw[l];exact R)
theorem AP {ch:CH} {lp:LH} (J:eK P tb) (O:P.follows .mixedOrders=true) (j:∀w0:eD gs,qM P w0 ch) (p:EM P w0 tb lp) {n:Nat}:∀(c:Code) (m:Nat) (f:Cx) (k:GS->RS) (s:GS) (d:Lj) (ρ:dH) (a:Act) (w:World) (Q:Exit->Act->World->Prop),
  EJ tb n c=true->V_ tb ch lp c m f k s=some d->jQ ρ n s.σ a->eT w0 ρ s.H w->RP w0 tb n f k d ρ Q->c.wpr none P Q a w
 | .skip,m,f,k,s,d,ρ,a,w,Q,_,h,F,R,L=>Ng (L.k s ρ a w h (dH.le_refl _) F R)
 | .region id ops dr, m, f, k, s, d, ρ, a, w, Q, ho, h, F, R, L => by
  have l:ops.toList.all (Fo n)=true∧(!dr||chkF tb ops.toList (nP ops.toList))=true:=by simpa [EJ]using ho
  have ac:ops.toList.all iI=true:=List.all_eq_true.2 fun o ab=>(rS (List.all_eq_true.1 l.1 o ab)).1
  have I:Bool.casesOn (motive:=fun _=>RS) (Zo dr ops.toList) (CW tb ch ops.toList k ops.toList s) (Zt tb ch ops.toList (nP ops.toList) k ops.toList 0 [] [] s)=some d:=h
  have e:ops=ops.toList.toArray:=by simp
  cases dr with
  |false=>
   rw[e]
   exact rC ac (Ee J (j w0) ops.toList s ρ a w l.1 F R I L.k)
  | true =>
   rw[e]
   have hF:chkF tb ops.toList (nP ops.toList)=true:=by simpa using l.2
   have t:(CW tb ch ops.toList k ops.toList s=some d∧Cy ops.toList kZ=true)∨Zt tb ch ops.toList (nP ops.toList) k ops.toList 0 [] [] s=some d:=by
    cases M:Zo true ops.toList with
    |true=>rw[M]at I;exact .inr I
    |false=>
     rw[M]at I
     have:(!Cy ops.toList kZ)=false:=M
     exact .inl ⟨I,by simpa using this⟩
   exact Kj J j O l.1 hF F R t L.k
 | .seq x y,m,f,k,s,d,ρ,a,w,Q,ho,h,F,R,L=>by
  have l:EJ tb n x=true∧EJ tb n y=true:=by simpa [EJ]using ho
  refine Qd (AP J O j p x (live y m f) f (V_ tb ch lp y m f k) s d ρ a w _ l.1 h F R ⟨fun z q C w' u g F' A=> ?_,L.x,L.r⟩)
  exact AP J O j p y m f k z d q C w' Q l.2 u F' A ⟨fun U E S V D t=>L.k U E S V D (dH.le_trans g t),fun id U E S V D t=>L.x id U E S V D (dH.le_trans g t),fun U E S V D t=>L.r U E S V D (dH.le_trans g t)⟩
 | .cond x thn els, m, f, k, s, d, ρ, a, w, Q, ho, h, F, R, L => by
  have l:EJ tb n thn=true∧EJ tb n els=true:=by simpa [EJ]using ho
  obtain⟨v,hv,h⟩:=aD.1 (show ob (i_ s.σ x) _=some d from h)
  obtain⟨b,N,h⟩:=aD.1 h
  obtain⟨o,D,h⟩:=aD.1 (show ob _ (fun o=>Ex.casesOn (motive:=fun _=>RS) o.e (iN (jZ m) o.vs fun σ=>k ⟨σ,o.H⟩) (fun _=>some o) (some o))=some d from h)
  have hx:=b_ F hv
  rw[zO N]at hx
  have L':RP w0 tb n f (Eo (jZ m)) o ρ Q:=by
   refine⟨fun z q C w' u g F' A=> ?_,fun id z q C w' u g F' A=> ?_,fun z q C w' u g F' A=> ?_⟩
   ·obtain⟨B,X,Y⟩:=Og u
    rw[B]at h
    exact NV L h X Y g F' A
   ·have B:=x_ u
    rw[B]at h;cases h
    exact L.x id z q C w' u g F' A
   ·have B:=Kz u
    rw[B]at h;cases h
    exact L.r z q C w' u g F' A
  refine Ce hx.bool_inv (fun aa=> ?_) (fun Z=> ?_)
  ·rw[aa]at D
   exact AP J O j p thn m f (Eo (jZ m)) s o ρ a w Q l.1 D F R L'
  ·rw[Z]at D
   exact AP J O j p els m f (Eo (jZ m)) s o ρ a w Q l.2 D F R L'
 | .block id b, m, f, k, s, d, ρ, a, w, Q, ho, h, F, R, L => by
  have l:EJ tb n b=true:=by simpa [EJ]using ho
  obtain⟨o2,t,h⟩:=aD.1 (show ob (nB id (V_ tb ch lp b m ⟨f.res,f.retm,(id,m)::f.env⟩ (Eo (jZ m)) s)) (fun o=>Ex.casesOn (motive:=fun _=>RS) o.e (iN (jZ m) o.vs fun σ=>k ⟨σ,o.H⟩) (fun _=>some o) (some o))=some d from h)
  obtain⟨o,D,t⟩:=aD.1 (show ob (V_ tb ch lp b m ⟨f.res,f.retm,(id,m)::f.env⟩ (Eo (jZ m)) s) (fun o=>Ex.casesOn (motive:=fun _=>RS) o.e (some o) (fun i=>Bool.casesOn (motive:=fun _=>RS) (Nat.beq i id) (some o) (some ⟨.normal,o.vs,o.H⟩)) (some o))=some o2 from t)
  refine JE (AP J O j p b m _ (Eo (jZ m)) s o ρ a w _ l D F R ⟨fun z q C w' u g F' A=> ?_,fun i z q C w' u g F' A=> ?_,fun z q C w' u g F' A=> ?_⟩)
  ·obtain⟨B,X,Y⟩:=Og u
   rw[B]at t;cases t
   rw[B]at h
   exact NV L h X Y g F' A
  ·have B:=x_ u
   rw[B]at t
   by_cases W:i=id
   ·subst W
    have N:Nat.beq i i=true:=by simp
    simp only[N]at t
    cases t
    show Exit.inBlock i Q (.exit i) C w'
    simp only[Exit.inBlock,if_true]
    have K:o=⟨.exit i,Au z.σ (jZ (zS ((i,m)::f.env) i)),z.H⟩:=by cases u;rfl
    have he:zS ((i,m)::f.env) i=m:=by
     show(bif Nat.beq i i then m else zS f.env i)=m
     rw[N];rfl
    rw[he]at K
    exact NV (o:=⟨.normal,o.vs,o.H⟩) L h (by rw[K]) (by rw[K]) g F' A
   ·have N:Nat.beq i id=false:=lL W
    simp only[N]at t
    cases t
    rw[B]at h
    cases h
    show Exit.inBlock id Q (.exit i) C w'
    simp only[Exit.inBlock,if_neg W]
    refine L.x i z q C w' ?_ g F' A
    have he:zS ((id,m)::f.env) i=zS f.env i:=by
     show(bif Nat.beq id i then m else zS f.env i)=_
     rw[lL (Ne.symm W)];rfl
    rw[<-u]
    show Gz f i z=some ⟨.exit i,Au z.σ (jZ (zS ((id,m)::f.env) i)),z.H⟩
    rw[he];rfl
  ·have B:=Kz u
   rw[B]at t;cases t
   rw[B]at h;cases h
   exact L.r z q C w' u g F' A
 | .loop b,m,f,k,s,d,ρ,a,w,Q,ho,h,F,R,L=>by
  have l:EJ tb n b=true:=by simpa [EJ]using ho
  have I:lp b f (Au s.σ (jZ (live (.loop b) 0 f))) s.H=some d:=h
  have ad:=Kx s.σ (jZ (live (.loop b) 0 f))
  obtain⟨σ,T⟩:=ad
  exact By.loop (p b f _ s.H d I n σ ρ a w Q l T (GE F T) R L.x L.r)
 | .exit id,m,f,k,s,d,ρ,a,w,Q,_,h,F,R,L=>Nf (L.x id s ρ a w h (dH.le_refl _) F R)
 | .ret,m,f,k,s,d,ρ,a,w,Q,_,h,F,R,L=>Qc (L.r s ρ a w h (dH.le_refl _) F R)
 | .rangeFunc _ _ _ _,m,f,k,s,d,ρ,a,w,Q,ho,_,_,_,_=>by simp[EJ]at ho
 | .scope _,m,f,k,s,d,ρ,a,w,Q,ho,_,_,_,_=>by simp[EJ]at ho
 | .label _,m,f,k,s,d,ρ,a,w,Q,ho,_,_,_,_=>by simp[EJ]at ho
 | .goto _,m,f,k,s,d,ρ,a,w,Q,ho,_,_,_,_=>by simp[EJ]at ho
 | .refuse _,m,f,k,s,d,ρ,a,w,Q,ho,_,_,_,_=>by simp[EJ]at ho

theorem WH (i:eK P tb) {n:Nat} {s:GS} {ρ:dH} {a:Act} {w:World} (F:jQ ρ n s.σ a) (R:eT w0 ρ s.H w) {r:ResultVar} {g:GV} (h:Za tb s r=some g):∃v,Rl ρ g v∧(C_ a.tmps r).run P w = .ok v w:=by
 cases r with
 |tmp t=>exact⟨_,F.slot t g h,by simp[C_,Act.eval]⟩
 |cell q T=>
  obtain⟨v,k,h⟩:=aD.1 (show ob (CN s.σ q) _=some g from h)
  have d:=F.slot q v k
  obtain⟨x,_,_,_,_,_,m,c⟩:=Is (P:=P) i R d h
  have c:=c w rfl
  refine⟨x,m,?_⟩
  obtain⟨p,j,_⟩:=aD.1 (show ob v.asP _=some g from h)
  rw[BB j]at d
  obtain⟨l,o,e⟩:=d.ptr_inv
  have f:a.tmps.getD q undef = .pointer (some ⟨l.b,l.off+p.2,none⟩):=e
  rw[e]at c
  simp only[Instr.loadAt,Instr.sureAddr]at c
  simp only[C_,f,asAddr]
  simpa using c
theorem My (d:eK P tb) {n:Nat} {s:GS} {ρ:dH} {a:Act} {w:World} (F:jQ ρ n s.σ a) (R:eT w0 ρ s.H w):∀{l:List ResultVar} {gs:List GV},Mw tb s l=some gs->∃vs,oS ρ gs vs∧(l.mapM (C_ a.tmps)).run P w = .ok vs w
 | [],gs,h=>by cases h;exact⟨[],.nil,by simp⟩
 |r::l,gs,h=>by
  obtain⟨g,j,h⟩:=aD.1 (show ob (Za tb s r) (fun v=>ob (Mw tb s l) fun vs=>some (v::vs))=some gs from h)
  obtain⟨e,b,h⟩:=aD.1 h
  cases h
  obtain⟨v,k,f⟩:=WH (P:=P) d F R j
  obtain⟨vs,c,i⟩:=My d F R b
  exact⟨v::vs,.cons k c,by simp[List.mapM_cons,f,i]⟩
theorem Ug {ρ:dH} {gs:List GV} {vs:List Value} (h:oS ρ gs vs):Rl ρ (Rc gs) (if h:vs.toArray.size=1 then vs.toArray[0]else .tuple vs.toArray):=by
 cases gs with
 |nil=>rw[h.of_nil];exact Gr .nil
 | cons g gs =>
  obtain⟨v,vs,rfl,a,b⟩:=h.of_cons
  cases gs with
  |nil=>rw[b.of_nil];show Rl ρ g _;simpa using a
  |cons f gs=>
   obtain⟨i,e,rfl,c,d⟩:=b.of_cons
   rw[dif_neg (by simp)]
   exact Gr (.cons a (.cons c d))
theorem Ep (i:eK P tb) {fn:Func} {c:Cx} (d:c.res=fn.results.toList) {n:Nat} {s:GS} {ρ:dH} {a:Act} {w:World} {b:Lj} (F:jQ ρ n s.σ a) (R:eT w0 ρ s.H w) (h:Oh tb c s=some b):b.H=s.H∧∃v,Rl ρ (Rc b.vs) v∧(results fn a.tmps).run P w = .ok v w:=by
 obtain⟨gs,e,h⟩:=aD.1 (show ob (Mw tb s c.res) _=some b from h)
 cases h
 obtain⟨vs,f,g⟩:=My (P:=P) i F R e
 rw[d]at g
 refine⟨rfl,_,Ug f,?_⟩
 rw[yN]
 have j:(fn.results.mapM (C_ a.tmps)).run P w = .ok vs.toArray w:=by
  rw[Array.mapM_eq_mapM_toList]
  simp[g]
 simp[j]
structure Rt (P:Program) (G:GP) (Fs:FT) {gs:wT} (w0:eD gs):Prop where
 tab:eK P G.tab
 mixed:P.follows .mixedOrders=true
 fns:∀{f fn},Fs f=some fn->P.funcs[f]? = some fn∧aO P f∧(∀c,fn.body=some c->EJ G.tab fn.ntmps c=true)∧fn.params.size+fn.nfree<=fn.ntmps
 ext:∀{f us H g H'},G.ext f us H=some (g,H')->∀ρ w vs,eT w0 ρ H w->oS ρ us vs->kE P w0 ρ f vs w g H'
 exn:∀{f us g},G.exn f us=some g->∀ρ w vs H,eT w0 ρ H w->oS ρ us vs->kE P w0 ρ f vs w g H
 /-- the function that catches returns 0 and 0 if its argument returns;its two variables are new objects -/
 cat:∀{ρ:dH} {g us cs w H H' c1 c2},eT w0 ρ H w->(∀ρ' w',ρ.le ρ'->eT w0 ρ' ((H.new (.cells [vE])).new (.cells [vE])) w'->∃x,kE P w0 ρ' g (us++cs) w' x H')->H'.cells H.n=some [c1]->H'.cells (H.n+1)=some [c2]->
  kE P w0 ρ G.cat [.func (.func g) us.toArray cs.toArray] w (.tup [vE,vE]) ((((H'.set H.n (.cells [vE])).set (H.n+1) (.cells [vE])).del H.n).del (H.n+1))
def RA (P:Program) {gs:wT} (w0:eD gs) (c:IH):Prop:=∀f us H a,c (.fn f) us H=some a->a.e = .ret->∀ρ w vs,eT w0 ρ H w->oS ρ us vs->
 aO P f∧Calls P f vs.toArray w fun e w'=>∃v b,e = .returned v∧ρ.le b∧eT w0 b a.H w'∧Rl b (Rc a.vs) v
theorem LG {d:IH} (h:RA P w0 d):qM P w0 (Z_ d):=fun f us H g H' hc ρ w vs R k=>by
 obtain⟨o,i,b⟩:=aD.1 (show ob (d (.fn f) us H) _=some (g,H')from hc)
 cases c:o.e with
 |normal=>rw[c]at b;cases b
 |exit id=>rw[c]at b;cases b
 |ret=>
  rw[c]at b;cases b
  obtain⟨j,a⟩:=h f us H o i c ρ w vs R k
  exact .inr ⟨j _ w,a⟩
theorem Hn {s:IH} (d:Rt P G Fs w0) (h:RA P w0 s):qM P w0 (BC G s):=fun f us H g H' hc ρ w vs R c=>by
 unfold BC callQ at hc
 cases a:Nat.beq f G.cat with
 | false =>
  rw[a]at hc
  cases k:G.ext f us H with
  |some r=>
   simp only[k]at hc
   cases hc
   exact d.ext k ρ w vs R c
  | none =>
   simp only[k]at hc
   cases n:G.exn f us with
   |some r=>
    simp only[n]at hc
    cases hc
    exact d.exn n ρ w vs _ R c
   |none=>
    simp only[n]at hc
    exact LG h f us H g H' hc ρ w vs R c
 | true =>
  rw[a]at hc
  have a:=Nat.eq_of_beq_eq_true a
  subst a
  cases us with
  |nil=>cases hc
  | cons u us =>
   cases us with
   |cons _ _=>cases hc
   |nil=>
    obtain⟨p,A,hc⟩:=aD.1 (show ob u.asF _=some (g,H')from hc)
    rw[gT,gT]at hc
    obtain⟨x,C,hc⟩:=aD.1 hc
    obtain⟨I,e,hc⟩:=aD.1 hc
    obtain⟨J,i,hc⟩:=aD.1 hc
    obtain⟨l,hc⟩:=bI.1 hc
    obtain⟨m,hc⟩:=bI.1 hc
    rw[vK,vK,Di,Di]at hc
    cases hc
    obtain⟨E,rfl⟩:=List.length_eq_one_iff.1 (Nat.eq_of_beq_eq_true l)
    obtain⟨F,rfl⟩:=List.length_eq_one_iff.1 (Nat.eq_of_beq_eq_true m)
    obtain⟨v,vs,rfl,q,z⟩:=c.of_cons
    rw[z.of_nil]
    rw[Su A]at q
    obtain⟨D,y,rfl,B,j⟩:=q.fn_inv
    exact d.cat R (fun o w' b t=>⟨x.1,LG h p.1 _ _ x.1 x.2 C o w' _ t ((B.le b).append (j.le b))⟩) e i
theorem YE {r:IH} (n:∀w0:eD gs,Rt P G Fs w0) (u:∀w0:eD gs,RA P w0 r) (k:EM P w0 G.tab fun b s=>r (.loop b s)) {f:Nat} {fn:Func} {us:List GV} {H:GH} {d:Lj} (K:Fs f=some fn) (h:Tl G.tab (BC G r) (fun b s=>r (.loop b s)) fn us H=some d) (J:d.e = .ret) {ρ:dH} {w:World} {vs:List Value} (R:eT w0 ρ H w) (A:oS ρ us vs):
  aO P f∧Calls P f vs.toArray w fun e w'=>∃v a,e = .returned v∧ρ.le a∧eT w0 a d.H w'∧Rl a (Rc d.vs) v:=by
 obtain⟨C,D,E,I⟩:=(n w0).fns K
 refine⟨D,?_⟩
 obtain⟨i,z,h⟩:=aD.1 (show ob fn.body _=some d from h)
 obtain⟨σ,l,h⟩:=pG h
 rw[List.range_eq_range']at l
 have q:=Hf l
 have L:vs.length<=fn.ntmps:=by rw[<-A.len,q];exact I
 refine rD C z ?_
 have F:jQ ρ fn.ntmps σ {tmps:=vs.toArray++Array.replicate (fn.ntmps - vs.toArray.size) undef,defers:=[]}:=by
  refine JZ rfl (by simp;omega) A (fun j v o=> ?_) l
  have x:=bA o
  rw[Nat.zero_add,Array.getElem?_append_left (by simpa using x)]
  simpa using o
 refine AP (n w0).tab (n w0).mixed (fun w0=>Hn (n w0) (u w0)) k i _ _ _ ⟨σ,H⟩ d ρ _ w _ (E i z) h F R ⟨fun B a y w' p c F' m=> ?_,fun id B a y w' p c F' m=> ?_,fun B a y w' p c F' m=> ?_⟩
 ·obtain⟨t,v,o,g⟩:=Ep (fn:=fn) (n w0).tab rfl F' m p
  exact Sx.body_end (.inr rfl) F'.defers g ⟨v,a,rfl,c,by rw[t];exact m,o⟩
 ·have:=x_ p
  rw[J]at this;cases this
 ·obtain⟨t,v,o,g⟩:=Ep (fn:=fn) (n w0).tab rfl F' m p
  exact Sx.body_end (.inl rfl) F'.defers g ⟨v,a,rfl,c,by rw[t];exact m,o⟩
theorem Zc (y:∀w0:eD gs,Rt P G Fs w0):∀(fuel:Nat) (w0:eD gs),RA P w0 (run G Fs fuel)∧EM P w0 G.tab fun b c=>run G Fs fuel (.loop b c):=by
 intro fuel
 induction fuel with
 |zero=>exact fun w0=>⟨fun f us H g h=>(by cases h),fun b c vs H g h=>(by cases h)⟩
 | succ fuel ih =>
  have x:∀w0:eD gs,RA P w0 (run G Fs fuel):=fun w0=>(ih w0).1
  intro w0
  have p:=(ih w0).2
  refine⟨fun f us H g h T ρ w vs R U=> ?_,fun b c vs H g h n σ ρ a w Q L C F R M j=> ?_⟩
  ·obtain⟨fn,B,h⟩:=aD.1 (show ob (Fs f) _=some g from h)
   exact YE y x p B h T R U
  ·have A:iN (jZ (live (.loop b) 0 c)) vs (fun σ=>ob (V_ G.tab (BC G (run G Fs fuel)) (fun b c=>run G Fs fuel (.loop b c)) b (live (.loop b) 0 c) c (Eo (jZ (live (.loop b) 0 c))) ⟨σ,H⟩) fun o=>Ex.casesOn (motive:=fun _=>RS) o.e (run G Fs fuel (.loop b c) o.vs o.H) (fun _=>some o) (some o))=some g:=h
   obtain⟨V,k,A⟩:=pG A
   rw[C]at k;cases k
   obtain⟨o,S,r⟩:=aD.1 A
   refine By.round (AP (y w0).tab (y w0).mixed (fun w0=>Hn (y w0) (x w0)) p b _ c _ ⟨σ,H⟩ o ρ a w _ L S F R ⟨fun s i u w' m d F' t=> ?_,fun id s i u w' m d F' t=> ?_,fun s i u w' m d F' t=> ?_⟩)
   ·obtain⟨v,N,O⟩:=Og m
    rw[v,N,O]at r
    obtain⟨K,l⟩:=Kx s.σ (jZ (live (.loop b) 0 c))
    exact p b c _ s.H g r n K i u w' Q L l (GE F' l) t (fun id D q z E I J=>M id D q z E I (dH.le_trans d J)) (fun D q z E I J=>j D q z E I (dH.le_trans d J))
   ·have v:=x_ m
    rw[v]at r;cases r
    exact M id s i u w' m d F' t
   ·have v:=Kz m
    rw[v]at r;cases r
    exact j s i u w' m d F' t
theorem DZ (a:∀w0:eD gs,Rt P G Fs w0) {fuel f:Nat} {us:List GV} {H H':GH} {g:GV} (h:OU G Fs fuel f us H=some (g,H')) {ρ:dH} {w:World} {vs:List Value} (R:eT w0 ρ H w) (b:oS ρ us vs):kE P w0 ρ f vs w g H':=
 Hn (a w0) (Zc a fuel w0).1 f us H g H' h ρ w vs R b
theorem eT.start (b:eD gs) (c:gs.env=[]):eT b (fun _=>none) H0 b.w:=⟨Ae.refl _,fun h o a=>(by cases a),fun h g o k l j a=>(by cases a),fun _ _=>rfl,fun h d=>absurd d (Nat.not_lt_zero h),fun h v l f=>(by cases f),fun i v e=>by rw[c]at e;simp at e⟩
end
end
end Go.Gx
end
section
namespace Go.Gx
open Go Go.Sx
noncomputable section
def oN (vs:List GV) (H:GH):RS:=some ⟨.normal,vs,H⟩
def oX (id:Nat) (vs:List GV) (H:GH):RS:=some ⟨.exit id,vs,H⟩
def oR (vs:List GV) (H:GH):RS:=some ⟨.ret,vs,H⟩
def jn (r:RS) (k:List GV->GH->RS):RS:=ob r fun o=>Ex.casesOn (motive:=fun _=>RS) o.e (k o.vs o.H) (fun _=>some o) (some o)
def rG (v:GV) (b:Bool) (H:GH) (X:OR):OR:=GV.casesOn (motive_1:=fun _=>OR) v (fun _ _=>none) (fun q=>Bool.casesOn (motive:=fun _=>OR) (Pg q b) (some (.un,H)) X) (fun _ _=>none) (fun _ _=>none) none (fun _ _ _ _=>none) none (fun _=>none) (fun _ _ _=>none) none none (fun _=>none) (fun _=>none) (some (.un,H)) none (fun _=>none)
def U0 {R:Type} (a:List GV) (f:Option R):Option R:=List.casesOn (motive:=fun _=>Option R) a (f) fun _ _=>none
def U1 {R:Type} (b:List GV) (f:GV->Option R):Option R:=List.casesOn (motive:=fun _=>Option R) b none fun a c=>List.casesOn (motive:=fun _=>Option R) c (f a) fun _ _=>none
def U2 {R:Type} (c:List GV) (f:GV->GV->Option R):Option R:=List.casesOn (motive:=fun _=>Option R) c none fun a d=>List.casesOn (motive:=fun _=>Option R) d none fun b e=>List.casesOn (motive:=fun _=>Option R) e (f a b) fun _ _=>none
def U3 {R:Type} (d:List GV) (f:GV->GV->GV->Option R):Option R:=List.casesOn (motive:=fun _=>Option R) d none fun a e=>List.casesOn (motive:=fun _=>Option R) e none fun b g=>List.casesOn (motive:=fun _=>Option R) g none fun c h=>List.casesOn (motive:=fun _=>Option R) h (f a b c) fun _ _=>none
def U4 {R:Type} (e:List GV) (f:GV->GV->GV->GV->Option R):Option R:=List.casesOn (motive:=fun _=>Option R) e none fun a g=>List.casesOn (motive:=fun _=>Option R) g none fun b h=>List.casesOn (motive:=fun _=>Option R) h none fun c i=>List.casesOn (motive:=fun _=>Option R) i none fun d j=>List.casesOn (motive:=fun _=>Option R) j (f a b c d) fun _ _=>none
def U5 {R:Type} (g:List GV) (f:GV->GV->GV->GV->GV->Option R):Option R:=List.casesOn (motive:=fun _=>Option R) g none fun a h=>List.casesOn (motive:=fun _=>Option R) h none fun b i=>List.casesOn (motive:=fun _=>Option R) i none fun c j=>List.casesOn (motive:=fun _=>Option R) j none fun d k=>List.casesOn (motive:=fun _=>Option R) k none fun e l=>List.casesOn (motive:=fun _=>Option R) l (f a b c d e) fun _ _=>none
def U6 {R:Type} (h:List GV) (f:GV->GV->GV->GV->GV->GV->Option R):Option R:=List.casesOn (motive:=fun _=>Option R) h none fun a i=>List.casesOn (motive:=fun _=>Option R) i none fun b j=>List.casesOn (motive:=fun _=>Option R) j none fun c k=>List.casesOn (motive:=fun _=>Option R) k none fun d l=>List.casesOn (motive:=fun _=>Option R) l none fun e m=>List.casesOn (motive:=fun _=>Option R) m none fun g n=>List.casesOn (motive:=fun _=>Option R) n (f a b c d e g) fun _ _=>none
def U7 {R:Type} (i:List GV) (f:GV->GV->GV->GV->GV->GV->GV->Option R):Option R:=List.casesOn (motive:=fun _=>Option R) i none fun a j=>List.casesOn (motive:=fun _=>Option R) j none fun b k=>List.casesOn (motive:=fun _=>Option R) k none fun c l=>List.casesOn (motive:=fun _=>Option R) l none fun d m=>List.casesOn (motive:=fun _=>Option R) m none fun e n=>List.casesOn (motive:=fun _=>Option R) n none fun g o=>List.casesOn (motive:=fun _=>Option R) o none fun h p=>List.casesOn (motive:=fun _=>Option R) p (f a b c d e g h) fun _ _=>none
def U8 {R:Type} (j:List GV) (f:GV->GV->GV->GV->GV->GV->GV->GV->Option R):Option R:=List.casesOn (motive:=fun _=>Option R) j none fun a k=>List.casesOn (motive:=fun _=>Option R) k none fun b l=>List.casesOn (motive:=fun _=>Option R) l none fun c m=>List.casesOn (motive:=fun _=>Option R) m none fun d n=>List.casesOn (motive:=fun _=>Option R) n none fun e o=>List.casesOn (motive:=fun _=>Option R) o none fun g p=>List.casesOn (motive:=fun _=>Option R) p none fun h q=>List.casesOn (motive:=fun _=>Option R) q none fun i r=>List.casesOn (motive:=fun _=>Option R) r (f a b c d e g h i) fun _ _=>none
def U9 {R:Type} (k:List GV) (f:GV->GV->GV->GV->GV->GV->GV->GV->GV->Option R):Option R:=List.casesOn (motive:=fun _=>Option R) k none fun a l=>List.casesOn (motive:=fun _=>Option R) l none fun b m=>List.casesOn (motive:=fun _=>Option R) m none fun c n=>List.casesOn (motive:=fun _=>Option R) n none fun d o=>List.casesOn (motive:=fun _=>Option R) o none fun e p=>List.casesOn (motive:=fun _=>Option R) p none fun g q=>List.casesOn (motive:=fun _=>Option R) q none fun h r=>List.casesOn (motive:=fun _=>Option R) r none fun i s=>List.casesOn (motive:=fun _=>Option R) s none fun j t=>List.casesOn (motive:=fun _=>Option R) t (f a b c d e g h i j) fun _ _=>none
def Oo:gJ->Code->Code
 | [],c=>c
 |0::p,.seq a _=>Oo p a
 |1::p,.seq _ b=>Oo p b
 |0::p,.cond _ a _=>Oo p a
 |1::p,.cond _ _ b=>Oo p b
 |0::p,.block _ b=>Oo p b
 |0::p,.loop b=>Oo p b
 |_,c=>c
def cF (fn:Func) (p:gJ):Code:=match fn.body with
 |some c=>Oo p c
 |none=> .skip
def gR (fn:Func) (a:List (Nat×Nat)):Cx:=⟨fn.results.toList,GJ fn.results.toList,a⟩
abbrev fD:=CH->QH->List GV->GH->RS
structure DU where
 fn:Nat->Option (Func×fD)
 lp:Nat->Option ((Code×Cx)×fD)
def DU.fns (T:DU) (f:Nat):Option Func:=ob (T.fn f) fun e=>some e.1
def DU.loop (T:DU) (lp:LH):QH:=fun i vs H=>ob (T.lp i) fun e=>lp e.1.1 e.1.2 vs H
def rr (T:DU) (G:GP) (n:Nat):Bool->QH:=Nat.rec (motive:=fun _=>Bool->QH) (fun _ _ _ _=>none) (fun _ a b t vs H=>Bool.casesOn (motive:=fun _=>RS) b (ob (T.fn t) fun e=>e.2 (callQ G (a false)) (a true) vs H) (ob (T.lp t) fun e=>e.2 (callQ G (a false)) (a true) vs H)) n
structure Hb (T:DU) (tb:TB):Prop where
 fn:∀{f e},T.fn f=some e->∀(c:CH) (lp:LH) us H,e.2 c (T.loop lp) us H=Tl tb c lp e.1 us H
 lp:∀{i e},T.lp i=some e->∀(c:CH) (lp:LH) us H,e.2 c (T.loop lp) us H=Zs tb c lp e.1.1 e.1.2 us H
theorem aaA {T:DU} {G:GP} (h:Hb T G.tab):∀n,rr T G n false=(fun f us H=>run G T.fns n (.fn f) us H)∧rr T G n true=T.loop (fun b a=>run G T.fns n (.loop b a)):=by
 intro n
 induction n with
 |zero=>
  refine⟨rfl,?_⟩
  funext i vs H
  show none=ob (T.lp i) fun e=>none
  cases T.lp i<;>rfl
 | succ n ih =>
  obtain⟨c,d⟩:=ih
  constructor
  ·funext f us H
   show ob (T.fn f) (fun e=>e.2 (callQ G (rr T G n false)) (rr T G n true) us H)=ob (T.fns f) fun fn=>Tl G.tab (BC G (run G T.fns n)) (fun b a=>run G T.fns n (.loop b a)) fn us H
   unfold DU.fns
   cases g:T.fn f with
   |none=>rfl
   |some e=>
    show e.2 (callQ G (rr T G n false)) (rr T G n true) us H=Tl G.tab (BC G (run G T.fns n)) (fun b a=>run G T.fns n (.loop b a)) e.1 us H
    rw[c,d]
    exact h.fn g _ _ us H
  ·funext i vs H
   show ob (T.lp i) (fun e=>e.2 (callQ G (rr T G n false)) (rr T G n true) vs H)=ob (T.lp i) fun e=>run G T.fns (n+1) (.loop e.1.1 e.1.2) vs H
   cases g:T.lp i with
   |none=>rfl
   |some e=>
    show e.2 (callQ G (rr T G n false)) (rr T G n true) vs H=Zs G.tab (BC G (run G T.fns n)) (fun b a=>run G T.fns n (.loop b a)) e.1.1 e.1.2 vs H
    rw[c,d]
    exact h.lp g _ _ vs H
def Zy (tb:TB) (fn:Func):Bool:=match fn.body with
 |some c=>EJ tb fn.ntmps c&&Nat.ble (fn.params.size+fn.nfree) fn.ntmps
 |none=>false
theorem Ml {tb:TB} {fn:Func} (h:Zy tb fn=true):(∀c,fn.body=some c->EJ tb fn.ntmps c=true)∧fn.params.size+fn.nfree<=fn.ntmps:=by
 unfold Zy at h
 cases a:fn.body with
 |none=>rw[a]at h;cases h
 |some c=>
  rw[a]at h
  simp only[Bool.and_eq_true]at h
  exact⟨fun b hc=>by cases hc;exact h.1,by simpa using h.2⟩
def Ho (T:DU) (G:GP) (fuel:Nat) (f:FuncId) (args:List GV) (H:GH):OR:=callQ G (rr T G fuel false) f args H
theorem D_ {T:DU} {G:GP} (h:Hb T G.tab) (fuel:Nat) (f:FuncId) (args:List GV) (H:GH):Ho T G fuel f args H=OU G T.fns fuel f args H:=by
 unfold Ho OU BC
 rw[(aaA h fuel).1]
end
end Go.Gx
end
section
set_option maxRecDepth 100000
namespace Go.Gx
open Go Go.Sx Go.Proofs
noncomputable section
abbrev y:=uZ
def gB (f:Func) (c:CH) (_:QH) (us:List GV) (H:GH):RS:=Tl y c (fun _ _ _ _=>none) f us H
def oT (f:Func) (i:Nat) (c:CH) (q:QH) (us:List GV) (H:GH):RS:=Tl y c (fun _ _ vs H=>q i vs H) f us H
def gL (e:Code×Cx) (i:Nat) (c:CH) (q:QH) (us:List GV) (H:GH):RS:=Zs y c (fun _ _ vs H=>q i vs H) e.1 e.2 us H
def gL1 (e:Code×Cx) (n i j:Nat) (c:CH) (q:QH) (us:List GV) (H:GH):RS:=Zs y c (fun _ a vs H=>bif Nat.beq a.env.length n then q i vs H else q j vs H) e.1 e.2 us H
def gD (e:Code×Cx) (i:Nat):(Code×Cx)×fD:=(e,gL e i)
def gD1 (e:Code×Cx) (n i j:Nat):(Code×Cx)×fD:=(e,gL1 e n i j)
def i (n:Nat):GV:= .int .i64 (.ofNat n)
def bC (q:Bool) (f t:RS):RS:=Bool.casesOn (motive:=fun _=>RS) q f t
def K (c:CH) (f:Nat) (us:List GV) (H:GH) (k:GV->GH->RS):RS:=kS (c f us H) k
def bn (a:BinOp) (T:Nat) (v u:GV) (k:GV->RS):RS:=ob (KQ y a T v u) k
def ld (T:Nat) (v:GV) (H:GH) (k:GV->RS):RS:=ob (vA y T v H) k
def fd (T n:Nat) (v:GV) (k:GV->RS):RS:=ob (DG y T n v) k
def ix (T:Nat) (v u:GV) (k:GV->RS):RS:=ob (Ir y T v u) k
def ln (T:Nat) (v:GV) (k:GV->RS):RS:=ob (UJ y T v) k
def ex (n:Nat) (v:GV) (k:GV->RS):RS:=ob (Zl n v) k
theorem rN {a:Type} {f n:Nat} {x y:Option a} {e:a} {R:Prop} (b:x=some e->R) (c:y=some e->R):tN f n x y=some e->R:=by
 unfold tN
 cases Nat.blt f n
 ·exact c
 ·exact b
theorem rL {α:Type} {f n:Nat} {x e:α} {R:Nat->α->Prop} (h:R n x):tL f n x=some e->R f e:=by
 intro he
 unfold tL at he
 cases hb:Nat.beq f n with
 |false=>rw[hb]at he;cases he
 |true=>rw[hb]at he;cases he;rw[Nat.eq_of_beq_eq_true hb];exact h
def B59 (c:CH) (S:QH) (us:List GV) (H:GH):RS:=U1 us fun x1=>
 kS (Ox x1 H) fun t2 O=>
 fd 41 1 t2 fun t4=>
 ld 35 t4 O fun t5=>
 ln 35 t5 fun t6=>
 bn .eql 3 t6 (i 0) fun z=>
 kS (rG z false O (ob (DG y 41 1 t2) fun g8=>some (g8,O))) fun t9 b=>
 kS (rG z false b (ob (vA y 35 t9 b) fun F=>some (F,b))) fun T j=>
 kS (rG z false j (ob (UJ y 35 T) fun G=>some (G,j))) fun U k=>
 kS (rG z false k (ob (KQ y .gtr 3 U (i 6)) fun I=>some (I,k))) fun V l=>
 ob (EE z (.bool true) V) fun a=>
 kS (rG a false l (ob (DG y 41 2 t2) fun J=>some (J,l))) fun W d=>
 kS (rG a false d (ob (vA y 39 W d) fun L=>some (L,d))) fun X m=>
 kS (rG a false m (ob (UJ y 39 X) fun M=>some (M,m))) fun Y n=>
 kS (rG a false n (ob (KQ y .gtr 3 Y (i 12)) fun N=>some (N,n))) fun Z o=>
 ob (EE a (.bool true) Z) fun aa=>
 ob (GV.asB aa) fun Q=>jn (bC Q (oN [t2] o) (oR [(i 3)] o)) fun A p=>U1 A fun e=>ld 41 e p fun ab=>
 K c 89 [ab] p fun ac q=>
 ob (WZ .not ac) fun ad=>
 ob (GV.asB ad) fun R=>jn (bC R (oN [e] q) (oR [(i 5)] q)) fun B r=>U1 B fun f=>fd 41 1 f fun ae=>
 ld 35 ae r fun v=>
 ln 35 v fun af=>
 jn (nB 0 (S 9 [f,v,af,(i 0)] r)) fun C s=>U1 C fun g=>fd 41 2 g fun ag=>
 ld 39 ag s fun w=>
 ln 39 w fun ah=>
 jn (nB 2 (S 10 [g,w,ah,(i 0)] s)) fun D t=>U1 D fun h=>ld 41 h t fun ai=>
 K c 92 [ai] t fun aj u=>
 fd 41 2 h fun ak=>
 ld 39 ak u fun x=>
 ln 39 x fun al=>
 jn (nB 4 (S 11 [aj,x,al,(i 0)] u)) fun E P=>U0 E (oR [(i 0)] P)
def L9 (c:CH) (O:QH) (us:List GV) (H:GH):RS:=U4 us fun b q d e=>jn (bn .lss 3 e d fun G=>
 ob (GV.asB G) fun E=>jn (bC E (oX 0 [b] H) (oN [b,q,d,e] H)) fun n h=>U4 n fun r f s g=>jn (nB 1 (ix 35 f g fun I=>
 ld 68 I h fun J=>
 kS (u_ y 68 h) fun m B=>
 kS (sE y 68 m J B) fun P j=>
 ld 68 m j fun L=>
 K c 90 [L] j fun M k=>
 ob (WZ .not M) fun N=>
 ob (GV.asB N) fun F=>jn (bC F (oN [r,f,s,g] k) (oR [(i 2)] k)) fun o C=>U4 o fun t u v w=>oN [t,u,v,w] C)) fun p D=>U4 p fun x z A a=>bn .add 3 a (i 1) fun l=>
 oN [x,z,A,l] D) (O 9)
def L10 (c:CH) (S:QH) (us:List GV) (H:GH):RS:=U4 us fun b p d e=>jn (bn .lss 3 e d fun F=>
 ob (GV.asB F) fun D=>jn (bC D (oX 2 [b] H) (oN [b,p,d,e] H)) fun m j=>U4 m fun f g q h=>jn (nB 3 (ix 39 g h fun G=>
 ld 163 G j fun I=>
 kS (u_ y 163 j) fun l A=>
 kS (sE y 163 l I A) fun R a=>
 ld 163 l a fun J=>
 fd 41 1 f fun L=>
 ld 35 L a fun M=>
 ln 35 M fun N=>
 K c 91 [J,N] a fun O k=>
 ob (WZ .not O) fun P=>
 ob (GV.asB P) fun E=>jn (bC E (oN [f,g,q,h] k) (oR [(i 7)] k)) fun n B=>U4 n fun r s t u=>oN [r,s,t,u] B)) fun o C=>U4 o fun v w x z=>bn .add 3 z (i 1) fun Q=>
 oN [v,w,x,Q] C) (S 10)
def L11 (c:CH) (P:QH) (us:List GV) (H:GH):RS:=U4 us fun o p a b=>jn (bn .lss 3 b a fun F=>
 ob (GV.asB F) fun D=>jn (bC D (oX 4 [] H) (oN [o,p,a,b] H)) fun l g=>U4 l fun d e q f=>jn (nB 5 (ix 39 e f fun G=>
 ld 163 G g fun I=>
 kS (u_ y 163 g) fun k A=>
 kS (sE y 163 k I A) fun O h=>
 ld 163 k h fun J=>
 K c 93 [J,d] h fun L j=>
 ob (WZ .not L) fun M=>
 ob (GV.asB M) fun E=>jn (bC E (oN [d,e,q,f] j) (oR [(i 6)] j)) fun m B=>U4 m fun r s t u=>oN [r,s,t,u] B)) fun n C=>U4 n fun v w x z=>bn .add 3 z (i 1) fun N=>
 oN [v,w,x,N] C) (P 11)
def B60 (c:CH) (p:QH) (us:List GV) (H:GH):RS:=U2 us fun w x=>
 kS (Ox w H) fun q o=>
 fd 28 0 q fun u=>
 ld 22 u o fun v=>
 ln 22 v fun r=>
 kS (PZ y 22 r r o) fun s t=>
 ln 22 s fun k=>
 jn (nB 0 (p 12 [x,q,s,k,(i 0)] t)) fun d b=>U3 d fun f a g=>fd 28 0 a fun l=>
 ld 22 l b fun m=>
 ln 22 m fun n=>
 jn (nB 2 (p 13 [f,a,g,n,(i 0)] b)) fun e j=>U1 e fun h=>oR [h] j
def L12 (c:CH) (B:QH) (us:List GV) (H:GH):RS:=U5 us fun a b d e f=>jn (bn .lss 3 f e fun x=>
 ob (GV.asB x) fun w=>jn (bC w (oX 0 [a,b,d] H) (oN [a,b,d,e,f] H)) fun j t=>U5 j fun l m g n h=>jn (nB 1 (ix 22 g h fun z=>
 kS (sE y 3 z (.int .i64 (.negSucc 0)) t) fun C u=>
 oN [l,m,g,n,h] u)) fun k v=>U5 k fun o p q r s=>bn .add 3 s (i 1) fun A=>
 oN [o,p,q,r,A] v) (B 12)
def L13 (c:CH) (X:QH) (us:List GV) (H:GH):RS:=U5 us fun s t d e f=>jn (bn .lss 3 f e fun Q=>
 ob (GV.asB Q) fun O=>jn (bC O (oX 2 [d] H) (oN [s,t,d,e,f] H)) fun o l=>U5 o fun b g h j a=>jn (nB 3 (bn .shr 50 b a fun R=>
 bn .and 50 R (.int .u32 (.ofNat 1)) fun S=>
 bn .eql 50 S (.int .u32 (.ofNat 0)) fun T=>
 ob (GV.asB T) fun P=>jn (bC P (oN [b,g,h,a,j,a] l) (oX 3 [b,g,h,j,a] l)) fun p m=>U6 p fun u k v w x y=>ld 28 k m fun U=>
 K c 94 [U,w] m fun n L=>
 ln 22 n fun V=>
 jn (nB 4 (X 14 [u,k,v,x,y,n,V,(i 0)] L)) fun q M=>U5 q fun z A B C D=>oN [z,A,B,C,D] M)) fun r N=>U5 r fun E F G I J=>bn .add 3 J (i 1) fun W=>
 oN [E,F,G,I,W] N) (X 13)
def L14 (c:CH) (ql:QH) (us:List GV) (H:GH):RS:=U8 us fun a92 a93 a94 a95 a96 a97 a98 a99=>jn (bn .lss 3 a99 a98 fun t100=>
 ob (GV.asB t100) fun q101=>jn (bC q101 (oX 4 [a92,a93,a94,a95,a96] H) (oN [a92,a93,a94,a95,a96,a97,a98,a99] H)) fun vs102 h103=>U8 vs102 fun a104 a105 a106 a107 a108 a109 a110 a111=>jn (nB 5 (ix 22 a109 a111 fun t112=>
 ld 3 t112 h103 fun t113=>
 bn .geq 3 t113 (i 0) fun t114=>
 kS (rG t114 true h103 (some (a106,h103))) fun t115 h116=>
 kS (rG t114 true h116 (some (a111,h116))) fun t117 h118=>
 kS (rG t114 true h118 (ob (Ir y 22 t115 t117) fun g119=>some (g119,h118))) fun t120 h121=>
 kS (rG t114 true h121 (ob (vA y 3 t120 h121) fun g122=>some (g122,h121))) fun t123 h124=>
 kS (rG t114 true h124 (ob (KQ y .lss 3 t123 (i 0)) fun g125=>some (g125,h124))) fun t126 h127=>
 kS (rG t114 true h127 (some (t126,h127))) fun t128 h129=>
 kS (rG t128 false h129 (some (t113,h129))) fun t130 h131=>
 kS (rG t128 false h131 (some (a106,h131))) fun t132 h133=>
 kS (rG t128 false h133 (some (a111,h133))) fun t134 h135=>
 kS (rG t128 false h135 (ob (Ir y 22 t132 t134) fun g136=>some (g136,h135))) fun t137 h138=>
 kS (rG t128 false h138 (ob (vA y 3 t137 h138) fun g139=>some (g139,h138))) fun t140 h141=>
 kS (rG t128 false h141 (ob (KQ y .lss 3 t130 t140) fun g142=>some (g142,h141))) fun t143 h144=>
 kS (rG t114 true h144 (ob (EE t128 (.bool true) t143) fun g145=>some (g145,h144))) fun t146 h147=>
 ob (EE t114 t146 (.bool false)) fun t148=>
 ob (GV.asB t148) fun q149=>jn (bC q149 (oN [a104,a105,a106,a107,a108,a109,a110,a111] h147) (ix 22 a106 a111 fun t150=>
 kS (sE y 3 t150 t113 h147) fun t151 h152=>
 oN [a104,a105,a106,a107,a108,a109,a110,a111] h152)) fun vs153 h154=>U8 vs153 fun a155 a156 a157 a158 a159 a160 a161 a162=>oN [a155,a156,a157,a158,a159,a160,a161,a162] h154)) fun vs163 h164=>U8 vs163 fun a165 a166 a167 a168 a169 a170 a171 a172=>bn .add 3 a172 (i 1) fun t173=>
 oN [a165,a166,a167,a168,a169,a170,a171,t173] h164) (ql 14)
def B78 (c:CH) (e:QH) (us:List GV) (H:GH):RS:=U2 us fun f g=>
 jn (nB 0 (e 24 [f,g] H)) fun a d=>U1 a fun b=>oR [b] d
def L24 (c:CH) (ql:QH) (us:List GV) (H:GH):RS:=U2 us fun a6 R=>jn (ln 9 a6 fun t8=>
 bn .lss 3 R t8 fun t9=>
 ob (GV.asB t9) fun Z=>jn (bC Z (oX 0 [R] H) (oN [a6,R] H)) fun m e=>U2 m fun b d=>jn (nB 1 (ob (vAt y 9 b d) fun a=>
 jn (nB 2 (bn .eql 5 a (.int .u8 (.ofNat 32)) fun j=>
 ob (GV.asB j) fun aa=>jn (bC aa (bn .eql 5 a (.int .u8 (.ofNat 9)) fun k=>
 ob (GV.asB k) fun ab=>jn (bC ab (bn .eql 5 a (.int .u8 (.ofNat 10)) fun l=>
 ob (GV.asB l) fun ac=>jn (bC ac (bn .eql 5 a (.int .u8 (.ofNat 13)) fun af=>
 oN [b,d,a,af] e) (oN [b,d,a,l] e)) fun n S=>U4 n fun v w x z=>oN [v,w,x,z] S) (oN [b,d,a,k] e)) fun o T=>U4 o fun A B C D=>oN [A,B,C,D] T) (oN [b,d,a,j] e)) fun p g=>U4 p fun h f E F=>ob (GV.asB F) fun ad=>jn (bC ad (bn .eql 5 E (.int .u8 (.ofNat 35)) fun ah=>
 ob (GV.asB ah) fun ae=>jn (bC ae (oR [f] g) (jn (nB 3 (ql 25 [h,f] g)) fun q U=>U2 q fun G I=>oN [G,I] U)) fun r V=>U2 r fun J K=>oN [J,K] V) (bn .add 3 f (i 1) fun ag=>
 oN [h,ag] g)) fun s W=>U2 s fun L M=>oN [L,M] W)) fun t X=>U2 t fun N O=>oN [N,O] X)) fun u Y=>U2 u fun P Q=>oN [P,Q] Y) (ql 24)
def L25 (c:CH) (C:QH) (us:List GV) (H:GH):RS:=U2 us fun b d=>jn (ln 9 b fun u=>
 bn .lss 3 d u fun a=>
 kS (rG a true H (some (b,H))) fun v e=>
 kS (rG a true e (some (d,e))) fun w f=>
 kS (rG a true f (ob (vAt y 9 v w) fun p=>some (p,f))) fun x g=>
 kS (rG a true g (ob (KQ y .neq 5 x (.int .u8 (.ofNat 10))) fun q=>some (q,g))) fun z h=>
 ob (EE a z (.bool false)) fun A=>
 ob (GV.asB A) fun t=>jn (bC t (oX 3 [b,d] h) (oN [b,d] h)) fun j r=>U2 j fun l m=>jn (nB 4 (bn .add 3 m (i 1) fun B=>
 oN [l,B] r)) fun k s=>U2 k fun n o=>oN [n,o] s) (C 25)
def B89 (c:CH) (w:QH) (us:List GV) (H:GH):RS:=U1 us fun C=>
 kS (Ox C H) fun t2 u=>
 fd 41 0 t2 fun y=>
 ld 9 y u fun z=>
 K c 115 [z] u fun A v=>
 ob (WZ .not A) fun B=>
 ob (GV.asB B) fun x=>jn (bC x (oN [t2] v) (oR [(.bool false)] v)) fun g l=>U1 g fun a=>kS (AA l) fun o b=>
 fd 41 1 a fun p=>
 ld 35 p b fun e=>
 ln 35 e fun q=>
 jn (nB 0 (w 29 [a,o,e,q,(i 0)] b)) fun h m=>U1 h fun k=>kS (AA m) fun r d=>
 fd 41 2 k fun s=>
 ld 39 s d fun f=>
 ln 39 f fun t=>
 jn (nB 2 (w 30 [r,f,t,(i 0)] d)) fun j n=>U0 j (oR [(.bool true)] n)
def L29 (c:CH) (ql:QH) (us:List GV) (H:GH):RS:=U5 us fun f w x g h=>jn (bn .lss 3 h g fun V=>
 ob (GV.asB V) fun T=>jn (bC T (oX 0 [f] H) (oN [f,w,x,g,h] H)) fun t n=>U5 t fun z j k A l=>jn (nB 1 (ix 35 k l fun W=>
 ld 68 W n fun X=>
 kS (u_ y 68 n) fun b Q=>
 kS (sE y 68 b X Q) fun aj o=>
 fd 68 0 b fun Y=>
 ld 9 Y o fun Z=>
 K c 115 [Z] o fun aa p=>
 ob (WZ .not aa) fun a=>
 kS (rG a false p (some (j,p))) fun ab q=>
 kS (rG a false q (ob (DG y 68 0 b) fun N=>some (N,q))) fun ac d=>
 kS (rG a false d (ob (vA y 9 ac d) fun O=>some (O,d))) fun ad e=>
 kS (rG a false e (ob (PY y 201 false ab ad e) fun P=>some (P,e))) fun ae r=>
 ob (EE a (.bool true) ae) fun af=>
 ob (GV.asB af) fun U=>jn (bC U (oN [z,j,b,k,A,l] r) (oR [(.bool false)] r)) fun u s=>U6 u fun B m C D E F=>fd 68 0 C fun ag=>
 ld 9 ag s fun ah=>
 kS (KR y 201 m ah (.bool true) s) fun ak R=>
 oN [B,m,D,E,F] R)) fun v S=>U5 v fun G I J L M=>bn .add 3 M (i 1) fun ai=>
 oN [G,I,J,L,ai] S) (ql 29)
def L30 (c:CH) (ql:QH) (us:List GV) (H:GH):RS:=U4 us fun Y Z w x=>jn (bn .lss 3 x w fun ac=>
 ob (GV.asB ac) fun ab=>jn (bC ab (oX 2 [] H) (oN [Y,Z,w,x] H)) fun X J=>U4 X fun z A aa B=>jn (nB 3 (ix 39 A B fun ad=>
 ld 163 ad J fun ae=>
 kS (u_ y 163 J) fun b F=>
 kS (sE y 163 b ae F) fun af g=>
 fd 163 0 b fun M=>
 ld 9 M g fun N=>
 K c 115 [N] g fun O h=>
 ob (WZ .not O) fun a=>
 kS (rG a false h (some (z,h))) fun P j=>
 kS (rG a false j (ob (DG y 163 0 b) fun C=>some (C,j))) fun Q d=>
 kS (rG a false d (ob (vA y 9 Q d) fun D=>some (D,d))) fun R e=>
 kS (rG a false e (ob (PY y 201 false P R e) fun E=>some (E,e))) fun S k=>
 ob (EE a (.bool true) S) fun T=>
 ob (GV.asB T) fun L=>jn (bC L (oN [z,b,A,aa,B] k) (oR [(.bool false)] k)) fun m l=>U5 m fun f o p q r=>fd 163 0 o fun U=>
 ld 9 U l fun V=>
 kS (KR y 201 f V (.bool true) l) fun ag G=>
 oN [f,p,q,r] G)) fun n I=>U4 n fun s t u v=>bn .add 3 v (i 1) fun W=>
 oN [s,t,u,W] I) (ql 30)
def ZB (c:CH) (e:QH) (us:List GV) (H:GH):RS:=U3 us fun g h i=>
 ld 3 h H fun f=>
 jn (nB 0 (e 37 [g,i,f] H)) fun a d=>U1 a fun b=>oR [b] d
def L37 (c:CH) (K:QH) (us:List GV) (H:GH):RS:=U3 us fun J s b=>jn (ld 9 s H fun z=>
 ln 9 z fun A=>
 bn .lss 3 b A fun a=>
 kS (rG a true H (some (J,H))) fun B d=>
 kS (rG a true d (ob (vA y 9 s d) fun t=>some (t,d))) fun C f=>
 kS (rG a true f (some (b,f))) fun D g=>
 kS (rG a true g (ob (vAt y 9 C D) fun u=>some (u,g))) fun E h=>
 kS (rG a true h (ob (GV.asF B) fun e=>kS (c e.1 (e.2.1++[E]++e.2.2) h) Gg)) fun F j=>
 ob (EE a F (.bool false)) fun G=>
 ob (GV.asB G) fun x=>jn (bC x (oX 0 [b] j) (oN [J,s,b] j)) fun k v=>U3 k fun m n o=>jn (nB 1 (bn .add 3 o (i 1) fun I=>
 oN [m,n,I] v)) fun l w=>U3 l fun p q r=>oN [p,q,r] w) (K 37)
def ZC (c:CH) (q:QH) (us:List GV) (H:GH):RS:=U2 us fun z A=>
 kS (Ox z H) fun r p=>
 fd 28 1 r fun w=>
 ld 26 w p fun x=>
 ln 26 x fun s=>
 kS (PZ y 22 s s p) fun t u=>
 ln 22 t fun m=>
 jn (nB 0 (q 43 [A,r,t,m,(i 0)] u)) fun d h=>U3 d fun a f b=>ix 22 b a fun n=>
 kS (sE y 3 n (i 0) h) fun v j=>
 kS (CG y 22 1 [(0,a)] j) fun o k=>
 jn (nB 2 (q 44 [f,b,o] k)) fun e l=>U1 e fun g=>oR [g] l
def L43 (c:CH) (B:QH) (us:List GV) (H:GH):RS:=U5 us fun a b d e f=>jn (bn .lss 3 f e fun x=>
 ob (GV.asB x) fun w=>jn (bC w (oX 0 [a,b,d] H) (oN [a,b,d,e,f] H)) fun j t=>U5 j fun l m g n h=>jn (nB 1 (ix 22 g h fun z=>
 kS (sE y 3 z (.int .i64 (.negSucc 0)) t) fun C u=>
 oN [l,m,g,n,h] u)) fun k v=>U5 k fun o p q r s=>bn .add 3 s (i 1) fun A=>
 oN [o,p,q,r,A] v) (B 43)
def L44 (c:CH) (G:QH) (us:List GV) (H:GH):RS:=U3 us fun m b d=>jn (ln 22 d fun x=>
 bn .gtr 3 x (i 0) fun z=>
 ob (GV.asB z) fun w=>jn (bC w (oX 2 [b] H) (oN [m,b,d] H)) fun j a=>U3 j fun e n f=>jn (nB 3 (ix 22 f (i 0) fun A=>
 ld 3 A a fun g=>
 ob (DI y 22 f (some (i 1)) none a) fun B=>
 fd 28 1 e fun C=>
 ld 26 C a fun D=>
 ix 26 D g fun E=>
 ld 69 E a fun h=>
 ln 69 h fun F=>
 jn (nB 4 (G 45 [e,n,B,g,h,F,(i 0)] a)) fun k u=>U3 k fun o p q=>oN [o,p,q] u)) fun l v=>U3 l fun r s t=>oN [r,s,t] v) (G 44)
def L45 (c:CH) (ql:QH) (us:List GV) (H:GH):RS:=U7 us fun A B C ag ah D E=>jn (bn .lss 3 E D fun ak=>
 ob (GV.asB ak) fun aj=>jn (bC aj (oX 4 [A,B,C] H) (oN [A,B,C,ag,ah,D,E] H)) fun af N=>U7 af fun F b G f g I h=>jn (nB 5 (ix 69 g h fun al=>
 ld 77 al N fun am=>
 kS (u_ y 77 N) fun d ai=>
 kS (sE y 77 d am ai) fun an a=>
 fd 77 0 d fun P=>
 ld 3 P a fun Q=>
 ix 22 b Q fun R=>
 ld 3 R a fun S=>
 bn .lss 3 S (i 0) fun T=>
 ob (GV.asB T) fun O=>jn (bC O (oN [F,b,G,f,g,I,h] a) (fd 77 0 d fun U=>
 ld 3 U a fun V=>
 ix 22 b f fun W=>
 ld 3 W a fun X=>
 bn .add 3 X (i 1) fun Y=>
 ix 22 b V fun Z=>
 kS (sE y 3 Z Y a) fun ao e=>
 fd 77 0 d fun aa=>
 ld 3 aa e fun ab=>
 kS (CG y 22 1 [(0,ab)] e) fun ac J=>
 kS (UB y 22 22 G ac J) fun ad K=>
 oN [F,b,ad,f,g,I,h] K)) fun j L=>U7 j fun l m n o p q r=>oN [l,m,n,o,p,q,r] L)) fun k M=>U7 k fun s t u v w x z=>bn .add 3 z (i 1) fun ae=>
 oN [s,t,u,v,w,x,ae] M) (ql 45)
def ZD (c:CH) (f:QH) (us:List GV) (H:GH):RS:=U2 us fun d e=>
 K c 147 [d,e] H fun b a=>
 oR [b] a
def ZE (c:CH) (q:QH) (us:List GV) (H:GH):RS:=U2 us fun m u=>
 K c 141 [m,(i 0)] H fun r n=>
 ln 160 m fun s=>
 bn .neq 3 r s fun t=>
 ob (GV.asB t) fun p=>jn (bC p (oN [m,u] n) (oR [(i 0),(.bool false)] n)) fun l o=>U2 l fun a e=>ln 160 a fun g=>
 bn .sub 3 g (i 1) fun h=>
 jn (nB 0 (q 53 [a,e,.snil,h] o)) fun d b=>U1 d fun f=>ix 22 f (i 0) fun j=>
 ld 3 j b fun k=>
 oR [k,(.bool true)] b
def L53 (c:CH) (ql:QH) (us:List GV) (H:GH):RS:=U4 us fun t u e f=>jn (bn .geq 3 f (i 0) fun L=>
 ob (GV.asB L) fun J=>jn (bC J (oX 0 [e] H) (oN [t,u,e,f] H)) fun q m=>U4 q fun g v a h=>jn (nB 1 (ln 22 a fun M=>
 ix 160 g h fun N=>
 fd 219 0 N fun O=>
 ld 3 O m fun P=>
 K c 154 [P] m fun Q n=>
 bn .sub 3 M Q fun o=>
 ob (DI y 22 a (some o) none n) fun p=>
 ln 22 p fun R=>
 jn (nB 2 (ql 54 [g,v,a,h,o,(i 0),p,R,(i 0)] n)) fun r b=>U6 r fun j k w l x z=>ob (DI y 22 w none (some x) b) fun S=>
 ix 160 j l fun T=>
 fd 219 0 T fun U=>
 ld 3 U b fun V=>
 ob (GV.asF k) fun d=>kS (c d.1 (d.2.1++[V,z]++d.2.2) b) fun W E=>
 kS (CG y 22 1 [(0,W)] E) fun X F=>
 kS (UB y 22 22 S X F) fun Y G=>
 oN [j,k,Y,l] G)) fun s I=>U4 s fun A B C D=>bn .sub 3 D (i 1) fun Z=>
 oN [A,B,C,Z] I) (ql 53)
def L54 (c:CH) (O:QH) (us:List GV) (H:GH):RS:=U9 us fun d e f g h j s k l=>jn (bn .lss 3 l k fun K=>
 ob (GV.asB K) fun J=>jn (bC J (oX 2 [d,e,f,g,h,j] H) (oN [d,e,f,g,h,j,s,k,l] H)) fun q o=>U9 q fun t u v w x y m z n=>jn (nB 3 (ix 22 m n fun L=>
 ld 3 L o fun M=>
 ob (UM y M) fun N=>
 oN [t,u,v,w,x,N,m,z,n] o)) fun r I=>U9 r fun A B C D E F G a b=>bn .add 3 b (i 1) fun p=>
 oN [A,B,C,D,E,F,G,a,p] I) (O 54)
def ZF (c:CH) (m:QH) (us:List GV) (H:GH):RS:=U3 us fun g o p=>
 bn .eql 9 g (.str 0 0) fun n=>
 ob (GV.asB n) fun l=>jn (bC l (oN [g,o,p] H) (oR [(i 0)] H)) fun f k=>U3 f fun h j a=>ln 116 a fun e=>
 jn (nB 0 (m 56 [h,j,a,e,(i 0)] k)) fun b d=>U0 b (oR [(i 0)] d)
def L56 (c:CH) (L:QH) (us:List GV) (H:GH):RS:=U5 us fun m n o d e=>jn (bn .lss 3 e d fun E=>
 ob (GV.asB E) fun C=>jn (bC C (oX 0 [] H) (oN [m,n,o,d,e] H)) fun j b=>U5 j fun f g h p a=>jn (nB 1 (ix 116 h a fun F=>
 ld 9 F b fun G=>
 bn .eql 9 G f fun I=>
 ob (GV.asB I) fun D=>jn (bC D (oN [f,g,h,p,a] b) (bn .add 3 g a fun J=>
 oR [J] b)) fun k A=>U5 k fun q r s t u=>oN [q,r,s,t,u] A)) fun l B=>U5 l fun v w x y z=>bn .add 3 z (i 1) fun K=>
 oN [v,w,x,y,K] B) (L 56)
def ZG (c:CH) (ql:QH) (us:List GV) (H:GH):RS:=U2 us fun x1 x2=>
 jn (nB 0 (bn .eql 3 x1 (i 20) fun t3=>
 ob (GV.asB t3) fun q4=>jn (bC q4 (bn .eql 3 x1 (i 21) fun t11=>
 ob (GV.asB t11) fun q12=>jn (bC q12 (bn .eql 3 x1 (i 22) fun t18=>
 ob (GV.asB t18) fun q19=>jn (bC q19 (bn .eql 3 x1 (i 23) fun t22=>
 ob (GV.asB t22) fun q23=>jn (bC q23 (bn .eql 3 x1 (i 24) fun t26=>
 ob (GV.asB t26) fun q27=>jn (bC q27 (bn .eql 3 x1 (i 25) fun t32=>
 ob (GV.asB t32) fun q33=>jn (bC q33 (bn .eql 3 x1 (i 26) fun t38=>
 ob (GV.asB t38) fun q39=>jn (bC q39 (bn .eql 3 x1 (i 27) fun t46=>
 ob (GV.asB t46) fun q47=>jn (bC q47 (bn .eql 3 x1 (i 28) fun t50=>
 ob (GV.asB t50) fun q51=>jn (bC q51 (oN [x2] H) (K c 183 [x2] H fun t52 h53=>
 ex 0 t52 fun t54=>
 ex 1 t52 fun t55=>
 oR [t55] h53)) fun vs56 h57=>U1 vs56 fun a58=>oN [a58] h57) (K c 184 [x2] H fun t48 h49=>
 oR [t48] h49)) fun vs59 h60=>U1 vs59 fun a61=>oN [a61] h60) (ln 22 x2 fun t40=>
 jn (nB 3 (ql 58 [(i 0),x2,t40,(i 0)] H)) fun vs41 h42=>U1 vs41 fun a43=>K c 174 [a43] h42 fun t44 h45=>
 oR [t44] h45)) fun vs62 h63=>U1 vs62 fun a64=>oN [a64] h63) (K c 183 [x2] H fun t34 h35=>
 ex 0 t34 fun t36=>
 ex 1 t34 fun t37=>
 oR [t36] h35)) fun vs65 h66=>U1 vs65 fun a67=>oN [a67] h66) (ln 22 x2 fun t28=>
 jn (nB 1 (ql 57 [(i 1073741824),x2,t28,(i 0)] H)) fun vs29 h30=>U1 vs29 fun a31=>oR [a31] h30)) fun vs68 h69=>U1 vs68 fun a70=>oN [a70] h69) (K c 181 [x2,(.fn 182 [] [])] H fun t24 h25=>
 oR [t24] h25)) fun vs71 h72=>U1 vs71 fun a73=>oN [a73] h72) (K c 180 [x2] H fun t20 h21=>
 oR [t20] h21)) fun vs74 h75=>U1 vs74 fun a76=>oN [a76] h75) (K c 180 [x2] H fun t13 h14=>
 bn .gtr 3 t13 (i 0) fun t15=>
 K c 172 [t15] h14 fun t16 h17=>
 oR [t16] h17)) fun vs77 h78=>U1 vs77 fun a79=>oN [a79] h78) (K c 180 [x2] H fun t5 h6=>
 ln 22 x2 fun t7=>
 bn .eql 3 t5 t7 fun t8=>
 K c 172 [t8] h6 fun t9 h10=>
 oR [t9] h10)) fun vs80 h81=>U1 vs80 fun a82=>oN [a82] h81)) fun vs83 h84=>U1 vs83 fun a85=>ln 22 a85 fun t86=>
 bn .eql 3 t86 (i 0) fun t87=>
 ob (GV.asB t87) fun q88=>jn (bC q88 (oN [a85] h84) (oR [(i 0)] h84)) fun vs89 h90=>U1 vs89 fun a91=>ix 22 a91 (i 0) fun t92=>
 ld 3 t92 h90 fun t93=>
 oR [t93] h90
def L57 (c:CH) (y:QH) (us:List GV) (H:GH):RS:=U4 us fun n v o p=>jn (bn .lss 3 p o fun x=>
 ob (GV.asB x) fun w=>jn (bC w (oX 1 [n] H) (oN [n,v,o,p] H)) fun e d=>U4 e fun g a h b=>jn (nB 2 (ix 22 a b fun r=>
 ld 3 r d fun s=>
 ob (UN g s) fun t=>
 oN [t,a,h,b] d)) fun f q=>U4 f fun j k l m=>bn .add 3 m (i 1) fun u=>
 oN [j,k,l,u] q) (y 57)
def L58 (c:CH) (y:QH) (us:List GV) (H:GH):RS:=U4 us fun a k b d=>jn (bn .lss 3 d b fun t=>
 ob (GV.asB t) fun s=>jn (bC s (oX 3 [a] H) (oN [a,k,b,d] H)) fun h g=>U4 h fun l e m f=>jn (nB 4 (ix 22 e f fun u=>
 ld 3 u g fun v=>
 bn .add 3 l v fun w=>
 oN [w,e,m,f] g)) fun j r=>U4 j fun n o p q=>bn .add 3 q (i 1) fun x=>
 oN [n,o,p,x] r) (y 58)
def d0:(Code×Cx)×fD:=gD (cF Tryz.f30 [1,1,1,0,1,0,0],gR Tryz.f30 [(0,128)]) 0
def d1:(Code×Cx)×fD:=gD (cF Tryz.f33 [1,0,1,0,0],gR Tryz.f33 [(0,0)]) 1
def d2:(Code×Cx)×fD:=gD (cF Tryz.f38 [1,1,1,0,1,0,0],gR Tryz.f38 [(0,0)]) 2
def d3:(Code×Cx)×fD:=gD (cF Tryz.f39 [1,1,0,1,0,0],gR Tryz.f39 [(0,0)]) 3
def d4:(Code×Cx)×fD:=gD1 (cF Tryz.f40 [1,1,0,1,0,0],gR Tryz.f40 [(0,32)]) 1 4 5
def d5:(Code×Cx)×fD:=gD (cF Tryz.f40 [1,1,0,1,0,0,1,1,0,0,1,1,1,0,0],gR Tryz.f40 [(2,49196),(1,49196),(0,32)]) 5
def d6:(Code×Cx)×fD:=gD1 (cF Tryz.f47 [1,1,0,1,0,0],gR Tryz.f47 [(0,12)]) 1 6 7
def d7:(Code×Cx)×fD:=gD (cF Tryz.f47 [1,1,0,1,0,0,1,1,0,0,1,1,1,0,0],gR Tryz.f47 [(2,3612),(1,3612),(0,12)]) 7
def d8:(Code×Cx)×fD:=gD (cF Tryz.f56 [1,1,1,0,1,0,0],gR Tryz.f56 [(0,32)]) 8
def d9:(Code×Cx)×fD:=((cF Tryz.f59 [1,1,1,0,1,0,0],gR Tryz.f59 [(0,2)]),L9)
def d10:(Code×Cx)×fD:=((cF Tryz.f59 [1,1,1,1,0,1,0,0],gR Tryz.f59 [(2,2)]),L10)
def d11:(Code×Cx)×fD:=((cF Tryz.f59 [1,1,1,1,1,1,0,1,0,0],gR Tryz.f59 [(4,0)]),L11)
def d12:(Code×Cx)×fD:=((cF Tryz.f60 [1,1,0,1,0,0],gR Tryz.f60 [(0,38)]),L12)
def d13:(Code×Cx)×fD:=((cF Tryz.f60 [1,1,1,0,1,0,0],gR Tryz.f60 [(2,32)]),L13)
def d14:(Code×Cx)×fD:=((cF Tryz.f60 [1,1,1,0,1,0,0,1,1,0,0,1,1,1,0,0],gR Tryz.f60 [(4,100663334),(3,100663334),(2,32)]),L14)
def d15:(Code×Cx)×fD:=gD (cF Tryz.f63 [1,1,0,1,0,0],gR Tryz.f63 [(0,0)]) 15
def d16:(Code×Cx)×fD:=gD (cF Tryz.f64 [1,1,0,1,0,0],gR Tryz.f64 [(0,0)]) 16
def d17:(Code×Cx)×fD:=gD1 (cF Tryz.f66 [1,1,0,1,0,0],gR Tryz.f66 [(0,32)]) 1 17 18
def d18:(Code×Cx)×fD:=gD (cF Tryz.f66 [1,1,0,1,0,0,1,1,0,0,1,1,1,0,0],gR Tryz.f66 [(2,3670056),(1,3670056),(0,32)]) 18
def d19:(Code×Cx)×fD:=gD (cF Tryz.f67 [1,1,0,1,0,0],gR Tryz.f67 [(0,32)]) 19
def d20:(Code×Cx)×fD:=gD (cF Tryz.f69 [1,0,1,0,0],gR Tryz.f69 [(0,0)]) 20
def d21:(Code×Cx)×fD:=gD1 (cF Tryz.f72 [1,1,0,1,0,0],gR Tryz.f72 [(0,8)]) 1 21 22
def d22:(Code×Cx)×fD:=gD (cF Tryz.f72 [1,1,0,1,0,0,1,1,0,0,1,1,0,0],gR Tryz.f72 [(2,57352),(1,57352),(0,8)]) 22
def d23:(Code×Cx)×fD:=gD (cF Tryz.f74 [1,1,1,1,1,1,1,0,1,0,0],gR Tryz.f74 [(0,5378)]) 23
def d24:(Code×Cx)×fD:=((cF Tryz.f78 [1,0,0,0],gR Tryz.f78 [(0,2)]),L24)
def d25:(Code×Cx)×fD:=((cF Tryz.f78 [1,0,0,0,1,0,1,0,1,1,1,0,0,0],gR Tryz.f78 [(3,3),(2,3),(1,3),(0,2)]),L25)
def d26:(Code×Cx)×fD:=gD (cF Tryz.f83 [1,1,1,0,1,0,0],gR Tryz.f83 [(0,33)]) 26
def d27:(Code×Cx)×fD:=gD (cF Tryz.f84 [1,0,0],gR Tryz.f84 [(0,0)]) 27
def d28:(Code×Cx)×fD:=gD (cF Tryz.f86 [1,1,1,1,1,0,0,0],gR Tryz.f86 [(0,5)]) 28
def d29:(Code×Cx)×fD:=((cF Tryz.f89 [1,1,1,0,1,0,0],gR Tryz.f89 [(0,2)]),L29)
def d30:(Code×Cx)×fD:=((cF Tryz.f89 [1,1,1,1,1,0,1,0,0],gR Tryz.f89 [(2,0)]),L30)
def d31:(Code×Cx)×fD:=gD (cF Tryz.f91 [1,1,1,0,1,0,0],gR Tryz.f91 [(0,0)]) 31
def d32:(Code×Cx)×fD:=gD (cF Tryz.f92 [1,1,0,1,0,0],gR Tryz.f92 [(0,8)]) 32
def d33:(Code×Cx)×fD:=gD (cF Tryz.f93 [1,1,0,1,0,0],gR Tryz.f93 [(0,0)]) 33
def d34:(Code×Cx)×fD:=gD (cF Tryz.f96 [1,1,1,0,1,0,0],gR Tryz.f96 [(0,8)]) 34
def d35:(Code×Cx)×fD:=gD (cF Tryz.f100 [1,1,0,1,0,0],gR Tryz.f100 [(0,8)]) 35
def d36:(Code×Cx)×fD:=gD (cF Tryz.f103 [1,1,0,1,0,0],gR Tryz.f103 [(0,128)]) 36
def d37:(Code×Cx)×fD:=((cF Tryz.f106 [1,1,0,0,0],gR Tryz.f106 [(0,32)]),L37)
def d38:(Code×Cx)×fD:=gD (cF Tryz.f110 [1,1,1,0,1,0,0],gR Tryz.f110 [(0,16)]) 38
def d39:(Code×Cx)×fD:=gD (cF Tryz.f111 [1,0,1,0,0],gR Tryz.f111 [(0,1)]) 39
def d40:(Code×Cx)×fD:=gD (cF Tryz.f115 [1,1,0,1,0,0],gR Tryz.f115 [(0,1)]) 40
def d41:(Code×Cx)×fD:=gD (cF Tryz.f123 [1,1,0,1,0,0],gR Tryz.f123 [(0,1)]) 41
def d42:(Code×Cx)×fD:=gD (cF Tryz.f124 [1,1,0,1,0,0],gR Tryz.f124 [(0,7)]) 42
def d43:(Code×Cx)×fD:=((cF Tryz.f125 [1,1,0,1,0,0],gR Tryz.f125 [(0,38)]),L43)
def d44:(Code×Cx)×fD:=((cF Tryz.f125 [1,1,1,1,1,0,0,0],gR Tryz.f125 [(2,32)]),L44)
def d45:(Code×Cx)×fD:=((cF Tryz.f125 [1,1,1,1,1,0,0,0,1,0,1,1,1,0,0],gR Tryz.f125 [(4,164),(3,164),(2,32)]),L45)
def d46:(Code×Cx)×fD:=gD (cF Tryz.f128 [1,1,0,1,0,0],gR Tryz.f128 [(0,512)]) 46
def d47:(Code×Cx)×fD:=gD (cF Tryz.f130 [1,0,1,0,0],gR Tryz.f130 [(0,0)]) 47
def d48:(Code×Cx)×fD:=gD (cF Tryz.f138 [1,1,1,0,0],gR Tryz.f138 [(0,16)]) 48
def d49:(Code×Cx)×fD:=gD (cF Tryz.f139 [1,1,0,1,0,0],gR Tryz.f139 [(0,32)]) 49
def d50:(Code×Cx)×fD:=gD (cF Tryz.f140 [1,0,1,0,0],gR Tryz.f140 [(0,0)]) 50
def d51:(Code×Cx)×fD:=gD (cF Tryz.f141 [1,1,0,1,0,0],gR Tryz.f141 [(0,0)]) 51
def d52:(Code×Cx)×fD:=gD (cF Tryz.f145 [1,1,1,1,1,1,0,1,0,0],gR Tryz.f145 [(0,1408)]) 52
def d53:(Code×Cx)×fD:=((cF Tryz.f155 [1,1,1,0,1,0,0],gR Tryz.f155 [(0,64)]),L53)
def d54:(Code×Cx)×fD:=((cF Tryz.f155 [1,1,1,0,1,0,0,1,0,0,1,1,0,1,0,0],gR Tryz.f155 [(2,963),(1,195),(0,64)]),L54)
def d55:(Code×Cx)×fD:=gD (cF Tryz.f164 [1,1,1,0,1,0,0],gR Tryz.f164 [(0,903)]) 55
def d56:(Code×Cx)×fD:=((cF Tryz.f168 [1,1,0,1,0,0],gR Tryz.f168 [(0,0)]),L56)
def d57:(Code×Cx)×fD:=((cF Tryz.f173 [1,0,1,0,1,1,1,1,1,1,1,1,1,0,1,0,1,0,0],gR Tryz.f173 [(1,32),(0,2)]),L57)
def d58:(Code×Cx)×fD:=((cF Tryz.f173 [1,0,1,0,1,1,1,1,1,1,1,1,1,1,1,1,1,0,1,0,1,0,0],gR Tryz.f173 [(3,1024),(0,2)]),L58)
def d59:(Code×Cx)×fD:=gD (cF Tryz.f180 [1,1,0,1,0,0],gR Tryz.f180 [(0,8)]) 59
def d60:(Code×Cx)×fD:=gD (cF Tryz.f181 [1,0,1,0,0],gR Tryz.f181 [(0,0)]) 60
def d61:(Code×Cx)×fD:=gD (cF Tryz.f183 [1,1,0,1,0,0],gR Tryz.f183 [(0,12)]) 61
def d62:(Code×Cx)×fD:=gD (cF Tryz.f184 [1,1,0,0,0],gR Tryz.f184 [(0,8)]) 62
def d63:(Code×Cx)×fD:=gD (cF Tryz.f190 [1,0,1,0,0],gR Tryz.f190 [(0,0)]) 63
def PL (f:Nat):Option (Func×fD):=(tN f 116 (tN f 75 (tN f 50 (tN f 37 (tN f 23 (tN f 12 (tN f 11 (tL f 6 (Tryz.f6,(gB Tryz.f6))) (tL f 11 (Tryz.f11,(gB Tryz.f11)))) (tN f 18 (tL f 12 (Tryz.f12,(gB Tryz.f12))) (tL f 18 (Tryz.f18,(gB Tryz.f18))))) (tN f 30 (tN f 28 (tL f 23 (Tryz.f23,(gB Tryz.f23))) (tL f 28 (Tryz.f28,(gB Tryz.f28)))) (tN f 33 (tL f 30 (Tryz.f30,(oT Tryz.f30 0))) (tL f 33 (Tryz.f33,(oT Tryz.f33 1)))))) (tN f 43 (tN f 39 (tN f 38 (tL f 37 (Tryz.f37,(gB Tryz.f37))) (tL f 38 (Tryz.f38,(oT Tryz.f38 2)))) (tN f 40 (tL f 39 (Tryz.f39,(oT Tryz.f39 3))) (tL f 40 (Tryz.f40,(oT Tryz.f40 4))))) (tN f 46 (tN f 45 (tL f 43 (Tryz.f43,(gB Tryz.f43))) (tL f 45 (Tryz.f45,(gB Tryz.f45)))) (tN f 47 (tL f 46 (Tryz.f46,(gB Tryz.f46))) (tN f 49 (tL f 47 (Tryz.f47,(oT Tryz.f47 6))) (tL f 49 (Tryz.f49,(gB Tryz.f49)))))))) (tN f 65 (tN f 58 (tN f 52 (tN f 51 (tL f 50 (Tryz.f50,(gB Tryz.f50))) (tL f 51 (Tryz.f51,(gB Tryz.f51)))) (tN f 56 (tL f 52 (Tryz.f52,(gB Tryz.f52))) (tL f 56 (Tryz.f56,(oT Tryz.f56 8))))) (tN f 60 (tN f 59 (tL f 58 (Tryz.f58,(gB Tryz.f58))) (tL f 59 (Tryz.f59,B59))) (tN f 63 (tL f 60 (Tryz.f60,B60)) (tN f 64 (tL f 63 (Tryz.f63,(oT Tryz.f63 15))) (tL f 64 (Tryz.f64,(oT Tryz.f64 16))))))) (tN f 69 (tN f 67 (tN f 66 (tL f 65 (Tryz.f65,(gB Tryz.f65))) (tL f 66 (Tryz.f66,(oT Tryz.f66 17)))) (tN f 68 (tL f 67 (Tryz.f67,(oT Tryz.f67 19))) (tL f 68 (Tryz.f68,(gB Tryz.f68))))) (tN f 72 (tN f 71 (tL f 69 (Tryz.f69,(oT Tryz.f69 20))) (tL f 71 (Tryz.f71,(gB Tryz.f71)))) (tN f 73 (tL f 72 (Tryz.f72,(oT Tryz.f72 21))) (tN f 74 (tL f 73 (Tryz.f73,(gB Tryz.f73))) (tL f 74 (Tryz.f74,(oT Tryz.f74 23))))))))) (tN f 96 (tN f 87 (tN f 83 (tN f 79 (tN f 78 (tL f 75 (Tryz.f75,(gB Tryz.f75))) (tL f 78 (Tryz.f78,B78))) (tN f 82 (tL f 79 (Tryz.f79,(gB Tryz.f79))) (tL f 82 (Tryz.f82,(gB Tryz.f82))))) (tN f 85 (tN f 84 (tL f 83 (Tryz.f83,(oT Tryz.f83 26))) (tL f 84 (Tryz.f84,(oT Tryz.f84 27)))) (tN f 86 (tL f 85 (Tryz.f85,(gB Tryz.f85))) (tL f 86 (Tryz.f86,(oT Tryz.f86 28)))))) (tN f 91 (tN f 89 (tN f 88 (tL f 87 (Tryz.f87,(gB Tryz.f87))) (tL f 88 (Tryz.f88,(gB Tryz.f88)))) (tN f 90 (tL f 89 (Tryz.f89,B89)) (tL f 90 (Tryz.f90,(gB Tryz.f90))))) (tN f 93 (tN f 92 (tL f 91 (Tryz.f91,(oT Tryz.f91 31))) (tL f 92 (Tryz.f92,(oT Tryz.f92 32)))) (tN f 94 (tL f 93 (Tryz.f93,(oT Tryz.f93 33))) (tN f 95 (tL f 94 (Tryz.f94,(gB Tryz.f94))) (tL f 95 (Tryz.f95,(gB Tryz.f95)))))))) (tN f 107 (tN f 100 (tN f 98 (tN f 97 (tL f 96 (Tryz.f96,(oT Tryz.f96 34))) (tL f 97 (Tryz.f97,(gB Tryz.f97)))) (tN f 99 (tL f 98 (Tryz.f98,(gB Tryz.f98))) (tL f 99 (Tryz.f99,(gB Tryz.f99))))) (tN f 103 (tN f 101 (tL f 100 (Tryz.f100,(oT Tryz.f100 35))) (tL f 101 (Tryz.f101,(gB Tryz.f101)))) (tN f 104 (tL f 103 (Tryz.f103,(oT Tryz.f103 36))) (tN f 106 (tL f 104 (Tryz.f104,(gB Tryz.f104))) (tL f 106 (Tryz.f106,ZB)))))) (tN f 111 (tN f 109 (tN f 108 (tL f 107 (Tryz.f107,(gB Tryz.f107))) (tL f 108 (Tryz.f108,(gB Tryz.f108)))) (tN f 110 (tL f 109 (Tryz.f109,(gB Tryz.f109))) (tL f 110 (Tryz.f110,(oT Tryz.f110 38))))) (tN f 113 (tN f 112 (tL f 111 (Tryz.f111,(oT Tryz.f111 39))) (tL f 112 (Tryz.f112,(gB Tryz.f112)))) (tN f 114 (tL f 113 (Tryz.f113,(gB Tryz.f113))) (tN f 115 (tL f 114 (Tryz.f114,(gB Tryz.f114))) (tL f 115 (Tryz.f115,(oT Tryz.f115 40)))))))))) (tN f 154 (tN f 136 (tN f 124 (tN f 120 (tN f 118 (tN f 117 (tL f 116 (Tryz.f116,(gB Tryz.f116))) (tL f 117 (Tryz.f117,(gB Tryz.f117)))) (tN f 119 (tL f 118 (Tryz.f118,(gB Tryz.f118))) (tL f 119 (Tryz.f119,(gB Tryz.f119))))) (tN f 122 (tN f 121 (tL f 120 (Tryz.f120,(gB Tryz.f120))) (tL f 121 (Tryz.f121,(gB Tryz.f121)))) (tN f 123 (tL f 122 (Tryz.f122,(gB Tryz.f122))) (tL f 123 (Tryz.f123,(oT Tryz.f123 41)))))) (tN f 129 (tN f 126 (tN f 125 (tL f 124 (Tryz.f124,(oT Tryz.f124 42))) (tL f 125 (Tryz.f125,ZC))) (tN f 128 (tL f 126 (Tryz.f126,(gB Tryz.f126))) (tL f 128 (Tryz.f128,(oT Tryz.f128 46))))) (tN f 131 (tN f 130 (tL f 129 (Tryz.f129,(gB Tryz.f129))) (tL f 130 (Tryz.f130,(oT Tryz.f130 47)))) (tN f 134 (tL f 131 (Tryz.f131,(gB Tryz.f131))) (tN f 135 (tL f 134 (Tryz.f134,ZD)) (tL f 135 (Tryz.f135,(gB Tryz.f135)))))))) (tN f 145 (tN f 140 (tN f 138 (tN f 137 (tL f 136 (Tryz.f136,(gB Tryz.f136))) (tL f 137 (Tryz.f137,(gB Tryz.f137)))) (tN f 139 (tL f 138 (Tryz.f138,(oT Tryz.f138 48))) (tL f 139 (Tryz.f139,(oT Tryz.f139 49))))) (tN f 142 (tN f 141 (tL f 140 (Tryz.f140,(oT Tryz.f140 50))) (tL f 141 (Tryz.f141,(oT Tryz.f141 51)))) (tN f 143 (tL f 142 (Tryz.f142,(gB Tryz.f142))) (tN f 144 (tL f 143 (Tryz.f143,(gB Tryz.f143))) (tL f 144 (Tryz.f144,(gB Tryz.f144))))))) (tN f 149 (tN f 147 (tN f 146 (tL f 145 (Tryz.f145,(oT Tryz.f145 52))) (tL f 146 (Tryz.f146,(gB Tryz.f146)))) (tN f 148 (tL f 147 (Tryz.f147,(gB Tryz.f147))) (tL f 148 (Tryz.f148,(gB Tryz.f148))))) (tN f 151 (tN f 150 (tL f 149 (Tryz.f149,(gB Tryz.f149))) (tL f 150 (Tryz.f150,(gB Tryz.f150)))) (tN f 152 (tL f 151 (Tryz.f151,(gB Tryz.f151))) (tN f 153 (tL f 152 (Tryz.f152,(gB Tryz.f152))) (tL f 153 (Tryz.f153,(gB Tryz.f153))))))))) (tN f 173 (tN f 163 (tN f 158 (tN f 156 (tN f 155 (tL f 154 (Tryz.f154,(gB Tryz.f154))) (tL f 155 (Tryz.f155,ZE))) (tN f 157 (tL f 156 (Tryz.f156,(gB Tryz.f156))) (tL f 157 (Tryz.f157,(gB Tryz.f157))))) (tN f 160 (tN f 159 (tL f 158 (Tryz.f158,(gB Tryz.f158))) (tL f 159 (Tryz.f159,(gB Tryz.f159)))) (tN f 161 (tL f 160 (Tryz.f160,(gB Tryz.f160))) (tN f 162 (tL f 161 (Tryz.f161,(gB Tryz.f161))) (tL f 162 (Tryz.f162,(gB Tryz.f162))))))) (tN f 168 (tN f 165 (tN f 164 (tL f 163 (Tryz.f163,(gB Tryz.f163))) (tL f 164 (Tryz.f164,(oT Tryz.f164 55)))) (tN f 167 (tL f 165 (Tryz.f165,(gB Tryz.f165))) (tL f 167 (Tryz.f167,(gB Tryz.f167))))) (tN f 170 (tN f 169 (tL f 168 (Tryz.f168,ZF)) (tL f 169 (Tryz.f169,(gB Tryz.f169)))) (tN f 171 (tL f 170 (Tryz.f170,(gB Tryz.f170))) (tN f 172 (tL f 171 (Tryz.f171,(gB Tryz.f171))) (tL f 172 (Tryz.f172,(gB Tryz.f172)))))))) (tN f 182 (tN f 177 (tN f 175 (tN f 174 (tL f 173 (Tryz.f173,ZG)) (tL f 174 (Tryz.f174,(gB Tryz.f174)))) (tN f 176 (tL f 175 (Tryz.f175,(gB Tryz.f175))) (tL f 176 (Tryz.f176,(gB Tryz.f176))))) (tN f 179 (tN f 178 (tL f 177 (Tryz.f177,(gB Tryz.f177))) (tL f 178 (Tryz.f178,(gB Tryz.f178)))) (tN f 180 (tL f 179 (Tryz.f179,(gB Tryz.f179))) (tN f 181 (tL f 180 (Tryz.f180,(oT Tryz.f180 59))) (tL f 181 (Tryz.f181,(oT Tryz.f181 60))))))) (tN f 186 (tN f 184 (tN f 183 (tL f 182 (Tryz.f182,(gB Tryz.f182))) (tL f 183 (Tryz.f183,(oT Tryz.f183 61)))) (tN f 185 (tL f 184 (Tryz.f184,(oT Tryz.f184 62))) (tL f 185 (Tryz.f185,(gB Tryz.f185))))) (tN f 188 (tN f 187 (tL f 186 (Tryz.f186,(gB Tryz.f186))) (tL f 187 (Tryz.f187,(gB Tryz.f187)))) (tN f 189 (tL f 188 (Tryz.f188,(gB Tryz.f188))) (tN f 190 (tL f 189 (Tryz.f189,(gB Tryz.f189))) (tL f 190 (Tryz.f190,(oT Tryz.f190 63)))))))))))
def Xl (f:Nat):Option ((Code×Cx)×fD):=(tN f 32 (tN f 16 (tN f 8 (tN f 4 (tN f 2 (tN f 1 (tL f 0 d0) (tL f 1 d1)) (tN f 3 (tL f 2 d2) (tL f 3 d3))) (tN f 6 (tN f 5 (tL f 4 d4) (tL f 5 d5)) (tN f 7 (tL f 6 d6) (tL f 7 d7)))) (tN f 12 (tN f 10 (tN f 9 (tL f 8 d8) (tL f 9 d9)) (tN f 11 (tL f 10 d10) (tL f 11 d11))) (tN f 14 (tN f 13 (tL f 12 d12) (tL f 13 d13)) (tN f 15 (tL f 14 d14) (tL f 15 d15))))) (tN f 24 (tN f 20 (tN f 18 (tN f 17 (tL f 16 d16) (tL f 17 d17)) (tN f 19 (tL f 18 d18) (tL f 19 d19))) (tN f 22 (tN f 21 (tL f 20 d20) (tL f 21 d21)) (tN f 23 (tL f 22 d22) (tL f 23 d23)))) (tN f 28 (tN f 26 (tN f 25 (tL f 24 d24) (tL f 25 d25)) (tN f 27 (tL f 26 d26) (tL f 27 d27))) (tN f 30 (tN f 29 (tL f 28 d28) (tL f 29 d29)) (tN f 31 (tL f 30 d30) (tL f 31 d31)))))) (tN f 48 (tN f 40 (tN f 36 (tN f 34 (tN f 33 (tL f 32 d32) (tL f 33 d33)) (tN f 35 (tL f 34 d34) (tL f 35 d35))) (tN f 38 (tN f 37 (tL f 36 d36) (tL f 37 d37)) (tN f 39 (tL f 38 d38) (tL f 39 d39)))) (tN f 44 (tN f 42 (tN f 41 (tL f 40 d40) (tL f 41 d41)) (tN f 43 (tL f 42 d42) (tL f 43 d43))) (tN f 46 (tN f 45 (tL f 44 d44) (tL f 45 d45)) (tN f 47 (tL f 46 d46) (tL f 47 d47))))) (tN f 56 (tN f 52 (tN f 50 (tN f 49 (tL f 48 d48) (tL f 49 d49)) (tN f 51 (tL f 50 d50) (tL f 51 d51))) (tN f 54 (tN f 53 (tL f 52 d52) (tL f 53 d53)) (tN f 55 (tL f 54 d54) (tL f 55 d55)))) (tN f 60 (tN f 58 (tN f 57 (tL f 56 d56) (tL f 57 d57)) (tN f 59 (tL f 58 d58) (tL f 59 d59))) (tN f 62 (tN f 61 (tL f 60 d60) (tL f 61 d61)) (tN f 63 (tL f 62 d62) (tL f 63 d63)))))))
def HX:DU:=⟨PL,Xl⟩
def FO (f:Nat) (e:Func×fD):Prop:=(∀(c:CH) (lp:LH) us H,e.2 c (HX.loop lp) us H=Tl uZ c lp e.1 us H)∧Tryz.prog.funcs[f]? = some e.1∧aO Tryz.prog f∧Zy y e.1=true
def LO (e:(Code×Cx)×fD):Prop:=∀(c:CH) (lp:LH) us H,e.2 c (HX.loop lp) us H=Zs uZ c lp e.1.1 e.1.2 us H
theorem e6:FO 6 (Tryz.f6,(gB Tryz.f6)):=⟨fun _ _ _ _=>by kernel_rfl,Tryz.func6,Tryz.call6,by kernel_rfl⟩
theorem e11:FO 11 (Tryz.f11,(gB Tryz.f11)):=⟨fun _ _ _ _=>by kernel_rfl,Tryz.func11,Tryz.call11,by kernel_rfl⟩
theorem e12:FO 12 (Tryz.f12,(gB Tryz.f12)):=⟨fun _ _ _ _=>by kernel_rfl,Tryz.func12,Tryz.call12,by kernel_rfl⟩
theorem e18:FO 18 (Tryz.f18,(gB Tryz.f18)):=⟨fun _ _ _ _=>by kernel_rfl,Tryz.func18,Tryz.call18,by kernel_rfl⟩
theorem e23:FO 23 (Tryz.f23,(gB Tryz.f23)):=⟨fun _ _ _ _=>by kernel_rfl,Tryz.func23,Tryz.call23,by kernel_rfl⟩
theorem e28:FO 28 (Tryz.f28,(gB Tryz.f28)):=⟨fun _ _ _ _=>by kernel_rfl,Tryz.func28,Tryz.call28,by kernel_rfl⟩
theorem e30:FO 30 (Tryz.f30,(oT Tryz.f30 0)):=⟨fun _ _ _ _=>by kernel_rfl,Tryz.func30,Tryz.call30,by kernel_rfl⟩
theorem e33:FO 33 (Tryz.f33,(oT Tryz.f33 1)):=⟨fun _ _ _ _=>by kernel_rfl,Tryz.func33,Tryz.call33,by kernel_rfl⟩
theorem e37:FO 37 (Tryz.f37,(gB Tryz.f37)):=⟨fun _ _ _ _=>by kernel_rfl,Tryz.func37,Tryz.call37,by kernel_rfl⟩
theorem e38:FO 38 (Tryz.f38,(oT Tryz.f38 2)):=⟨fun _ _ _ _=>by kernel_rfl,Tryz.func38,Tryz.call38,by kernel_rfl⟩
theorem e39:FO 39 (Tryz.f39,(oT Tryz.f39 3)):=⟨fun _ _ _ _=>by kernel_rfl,Tryz.func39,Tryz.call39,by kernel_rfl⟩
theorem e40:FO 40 (Tryz.f40,(oT Tryz.f40 4)):=⟨fun _ _ _ _=>by kernel_rfl,Tryz.func40,Tryz.call40,by kernel_rfl⟩
theorem e43:FO 43 (Tryz.f43,(gB Tryz.f43)):=⟨fun _ _ _ _=>by kernel_rfl,Tryz.func43,Tryz.call43,by kernel_rfl⟩
theorem e45:FO 45 (Tryz.f45,(gB Tryz.f45)):=⟨fun _ _ _ _=>by kernel_rfl,Tryz.func45,Tryz.call45,by kernel_rfl⟩
theorem e46:FO 46 (Tryz.f46,(gB Tryz.f46)):=⟨fun _ _ _ _=>by kernel_rfl,Tryz.func46,Tryz.call46,by kernel_rfl⟩
theorem e47:FO 47 (Tryz.f47,(oT Tryz.f47 6)):=⟨fun _ _ _ _=>by kernel_rfl,Tryz.func47,Tryz.call47,by kernel_rfl⟩
theorem e49:FO 49 (Tryz.f49,(gB Tryz.f49)):=⟨fun _ _ _ _=>by kernel_rfl,Tryz.func49,Tryz.call49,by kernel_rfl⟩
theorem e50:FO 50 (Tryz.f50,(gB Tryz.f50)):=⟨fun _ _ _ _=>by kernel_rfl,Tryz.func50,Tryz.call50,by kernel_rfl⟩
theorem e51:FO 51 (Tryz.f51,(gB Tryz.f51)):=⟨fun _ _ _ _=>by kernel_rfl,Tryz.func51,Tryz.call51,by kernel_rfl⟩
theorem e52:FO 52 (Tryz.f52,(gB Tryz.f52)):=⟨fun _ _ _ _=>by kernel_rfl,Tryz.func52,Tryz.call52,by kernel_rfl⟩
theorem e56:FO 56 (Tryz.f56,(oT Tryz.f56 8)):=⟨fun _ _ _ _=>by kernel_rfl,Tryz.func56,Tryz.call56,by kernel_rfl⟩
theorem e58:FO 58 (Tryz.f58,(gB Tryz.f58)):=⟨fun _ _ _ _=>by kernel_rfl,Tryz.func58,Tryz.call58,by kernel_rfl⟩
theorem e59:FO 59 (Tryz.f59,B59):=⟨fun _ _ _ _=>by kernel_rfl,Tryz.func59,Tryz.call59,by kernel_rfl⟩
theorem e60:FO 60 (Tryz.f60,B60):=⟨fun _ _ _ _=>by kernel_rfl,Tryz.func60,Tryz.call60,by kernel_rfl⟩
theorem e63:FO 63 (Tryz.f63,(oT Tryz.f63 15)):=⟨fun _ _ _ _=>by kernel_rfl,Tryz.func63,Tryz.call63,by kernel_rfl⟩
theorem e64:FO 64 (Tryz.f64,(oT Tryz.f64 16)):=⟨fun _ _ _ _=>by kernel_rfl,Tryz.func64,Tryz.call64,by kernel_rfl⟩
theorem e65:FO 65 (Tryz.f65,(gB Tryz.f65)):=⟨fun _ _ _ _=>by kernel_rfl,Tryz.func65,Tryz.call65,by kernel_rfl⟩
theorem e66:FO 66 (Tryz.f66,(oT Tryz.f66 17)):=⟨fun _ _ _ _=>by kernel_rfl,Tryz.func66,Tryz.call66,by kernel_rfl⟩
theorem e67:FO 67 (Tryz.f67,(oT Tryz.f67 19)):=⟨fun _ _ _ _=>by kernel_rfl,Tryz.func67,Tryz.call67,by kernel_rfl⟩
theorem e68:FO 68 (Tryz.f68,(gB Tryz.f68)):=⟨fun _ _ _ _=>by kernel_rfl,Tryz.func68,Tryz.call68,by kernel_rfl⟩
theorem e69:FO 69 (Tryz.f69,(oT Tryz.f69 20)):=⟨fun _ _ _ _=>by kernel_rfl,Tryz.func69,Tryz.call69,by kernel_rfl⟩
theorem e71:FO 71 (Tryz.f71,(gB Tryz.f71)):=⟨fun _ _ _ _=>by kernel_rfl,Tryz.func71,Tryz.call71,by kernel_rfl⟩
theorem e72:FO 72 (Tryz.f72,(oT Tryz.f72 21)):=⟨fun _ _ _ _=>by kernel_rfl,Tryz.func72,Tryz.call72,by kernel_rfl⟩
theorem e73:FO 73 (Tryz.f73,(gB Tryz.f73)):=⟨fun _ _ _ _=>by kernel_rfl,Tryz.func73,Tryz.call73,by kernel_rfl⟩
theorem e74:FO 74 (Tryz.f74,(oT Tryz.f74 23)):=⟨fun _ _ _ _=>by kernel_rfl,Tryz.func74,Tryz.call74,by kernel_rfl⟩
theorem e75:FO 75 (Tryz.f75,(gB Tryz.f75)):=⟨fun _ _ _ _=>by kernel_rfl,Tryz.func75,Tryz.call75,by kernel_rfl⟩
theorem e78:FO 78 (Tryz.f78,B78):=⟨fun _ _ _ _=>by kernel_rfl,Tryz.func78,Tryz.call78,by kernel_rfl⟩
theorem e79:FO 79 (Tryz.f79,(gB Tryz.f79)):=⟨fun _ _ _ _=>by kernel_rfl,Tryz.func79,Tryz.call79,by kernel_rfl⟩
theorem e82:FO 82 (Tryz.f82,(gB Tryz.f82)):=⟨fun _ _ _ _=>by kernel_rfl,Tryz.func82,Tryz.call82,by kernel_rfl⟩
theorem e83:FO 83 (Tryz.f83,(oT Tryz.f83 26)):=⟨fun _ _ _ _=>by kernel_rfl,Tryz.func83,Tryz.call83,by kernel_rfl⟩
theorem e84:FO 84 (Tryz.f84,(oT Tryz.f84 27)):=⟨fun _ _ _ _=>by kernel_rfl,Tryz.func84,Tryz.call84,by kernel_rfl⟩
theorem e85:FO 85 (Tryz.f85,(gB Tryz.f85)):=⟨fun _ _ _ _=>by kernel_rfl,Tryz.func85,Tryz.call85,by kernel_rfl⟩
theorem e86:FO 86 (Tryz.f86,(oT Tryz.f86 28)):=⟨fun _ _ _ _=>by kernel_rfl,Tryz.func86,Tryz.call86,by kernel_rfl⟩
theorem e87:FO 87 (Tryz.f87,(gB Tryz.f87)):=⟨fun _ _ _ _=>by kernel_rfl,Tryz.func87,Tryz.call87,by kernel_rfl⟩
theorem e88:FO 88 (Tryz.f88,(gB Tryz.f88)):=⟨fun _ _ _ _=>by kernel_rfl,Tryz.func88,Tryz.call88,by kernel_rfl⟩
theorem e89:FO 89 (Tryz.f89,B89):=⟨fun _ _ _ _=>by kernel_rfl,Tryz.func89,Tryz.call89,by kernel_rfl⟩
theorem e90:FO 90 (Tryz.f90,(gB Tryz.f90)):=⟨fun _ _ _ _=>by kernel_rfl,Tryz.func90,Tryz.call90,by kernel_rfl⟩
theorem e91:FO 91 (Tryz.f91,(oT Tryz.f91 31)):=⟨fun _ _ _ _=>by kernel_rfl,Tryz.func91,Tryz.call91,by kernel_rfl⟩
theorem e92:FO 92 (Tryz.f92,(oT Tryz.f92 32)):=⟨fun _ _ _ _=>by kernel_rfl,Tryz.func92,Tryz.call92,by kernel_rfl⟩
theorem e93:FO 93 (Tryz.f93,(oT Tryz.f93 33)):=⟨fun _ _ _ _=>by kernel_rfl,Tryz.func93,Tryz.call93,by kernel_rfl⟩
theorem e94:FO 94 (Tryz.f94,(gB Tryz.f94)):=⟨fun _ _ _ _=>by kernel_rfl,Tryz.func94,Tryz.call94,by kernel_rfl⟩
theorem e95:FO 95 (Tryz.f95,(gB Tryz.f95)):=⟨fun _ _ _ _=>by kernel_rfl,Tryz.func95,Tryz.call95,by kernel_rfl⟩
theorem e96:FO 96 (Tryz.f96,(oT Tryz.f96 34)):=⟨fun _ _ _ _=>by kernel_rfl,Tryz.func96,Tryz.call96,by kernel_rfl⟩
theorem e97:FO 97 (Tryz.f97,(gB Tryz.f97)):=⟨fun _ _ _ _=>by kernel_rfl,Tryz.func97,Tryz.call97,by kernel_rfl⟩
theorem e98:FO 98 (Tryz.f98,(gB Tryz.f98)):=⟨fun _ _ _ _=>by kernel_rfl,Tryz.func98,Tryz.call98,by kernel_rfl⟩
theorem e99:FO 99 (Tryz.f99,(gB Tryz.f99)):=⟨fun _ _ _ _=>by kernel_rfl,Tryz.func99,Tryz.call99,by kernel_rfl⟩
theorem abf:FO 100 (Tryz.f100,(oT Tryz.f100 35)):=⟨fun _ _ _ _=>by kernel_rfl,Tryz.func100,Tryz.call100,by kernel_rfl⟩
theorem abg:FO 101 (Tryz.f101,(gB Tryz.f101)):=⟨fun _ _ _ _=>by kernel_rfl,Tryz.func101,Tryz.call101,by kernel_rfl⟩
theorem abh:FO 103 (Tryz.f103,(oT Tryz.f103 36)):=⟨fun _ _ _ _=>by kernel_rfl,Tryz.func103,Tryz.call103,by kernel_rfl⟩
theorem abi:FO 104 (Tryz.f104,(gB Tryz.f104)):=⟨fun _ _ _ _=>by kernel_rfl,Tryz.func104,Tryz.call104,by kernel_rfl⟩
theorem abj:FO 106 (Tryz.f106,ZB):=⟨fun _ _ _ _=>by kernel_rfl,Tryz.func106,Tryz.call106,by kernel_rfl⟩
theorem abk:FO 107 (Tryz.f107,(gB Tryz.f107)):=⟨fun _ _ _ _=>by kernel_rfl,Tryz.func107,Tryz.call107,by kernel_rfl⟩
theorem abl:FO 108 (Tryz.f108,(gB Tryz.f108)):=⟨fun _ _ _ _=>by kernel_rfl,Tryz.func108,Tryz.call108,by kernel_rfl⟩
theorem abm:FO 109 (Tryz.f109,(gB Tryz.f109)):=⟨fun _ _ _ _=>by kernel_rfl,Tryz.func109,Tryz.call109,by kernel_rfl⟩
theorem abn:FO 110 (Tryz.f110,(oT Tryz.f110 38)):=⟨fun _ _ _ _=>by kernel_rfl,Tryz.func110,Tryz.call110,by kernel_rfl⟩
theorem abo:FO 111 (Tryz.f111,(oT Tryz.f111 39)):=⟨fun _ _ _ _=>by kernel_rfl,Tryz.func111,Tryz.call111,by kernel_rfl⟩
theorem abp:FO 112 (Tryz.f112,(gB Tryz.f112)):=⟨fun _ _ _ _=>by kernel_rfl,Tryz.func112,Tryz.call112,by kernel_rfl⟩
theorem abq:FO 113 (Tryz.f113,(gB Tryz.f113)):=⟨fun _ _ _ _=>by kernel_rfl,Tryz.func113,Tryz.call113,by kernel_rfl⟩
theorem abr:FO 114 (Tryz.f114,(gB Tryz.f114)):=⟨fun _ _ _ _=>by kernel_rfl,Tryz.func114,Tryz.call114,by kernel_rfl⟩
theorem abt:FO 115 (Tryz.f115,(oT Tryz.f115 40)):=⟨fun _ _ _ _=>by kernel_rfl,Tryz.func115,Tryz.call115,by kernel_rfl⟩
theorem abu:FO 116 (Tryz.f116,(gB Tryz.f116)):=⟨fun _ _ _ _=>by kernel_rfl,Tryz.func116,Tryz.call116,by kernel_rfl⟩
theorem abv:FO 117 (Tryz.f117,(gB Tryz.f117)):=⟨fun _ _ _ _=>by kernel_rfl,Tryz.func117,Tryz.call117,by kernel_rfl⟩
theorem abw:FO 118 (Tryz.f118,(gB Tryz.f118)):=⟨fun _ _ _ _=>by kernel_rfl,Tryz.func118,Tryz.call118,by kernel_rfl⟩
theorem abx:FO 119 (Tryz.f119,(gB Tryz.f119)):=⟨fun _ _ _ _=>by kernel_rfl,Tryz.func119,Tryz.call119,by kernel_rfl⟩
theorem aby:FO 120 (Tryz.f120,(gB Tryz.f120)):=⟨fun _ _ _ _=>by kernel_rfl,Tryz.func120,Tryz.call120,by kernel_rfl⟩
theorem abz:FO 121 (Tryz.f121,(gB Tryz.f121)):=⟨fun _ _ _ _=>by kernel_rfl,Tryz.func121,Tryz.call121,by kernel_rfl⟩
theorem abA:FO 122 (Tryz.f122,(gB Tryz.f122)):=⟨fun _ _ _ _=>by kernel_rfl,Tryz.func122,Tryz.call122,by kernel_rfl⟩
theorem abB:FO 123 (Tryz.f123,(oT Tryz.f123 41)):=⟨fun _ _ _ _=>by kernel_rfl,Tryz.func123,Tryz.call123,by kernel_rfl⟩
theorem abC:FO 124 (Tryz.f124,(oT Tryz.f124 42)):=⟨fun _ _ _ _=>by kernel_rfl,Tryz.func124,Tryz.call124,by kernel_rfl⟩
theorem abD:FO 125 (Tryz.f125,ZC):=⟨fun _ _ _ _=>by kernel_rfl,Tryz.func125,Tryz.call125,by kernel_rfl⟩
theorem abE:FO 126 (Tryz.f126,(gB Tryz.f126)):=⟨fun _ _ _ _=>by kernel_rfl,Tryz.func126,Tryz.call126,by kernel_rfl⟩
theorem abF:FO 128 (Tryz.f128,(oT Tryz.f128 46)):=⟨fun _ _ _ _=>by kernel_rfl,Tryz.func128,Tryz.call128,by kernel_rfl⟩
theorem abG:FO 129 (Tryz.f129,(gB Tryz.f129)):=⟨fun _ _ _ _=>by kernel_rfl,Tryz.func129,Tryz.call129,by kernel_rfl⟩
theorem abH:FO 130 (Tryz.f130,(oT Tryz.f130 47)):=⟨fun _ _ _ _=>by kernel_rfl,Tryz.func130,Tryz.call130,by kernel_rfl⟩
theorem abI:FO 131 (Tryz.f131,(gB Tryz.f131)):=⟨fun _ _ _ _=>by kernel_rfl,Tryz.func131,Tryz.call131,by kernel_rfl⟩
theorem abJ:FO 134 (Tryz.f134,ZD):=⟨fun _ _ _ _=>by kernel_rfl,Tryz.func134,Tryz.call134,by kernel_rfl⟩
theorem abK:FO 135 (Tryz.f135,(gB Tryz.f135)):=⟨fun _ _ _ _=>by kernel_rfl,Tryz.func135,Tryz.call135,by kernel_rfl⟩
theorem abL:FO 136 (Tryz.f136,(gB Tryz.f136)):=⟨fun _ _ _ _=>by kernel_rfl,Tryz.func136,Tryz.call136,by kernel_rfl⟩
theorem abM:FO 137 (Tryz.f137,(gB Tryz.f137)):=⟨fun _ _ _ _=>by kernel_rfl,Tryz.func137,Tryz.call137,by kernel_rfl⟩
theorem abN:FO 138 (Tryz.f138,(oT Tryz.f138 48)):=⟨fun _ _ _ _=>by kernel_rfl,Tryz.func138,Tryz.call138,by kernel_rfl⟩
theorem abO:FO 139 (Tryz.f139,(oT Tryz.f139 49)):=⟨fun _ _ _ _=>by kernel_rfl,Tryz.func139,Tryz.call139,by kernel_rfl⟩
theorem abP:FO 140 (Tryz.f140,(oT Tryz.f140 50)):=⟨fun _ _ _ _=>by kernel_rfl,Tryz.func140,Tryz.call140,by kernel_rfl⟩
theorem abQ:FO 141 (Tryz.f141,(oT Tryz.f141 51)):=⟨fun _ _ _ _=>by kernel_rfl,Tryz.func141,Tryz.call141,by kernel_rfl⟩
theorem abR:FO 142 (Tryz.f142,(gB Tryz.f142)):=⟨fun _ _ _ _=>by kernel_rfl,Tryz.func142,Tryz.call142,by kernel_rfl⟩
theorem abS:FO 143 (Tryz.f143,(gB Tryz.f143)):=⟨fun _ _ _ _=>by kernel_rfl,Tryz.func143,Tryz.call143,by kernel_rfl⟩
theorem abT:FO 144 (Tryz.f144,(gB Tryz.f144)):=⟨fun _ _ _ _=>by kernel_rfl,Tryz.func144,Tryz.call144,by kernel_rfl⟩
theorem abU:FO 145 (Tryz.f145,(oT Tryz.f145 52)):=⟨fun _ _ _ _=>by kernel_rfl,Tryz.func145,Tryz.call145,by kernel_rfl⟩
theorem abV:FO 146 (Tryz.f146,(gB Tryz.f146)):=⟨fun _ _ _ _=>by kernel_rfl,Tryz.func146,Tryz.call146,by kernel_rfl⟩
theorem abW:FO 147 (Tryz.f147,(gB Tryz.f147)):=⟨fun _ _ _ _=>by kernel_rfl,Tryz.func147,Tryz.call147,by kernel_rfl⟩
theorem abX:FO 148 (Tryz.f148,(gB Tryz.f148)):=⟨fun _ _ _ _=>by kernel_rfl,Tryz.func148,Tryz.call148,by kernel_rfl⟩
theorem abY:FO 149 (Tryz.f149,(gB Tryz.f149)):=⟨fun _ _ _ _=>by kernel_rfl,Tryz.func149,Tryz.call149,by kernel_rfl⟩
theorem abZ:FO 150 (Tryz.f150,(gB Tryz.f150)):=⟨fun _ _ _ _=>by kernel_rfl,Tryz.func150,Tryz.call150,by kernel_rfl⟩
theorem ab_:FO 151 (Tryz.f151,(gB Tryz.f151)):=⟨fun _ _ _ _=>by kernel_rfl,Tryz.func151,Tryz.call151,by kernel_rfl⟩
theorem aca:FO 152 (Tryz.f152,(gB Tryz.f152)):=⟨fun _ _ _ _=>by kernel_rfl,Tryz.func152,Tryz.call152,by kernel_rfl⟩
theorem acb:FO 153 (Tryz.f153,(gB Tryz.f153)):=⟨fun _ _ _ _=>by kernel_rfl,Tryz.func153,Tryz.call153,by kernel_rfl⟩
theorem acd:FO 154 (Tryz.f154,(gB Tryz.f154)):=⟨fun _ _ _ _=>by kernel_rfl,Tryz.func154,Tryz.call154,by kernel_rfl⟩
theorem ace:FO 155 (Tryz.f155,ZE):=⟨fun _ _ _ _=>by kernel_rfl,Tryz.func155,Tryz.call155,by kernel_rfl⟩
theorem acf:FO 156 (Tryz.f156,(gB Tryz.f156)):=⟨fun _ _ _ _=>by kernel_rfl,Tryz.func156,Tryz.call156,by kernel_rfl⟩
theorem acg:FO 157 (Tryz.f157,(gB Tryz.f157)):=⟨fun _ _ _ _=>by kernel_rfl,Tryz.func157,Tryz.call157,by kernel_rfl⟩
theorem ach:FO 158 (Tryz.f158,(gB Tryz.f158)):=⟨fun _ _ _ _=>by kernel_rfl,Tryz.func158,Tryz.call158,by kernel_rfl⟩
theorem aci:FO 159 (Tryz.f159,(gB Tryz.f159)):=⟨fun _ _ _ _=>by kernel_rfl,Tryz.func159,Tryz.call159,by kernel_rfl⟩
theorem acj:FO 160 (Tryz.f160,(gB Tryz.f160)):=⟨fun _ _ _ _=>by kernel_rfl,Tryz.func160,Tryz.call160,by kernel_rfl⟩
theorem ack:FO 161 (Tryz.f161,(gB Tryz.f161)):=⟨fun _ _ _ _=>by kernel_rfl,Tryz.func161,Tryz.call161,by kernel_rfl⟩
theorem acl:FO 162 (Tryz.f162,(gB Tryz.f162)):=⟨fun _ _ _ _=>by kernel_rfl,Tryz.func162,Tryz.call162,by kernel_rfl⟩
theorem acm:FO 163 (Tryz.f163,(gB Tryz.f163)):=⟨fun _ _ _ _=>by kernel_rfl,Tryz.func163,Tryz.call163,by kernel_rfl⟩
theorem acn:FO 164 (Tryz.f164,(oT Tryz.f164 55)):=⟨fun _ _ _ _=>by kernel_rfl,Tryz.func164,Tryz.call164,by kernel_rfl⟩
theorem aco:FO 165 (Tryz.f165,(gB Tryz.f165)):=⟨fun _ _ _ _=>by kernel_rfl,Tryz.func165,Tryz.call165,by kernel_rfl⟩
theorem acp:FO 167 (Tryz.f167,(gB Tryz.f167)):=⟨fun _ _ _ _=>by kernel_rfl,Tryz.func167,Tryz.call167,by kernel_rfl⟩
theorem acq:FO 168 (Tryz.f168,ZF):=⟨fun _ _ _ _=>by kernel_rfl,Tryz.func168,Tryz.call168,by kernel_rfl⟩
theorem acr:FO 169 (Tryz.f169,(gB Tryz.f169)):=⟨fun _ _ _ _=>by kernel_rfl,Tryz.func169,Tryz.call169,by kernel_rfl⟩
theorem acs:FO 170 (Tryz.f170,(gB Tryz.f170)):=⟨fun _ _ _ _=>by kernel_rfl,Tryz.func170,Tryz.call170,by kernel_rfl⟩
theorem acu:FO 171 (Tryz.f171,(gB Tryz.f171)):=⟨fun _ _ _ _=>by kernel_rfl,Tryz.func171,Tryz.call171,by kernel_rfl⟩
theorem acv:FO 172 (Tryz.f172,(gB Tryz.f172)):=⟨fun _ _ _ _=>by kernel_rfl,Tryz.func172,Tryz.call172,by kernel_rfl⟩
theorem acw:FO 173 (Tryz.f173,ZG):=⟨fun _ _ _ _=>by kernel_rfl,Tryz.func173,Tryz.call173,by kernel_rfl⟩
theorem acx:FO 174 (Tryz.f174,(gB Tryz.f174)):=⟨fun _ _ _ _=>by kernel_rfl,Tryz.func174,Tryz.call174,by kernel_rfl⟩
theorem acy:FO 175 (Tryz.f175,(gB Tryz.f175)):=⟨fun _ _ _ _=>by kernel_rfl,Tryz.func175,Tryz.call175,by kernel_rfl⟩
theorem acz:FO 176 (Tryz.f176,(gB Tryz.f176)):=⟨fun _ _ _ _=>by kernel_rfl,Tryz.func176,Tryz.call176,by kernel_rfl⟩
theorem acA:FO 177 (Tryz.f177,(gB Tryz.f177)):=⟨fun _ _ _ _=>by kernel_rfl,Tryz.func177,Tryz.call177,by kernel_rfl⟩
theorem acB:FO 178 (Tryz.f178,(gB Tryz.f178)):=⟨fun _ _ _ _=>by kernel_rfl,Tryz.func178,Tryz.call178,by kernel_rfl⟩
theorem acC:FO 179 (Tryz.f179,(gB Tryz.f179)):=⟨fun _ _ _ _=>by kernel_rfl,Tryz.func179,Tryz.call179,by kernel_rfl⟩
theorem acD:FO 180 (Tryz.f180,(oT Tryz.f180 59)):=⟨fun _ _ _ _=>by kernel_rfl,Tryz.func180,Tryz.call180,by kernel_rfl⟩
theorem acE:FO 181 (Tryz.f181,(oT Tryz.f181 60)):=⟨fun _ _ _ _=>by kernel_rfl,Tryz.func181,Tryz.call181,by kernel_rfl⟩
theorem acF:FO 182 (Tryz.f182,(gB Tryz.f182)):=⟨fun _ _ _ _=>by kernel_rfl,Tryz.func182,Tryz.call182,by kernel_rfl⟩
theorem acG:FO 183 (Tryz.f183,(oT Tryz.f183 61)):=⟨fun _ _ _ _=>by kernel_rfl,Tryz.func183,Tryz.call183,by kernel_rfl⟩
theorem acH:FO 184 (Tryz.f184,(oT Tryz.f184 62)):=⟨fun _ _ _ _=>by kernel_rfl,Tryz.func184,Tryz.call184,by kernel_rfl⟩
theorem acI:FO 185 (Tryz.f185,(gB Tryz.f185)):=⟨fun _ _ _ _=>by kernel_rfl,Tryz.func185,Tryz.call185,by kernel_rfl⟩
theorem acJ:FO 186 (Tryz.f186,(gB Tryz.f186)):=⟨fun _ _ _ _=>by kernel_rfl,Tryz.func186,Tryz.call186,by kernel_rfl⟩
theorem acK:FO 187 (Tryz.f187,(gB Tryz.f187)):=⟨fun _ _ _ _=>by kernel_rfl,Tryz.func187,Tryz.call187,by kernel_rfl⟩
theorem acL:FO 188 (Tryz.f188,(gB Tryz.f188)):=⟨fun _ _ _ _=>by kernel_rfl,Tryz.func188,Tryz.call188,by kernel_rfl⟩
theorem acM:FO 189 (Tryz.f189,(gB Tryz.f189)):=⟨fun _ _ _ _=>by kernel_rfl,Tryz.func189,Tryz.call189,by kernel_rfl⟩
theorem acN:FO 190 (Tryz.f190,(oT Tryz.f190 63)):=⟨fun _ _ _ _=>by kernel_rfl,Tryz.func190,Tryz.call190,by kernel_rfl⟩
theorem l0:LO d0:=fun _ _ _ _=>by kernel_rfl
theorem l1:LO d1:=fun _ _ _ _=>by kernel_rfl
theorem l2:LO d2:=fun _ _ _ _=>by kernel_rfl
theorem l3:LO d3:=fun _ _ _ _=>by kernel_rfl
theorem l4:LO d4:=fun _ _ _ _=>by kernel_rfl
theorem l5:LO d5:=fun _ _ _ _=>by kernel_rfl
theorem l6:LO d6:=fun _ _ _ _=>by kernel_rfl
theorem l7:LO d7:=fun _ _ _ _=>by kernel_rfl
theorem l8:LO d8:=fun _ _ _ _=>by kernel_rfl
theorem l9:LO d9:=fun _ _ _ _=>by kernel_rfl
theorem l10:LO d10:=fun _ _ _ _=>by kernel_rfl
theorem l11:LO d11:=fun _ _ _ _=>by kernel_rfl
theorem l12:LO d12:=fun _ _ _ _=>by kernel_rfl
theorem UT:LO d13:=fun _ _ _ _=>by kernel_rfl
theorem l14:LO d14:=fun _ _ _ _=>by kernel_rfl
theorem l15:LO d15:=fun _ _ _ _=>by kernel_rfl
theorem l16:LO d16:=fun _ _ _ _=>by kernel_rfl
theorem Zw:LO d17:=fun _ _ _ _=>by kernel_rfl
theorem l18:LO d18:=fun _ _ _ _=>by kernel_rfl
theorem l19:LO d19:=fun _ _ _ _=>by kernel_rfl
theorem l20:LO d20:=fun _ _ _ _=>by kernel_rfl
theorem l21:LO d21:=fun _ _ _ _=>by kernel_rfl
theorem l22:LO d22:=fun _ _ _ _=>by kernel_rfl
theorem l23:LO d23:=fun _ _ _ _=>by kernel_rfl
theorem l24:LO d24:=fun _ _ _ _=>by kernel_rfl
theorem l25:LO d25:=fun _ _ _ _=>by kernel_rfl
theorem l26:LO d26:=fun _ _ _ _=>by kernel_rfl
theorem l27:LO d27:=fun _ _ _ _=>by kernel_rfl
theorem l28:LO d28:=fun _ _ _ _=>by kernel_rfl
theorem l29:LO d29:=fun _ _ _ _=>by kernel_rfl
theorem l30:LO d30:=fun _ _ _ _=>by kernel_rfl
theorem l31:LO d31:=fun _ _ _ _=>by kernel_rfl
theorem l32:LO d32:=fun _ _ _ _=>by kernel_rfl
theorem l33:LO d33:=fun _ _ _ _=>by kernel_rfl
theorem l34:LO d34:=fun _ _ _ _=>by kernel_rfl
theorem l35:LO d35:=fun _ _ _ _=>by kernel_rfl
theorem l36:LO d36:=fun _ _ _ _=>by kernel_rfl
theorem l37:LO d37:=fun _ _ _ _=>by kernel_rfl
theorem l38:LO d38:=fun _ _ _ _=>by kernel_rfl
theorem l39:LO d39:=fun _ _ _ _=>by kernel_rfl
theorem l40:LO d40:=fun _ _ _ _=>by kernel_rfl
theorem l41:LO d41:=fun _ _ _ _=>by kernel_rfl
theorem l42:LO d42:=fun _ _ _ _=>by kernel_rfl
theorem l43:LO d43:=fun _ _ _ _=>by kernel_rfl
theorem l44:LO d44:=fun _ _ _ _=>by kernel_rfl
theorem l45:LO d45:=fun _ _ _ _=>by kernel_rfl
theorem l46:LO d46:=fun _ _ _ _=>by kernel_rfl
theorem l47:LO d47:=fun _ _ _ _=>by kernel_rfl
theorem l48:LO d48:=fun _ _ _ _=>by kernel_rfl
theorem l49:LO d49:=fun _ _ _ _=>by kernel_rfl
theorem l50:LO d50:=fun _ _ _ _=>by kernel_rfl
theorem l51:LO d51:=fun _ _ _ _=>by kernel_rfl
theorem l52:LO d52:=fun _ _ _ _=>by kernel_rfl
theorem l53:LO d53:=fun _ _ _ _=>by kernel_rfl
theorem l54:LO d54:=fun _ _ _ _=>by kernel_rfl
theorem l55:LO d55:=fun _ _ _ _=>by kernel_rfl
theorem l56:LO d56:=fun _ _ _ _=>by kernel_rfl
theorem l57:LO d57:=fun _ _ _ _=>by kernel_rfl
theorem l58:LO d58:=fun _ _ _ _=>by kernel_rfl
theorem l59:LO d59:=fun _ _ _ _=>by kernel_rfl
theorem l60:LO d60:=fun _ _ _ _=>by kernel_rfl
theorem l61:LO d61:=fun _ _ _ _=>by kernel_rfl
theorem l62:LO d62:=fun _ _ _ _=>by kernel_rfl
theorem l63:LO d63:=fun _ _ _ _=>by kernel_rfl
theorem Jt {f:Nat} {e:Func×fD}:PL f=some e->FO f e:=(rN (rN (rN (rN (rN (rN (rN (rL e6) (rL e11)) (rN (rL e12) (rL e18))) (rN (rN (rL e23) (rL e28)) (rN (rL e30) (rL e33)))) (rN (rN (rN (rL e37) (rL e38)) (rN (rL e39) (rL e40))) (rN (rN (rL e43) (rL e45)) (rN (rL e46) (rN (rL e47) (rL e49)))))) (rN (rN (rN (rN (rL e50) (rL e51)) (rN (rL e52) (rL e56))) (rN (rN (rL e58) (rL e59)) (rN (rL e60) (rN (rL e63) (rL e64))))) (rN (rN (rN (rL e65) (rL e66)) (rN (rL e67) (rL e68))) (rN (rN (rL e69) (rL e71)) (rN (rL e72) (rN (rL e73) (rL e74))))))) (rN (rN (rN (rN (rN (rL e75) (rL e78)) (rN (rL e79) (rL e82))) (rN (rN (rL e83) (rL e84)) (rN (rL e85) (rL e86)))) (rN (rN (rN (rL e87) (rL e88)) (rN (rL e89) (rL e90))) (rN (rN (rL e91) (rL e92)) (rN (rL e93) (rN (rL e94) (rL e95)))))) (rN (rN (rN (rN (rL e96) (rL e97)) (rN (rL e98) (rL e99))) (rN (rN (rL abf) (rL abg)) (rN (rL abh) (rN (rL abi) (rL abj))))) (rN (rN (rN (rL abk) (rL abl)) (rN (rL abm) (rL abn))) (rN (rN (rL abo) (rL abp)) (rN (rL abq) (rN (rL abr) (rL abt)))))))) (rN (rN (rN (rN (rN (rN (rL abu) (rL abv)) (rN (rL abw) (rL abx))) (rN (rN (rL aby) (rL abz)) (rN (rL abA) (rL abB)))) (rN (rN (rN (rL abC) (rL abD)) (rN (rL abE) (rL abF))) (rN (rN (rL abG) (rL abH)) (rN (rL abI) (rN (rL abJ) (rL abK)))))) (rN (rN (rN (rN (rL abL) (rL abM)) (rN (rL abN) (rL abO))) (rN (rN (rL abP) (rL abQ)) (rN (rL abR) (rN (rL abS) (rL abT))))) (rN (rN (rN (rL abU) (rL abV)) (rN (rL abW) (rL abX))) (rN (rN (rL abY) (rL abZ)) (rN (rL ab_) (rN (rL aca) (rL acb))))))) (rN (rN (rN (rN (rN (rL acd) (rL ace)) (rN (rL acf) (rL acg))) (rN (rN (rL ach) (rL aci)) (rN (rL acj) (rN (rL ack) (rL acl))))) (rN (rN (rN (rL acm) (rL acn)) (rN (rL aco) (rL acp))) (rN (rN (rL acq) (rL acr)) (rN (rL acs) (rN (rL acu) (rL acv)))))) (rN (rN (rN (rN (rL acw) (rL acx)) (rN (rL acy) (rL acz))) (rN (rN (rL acA) (rL acB)) (rN (rL acC) (rN (rL acD) (rL acE))))) (rN (rN (rN (rL acF) (rL acG)) (rN (rL acH) (rL acI))) (rN (rN (rL acJ) (rL acK)) (rN (rL acL) (rN (rL acM) (rL acN)))))))))
theorem Up {f:Nat} {e:(Code×Cx)×fD}:Xl f=some e->LO e:=(rN (rN (rN (rN (rN (rN (rL (R:=fun _=>LO) l0) (rL (R:=fun _=>LO) l1)) (rN (rL (R:=fun _=>LO) l2) (rL (R:=fun _=>LO) l3))) (rN (rN (rL (R:=fun _=>LO) l4) (rL (R:=fun _=>LO) l5)) (rN (rL (R:=fun _=>LO) l6) (rL (R:=fun _=>LO) l7)))) (rN (rN (rN (rL (R:=fun _=>LO) l8) (rL (R:=fun _=>LO) l9)) (rN (rL (R:=fun _=>LO) l10) (rL (R:=fun _=>LO) l11))) (rN (rN (rL (R:=fun _=>LO) l12) (rL (R:=fun _=>LO) UT)) (rN (rL (R:=fun _=>LO) l14) (rL (R:=fun _=>LO) l15))))) (rN (rN (rN (rN (rL (R:=fun _=>LO) l16) (rL (R:=fun _=>LO) Zw)) (rN (rL (R:=fun _=>LO) l18) (rL (R:=fun _=>LO) l19))) (rN (rN (rL (R:=fun _=>LO) l20) (rL (R:=fun _=>LO) l21)) (rN (rL (R:=fun _=>LO) l22) (rL (R:=fun _=>LO) l23)))) (rN (rN (rN (rL (R:=fun _=>LO) l24) (rL (R:=fun _=>LO) l25)) (rN (rL (R:=fun _=>LO) l26) (rL (R:=fun _=>LO) l27))) (rN (rN (rL (R:=fun _=>LO) l28) (rL (R:=fun _=>LO) l29)) (rN (rL (R:=fun _=>LO) l30) (rL (R:=fun _=>LO) l31)))))) (rN (rN (rN (rN (rN (rL (R:=fun _=>LO) l32) (rL (R:=fun _=>LO) l33)) (rN (rL (R:=fun _=>LO) l34) (rL (R:=fun _=>LO) l35))) (rN (rN (rL (R:=fun _=>LO) l36) (rL (R:=fun _=>LO) l37)) (rN (rL (R:=fun _=>LO) l38) (rL (R:=fun _=>LO) l39)))) (rN (rN (rN (rL (R:=fun _=>LO) l40) (rL (R:=fun _=>LO) l41)) (rN (rL (R:=fun _=>LO) l42) (rL (R:=fun _=>LO) l43))) (rN (rN (rL (R:=fun _=>LO) l44) (rL (R:=fun _=>LO) l45)) (rN (rL (R:=fun _=>LO) l46) (rL (R:=fun _=>LO) l47))))) (rN (rN (rN (rN (rL (R:=fun _=>LO) l48) (rL (R:=fun _=>LO) l49)) (rN (rL (R:=fun _=>LO) l50) (rL (R:=fun _=>LO) l51))) (rN (rN (rL (R:=fun _=>LO) l52) (rL (R:=fun _=>LO) l53)) (rN (rL (R:=fun _=>LO) l54) (rL (R:=fun _=>LO) l55)))) (rN (rN (rN (rL (R:=fun _=>LO) l56) (rL (R:=fun _=>LO) l57)) (rN (rL (R:=fun _=>LO) l58) (rL (R:=fun _=>LO) l59))) (rN (rN (rL (R:=fun _=>LO) l60) (rL (R:=fun _=>LO) l61)) (rN (rL (R:=fun _=>LO) l62) (rL (R:=fun _=>LO) l63)))))))
theorem GK:Hb HX uZ:=⟨fun h=>(Jt h).1,Up⟩
theorem Uo {f:Nat} {e:Func×fD} (h:PL f=some e):Tryz.prog.funcs[f]? = some e.1∧aO Tryz.prog f∧Zy y e.1=true:=(Jt h).2
end
end Go.Gx
end
section
namespace Go.Gx
open Go Go.Sx
section
section
variable {P:Program} {gs:wT} {w0:eD gs} {tb:TB}
theorem LJ:qM P w0 (fun _ _ _=>none):=fun f us H g H' h=>by cases h
theorem FV:EM P w0 tb (fun _ _ _ _=>none):=fun b c vs H a h=>by cases h
theorem Wa {ch:CH} {lp:LH} (r:eK P tb) (E:P.follows .mixedOrders=true) (i:∀w0:eD gs,qM P w0 ch) (k:EM P w0 tb lp) {f:Nat} {fn:Func} {us:List GV} {H:GH} {c:Lj} (A:P.funcs[f]? = some fn) (t:Zy tb fn=true) (h:Tl tb ch lp fn us H=some c) (D:c.e = .ret) {ρ:dH} {w:World} {vs:List Value} (R:eT w0 ρ H w) (y:oS ρ us vs):
  Calls P f vs.toArray w fun e w'=>∃v a,e = .returned v∧ρ.le a∧eT w0 a c.H w'∧Rl a (Rc c.vs) v:=by
 obtain⟨B,C⟩:=Ml t
 obtain⟨g,x,h⟩:=aD.1 (show ob fn.body _=some c from h)
 obtain⟨σ,l,h⟩:=pG h
 rw[List.range_eq_range']at l
 have p:=Hf l
 have G:vs.length<=fn.ntmps:=by rw[<-y.len,p];exact C
 refine rD A x ?_
 have F:jQ ρ fn.ntmps σ {tmps:=vs.toArray++Array.replicate (fn.ntmps - vs.toArray.size) undef,defers:=[]}:=by
  refine JZ rfl (by simp;omega) y (fun j v n=> ?_) l
  have s:=bA n
  rw[Nat.zero_add,Array.getElem?_append_left (by simpa using s)]
  simpa using n
 refine AP r E i k g _ _ _ ⟨σ,H⟩ c ρ _ w _ (B g x) h F R ⟨fun z a u w' o b F' m=> ?_,fun id z a u w' o b F' m=> ?_,fun z a u w' o b F' m=> ?_⟩
 ·obtain⟨q,v,n,d⟩:=Ep (fn:=fn) r rfl F' m o
  exact Sx.body_end (.inr rfl) F'.defers d ⟨v,a,rfl,b,by rw[q];exact m,n⟩
 ·have:=x_ o
  rw[D]at this;cases this
 ·obtain⟨q,v,n,d⟩:=Ep (fn:=fn) r rfl F' m o
  exact Sx.body_end (.inl rfl) F'.defers d ⟨v,a,rfl,b,by rw[q];exact m,n⟩
noncomputable def IU (tb:TB) (f:Nat) (fn:Func):CH:=fun g us H=>bif Nat.beq g f then Js (Tl tb (fun _ _ _=>none) (fun _ _ _ _=>none) fn us H)else none
theorem SP (k:eK P tb) (m:P.follows .mixedOrders=true) {f:Nat} {fn:Func} (i:P.funcs[f]? = some fn) (l:aO P f) (d:Zy tb fn=true):qM P w0 (IU tb f fn):=fun g us H x H' h ρ w vs R n=>by
 unfold IU at h
 cases b:Nat.beq g f with
 |false=>rw[b]at h;cases h
 |true=>
 rw[b]at h
 have b:=Nat.eq_of_beq_eq_true b
 subst b
 replace h:Js (Tl tb (fun _ _ _=>none) (fun _ _ _ _=>none) fn us H)=some (x,H'):=h
 unfold Js at h
 obtain⟨o,j,a⟩:=aD.1 h
 cases c:o.e with
 |normal=>rw[c]at a;cases a
 |exit id=>rw[c]at a;cases a
 |ret=>
  rw[c]at a;cases a
  exact .inr ⟨l _ w,Wa k m (fun _=>LJ) FV i d j c R n⟩
theorem Rq {id:Nat} {o:Oper} {l:List Oper} {Q:Exit->Act->List Frame->World->Prop} {a:Act} {cs:List Frame} {w:World} (t:l.all iI=true) (A:o.guard=none) (q:(execOp a.eval o).run P w = .ok .recover w)
  (p:recoverD cs=none) (h:Sx.wpList P (o::l).toArray (fun e f w'=>Q e f cs w') l (a.put o.dst .nilIface) w):(Code.region id (o::l).toArray false).wpSIn (FR none) 0 P Q a cs w:=by
 intro b k z d s c
 have u:(o::l).toArray[0]? = some o:=by simp
 obtain⟨e,f,w',C,g⟩:=wp_opsIn (F:=FR none) (n:=0) (Q:=fun e f w'=>Q e f cs w') (ops:=(o::l).toArray) (List.range' 1 l.length) (a.put o.dst .nilIface) w
  (by rw[wpOpsIn_eq_wpListIn l 1 (by intro j;simp[Nat.add_comm 1 j])];exact Sx.wpList_in l _ w t h) b k cs d s c
 have E:Region.wanted o (yielded (o::l).toArray a.tmps)=true:=by simp[Region.wanted,A]
 have y:(lone (b.atR a (.inRegion (o::l).toArray (0::List.range' 1 l.length)::k)) cs w).fenced P (FR none):=fenced_oper s c u (fun _ _=>trivial)
 have m:=stepGR_op (P:=P) (b:=b) (k:=k) (cs:=cs) (w:=w) (rest:=List.range' 1 l.length) u E
 rw[d,Oper.semAt_none]at m
 have i:∀v,(b.atR a (.inRegion (o::l).toArray (0::List.range' 1 l.length)::k)).finish v=b.atR (a.put o.dst v) (.inRegion (o::l).toArray (List.range' 1 l.length)::k):=by
  intro v;rw[Frame.finish_atR,u];rfl
 have B:(b.atR a (.inRegion (o::l).toArray (0::List.range' 1 l.length)::k)).kind = .deferred:=z
 have r:=tryRecover_deferred B cs
 have D:List.range (o::l).toArray.size=0::List.range' 1 l.length:=by simp[List.range_eq_range',List.range'_succ]
 have x:=stepR_region (P:=P) (b:=b) (a:=a) (k:=k) (cs:=cs) (w:=w) (id:=id) (ops:=(o::l).toArray)
 rw[D]at x
 refine⟨e,f,cs,w',rfl,C,.of_steps (.head (fenced_calm s c rfl) x (.one y (step_lone_go ?_))) g⟩
 rw[m,<-i]
 simp only[Frame.atR,d]at r ⊢
 simp[stepG.apply,q,r,p]
theorem Qw {ch:CH} {lp:LH} (D:eK P tb) (T:P.follows .mixedOrders=true) {f:Nat} {fn:Func} {id m d:Nat} {o:Oper} {l:List Oper} {rest:Code} {N:Cx} {k:Lj} {args:Array Value} {w:World}
  (a:∀w0:eD YX,qM P w0 ch) (j:EM P (eD.one w) tb lp) (R:P.funcs[f]? = some fn) (O:fn.body=some (.seq (.region id (o::l).toArray false) rest)) (y:o.guard=none) (Q:o.dst=some d) (x:d<fn.ntmps)
  (q:∀ρ w,(execOp ρ o).run P w = .ok .recover w) (G:l.all (Fo fn.ntmps)=true) (U:EJ tb fn.ntmps rest=true) (p:fn.results = #[]) (V:args.size<=fn.ntmps)
  (h:CW tb ch (o::l) (V_ tb ch lp rest m N (Eo [])) l ⟨[(d,.inil)],H0⟩=some k) (E:k.e = .normal):
  CallsDIn (FR none) 0 P f args .returning w fun e X w'=>∃v,e = .returned v∧X = .returning∧JJ w w':=by
 have A:l.all iI=true:=List.all_eq_true.2 fun o z=>(rS (List.all_eq_true.1 G o z)).1
 refine callsDIn_of_wpSIn R O trivial fun c cs I=> ?_
 have n:recoverD (c::cs)=none:=by simp[recoverD,I]
 refine wpSIn_seq (Rq A y (q _ _) n ?_)
 have F:jQ (fun _=>none) fn.ntmps [(d,.inil)] (({tmps:=args++Array.replicate (fn.ntmps - args.size) undef,defers:=[]}:Act).put o.dst .nilIface):=by
  rw[Q]
  refine jQ.put ⟨rfl,by simp;omega,fun t g y=>(by cases y)⟩ x ?_
  exact .inil
 refine Ee D (a (eD.one w)) l ⟨[(d,.inil)],H0⟩ _ _ w G F (eT.start (eD.one w) rfl) h fun W B M w' S H F' L=> ?_
 refine wpSIn_of_wpIn rfl ?_
 refine AP D T a j rest _ _ _ W k B M w' _ U S F' L ⟨fun J r C K b i s u=> ?_,fun id J r C K b i s u=> ?_,fun J r C K b i s u=> ?_⟩
 ·refine⟨s.defers,c.mode,rfl,.tuple #[],?_,_,rfl,I,u.ext.ext⟩
  simp[results,p]
 ·have:=x_ b
  rw[E]at this;cases this
 ·have:=Kz b
  rw[E]at this;cases this
theorem GN {o:Oper} {l:List Oper} {ops:Array Oper} {Q:Exit->Act->World->Prop} {a:Act} {w w':World} {v:Value} (b:o.guard=none) (c:(execOp a.eval o).run P w = .ok (.value v) w') (h:Sx.wpList P ops Q l (a.put o.dst v) w'):Sx.wpList P ops Q (o::l) a w:=by
 unfold Sx.wpList
 rw[if_pos (by simp[Region.wanted,b])]
 exact .inl (by simp only[Oper.wp,c,Oper.upon];exact h)
theorem Nc {o:Oper} {l:List Oper} {ops:Array Oper} {Q:Exit->Act->World->Prop} {a:Act} {w w':World} (b:o.guard=none) (c:(execOp a.eval o).run P w = .ok .skip w') (h:Sx.wpList P ops Q l (a.put o.dst undef) w'):Sx.wpList P ops Q (o::l) a w:=by
 unfold Sx.wpList
 rw[if_pos (by simp[Region.wanted,b])]
 exact .inl (by simp only[Oper.wp,c,Oper.upon];exact h)
theorem Rs {o:Oper} {l:List Oper} {ops:Array Oper} {Q:Exit->Act->World->Prop} {a:Act} {w:World} {f:Nat} {args:Array Value} {S:Value->World->Prop} (b:o.guard=none) (c:(execOp a.eval o).run P w = .ok (.enter f args) w)
  (hc:Calls P f args w fun e w'=>∃v,e = .returned v∧S v w') (h:∀v w',S v w'->Sx.wpList P ops Q l (a.put o.dst v) w'):Sx.wpList P ops Q (o::l) a w:=by
 unfold Sx.wpList
 rw[if_pos (by simp[Region.wanted,b])]
 refine .inl ?_
 simp only[Oper.wp,c,Oper.upon]
 refine hc.mono ?_
 rintro e w' ⟨v,rfl,d⟩
 exact h v w' d
theorem Yq (C:eK P tb) {c cc T1 T2 i0 i1 i2 i3 y0 y1 y2 y3 y4 y5 y6 y7:Nat} {p0 p1 p2 p3 p4 p5 p6 p7:String} {e0 e1 e2 e3 e4 e5 e6 e7:Array Edge} {fn:Func} (hf:P.funcs[c]? = some fn) (aa:aO P c) (ab:aO P cc)
  (hb:fn.body=some (.seq (.region i0 #[⟨some 2,.alloc T1,y0,p0,e0,none⟩,⟨some 3,.alloc T2,y1,p1,e1,none⟩] false)
   (.seq (.region i1 #[⟨some 4,.makeFunc (.func cc) #[] #[.tmp 2,.tmp 3],y2,p2,e2,none⟩,⟨none,.defer ⟨.value (.tmp 4),#[],#[]⟩,y3,p3,e3,none⟩] false)
   (.seq (.region i2 #[⟨some 5,.move (.tmp 0),y4,p4,e4,none⟩,⟨some 6,.call ⟨.value (.tmp 5),#[],#[]⟩,y5,p5,e5,none⟩] false)
   (.seq (.region i3 #[⟨none,.store T1 (.tmp 2) (.const (.int .i64 0)),y6,p6,e6,none⟩,⟨none,.store T2 (.tmp 3) (.const (.int .i64 0)),y7,p7,e7,none⟩] false) .ret)))))
  (hn:fn.ntmps=7) (G:fn.results = #[.cell 2 T1,.cell 3 T2])
  (Q:∀H,u_ tb T1 H=some (.ptr H.n 0,H.new (.cells [vE]))) (U:∀H,u_ tb T2 H=some (.ptr H.n 0,H.new (.cells [vE])))
  (Y:∀H h c,GH.cells H h=some [c]->sE tb T1 (.ptr h 0) vE H=some (.un,H.set h (.cells [vE]))) (Z:∀H h c,GH.cells H h=some [c]->sE tb T2 (.ptr h 0) vE H=some (.un,H.set h (.cells [vE])))
  (W:∀H h,GH.cells H h=some [vE]->vA tb T1 (.ptr h 0) H=some vE) (X:∀H h,GH.cells H h=some [vE]->vA tb T2 (.ptr h 0) H=some vE)
  (D:∀args w,args.size=2->CallsDIn (FR none) 0 P cc args .returning w fun e u' w'=>∃v,e = .returned v∧u' = .returning∧JJ w w')
  {ρ:dH} {g:Nat} {us cs:List Value} {w:World} {H H':GH} {c1 c2:GV} (R:eT w0 ρ H w) (hc:∀i w',ρ.le i->eT w0 i ((H.new (.cells [vE])).new (.cells [vE])) w'->∃x,kE P w0 i g (us++cs) w' x H') (h1:H'.cells H.n=some [c1]) (A:H'.cells (H.n+1)=some [c2]):
  kE P w0 ρ c [.func (.func g) us.toArray cs.toArray] w (.tup [vE,vE]) ((((H'.set H.n (.cells [vE])).set (H.n+1) (.cells [vE])).del H.n).del (H.n+1)):=by
 refine .inr ⟨aa _ w,?_⟩
 refine LK (r:=none) (n:=0) (callsIn_of_wp_defers hf hb trivial ?_)
 rw[hn]
 obtain⟨b,w1,aj,ad,s,R1,I⟩:=FA (P:=P) C R (Q H)
 obtain⟨d,o,z,ae,k,R2,J⟩:=FA (P:=P) C R1 (U _)
 obtain⟨x,hx⟩:=hc z o (dH.le_trans s k) R2
 refine wpIn_seq (rC rfl ?_)
 refine GN rfl (v:=b) (w':=w1) (by simp[execOp,ad]) ?_
 refine GN rfl (v:=d) (w':=o) (by simp[execOp,ae]) ?_
 show Code.wpIn (FR none) 0 P _ _ (⟨#[.func (.func g) us.toArray cs.toArray,undef,b,d,undef,undef,undef],[]⟩:Act) o
 refine wpIn_seq (wpIn_region_lit ?_)
 refine wpListIn_plain rfl fun K V=>⟨fun _ _=>trivial,?_⟩
 have hm:(Oper.semAt (FR none).round (⟨#[.func (.func g) us.toArray cs.toArray,undef,b,d,undef,undef,undef],[]⟩:Act).eval ⟨some 4,.makeFunc (.func cc) #[] #[.tmp 2,.tmp 3],y2,p2,e2,none⟩).run P o = .ok (.value (.func (.func cc) #[] #[b,d])) o:=by
  rw[show(FR none).round=none from rfl,Oper.semAt_none]
  simp[execOp,Instr.makeFunc,Act.eval]
 rw[hm]
 refine V _ _ ?_
 show wpListIn _ _ _ _ _ _ (⟨#[.func (.func g) us.toArray cs.toArray,undef,b,d,.func (.func cc) #[] #[b,d],undef,undef],[]⟩:Act) o
 refine wpListIn_plain rfl fun K V=>⟨fun _ _=>trivial,?_⟩
 have hm:(Oper.semAt (FR none).round (⟨#[.func (.func g) us.toArray cs.toArray,undef,b,d,.func (.func cc) #[] #[b,d],undef,undef],[]⟩:Act).eval ⟨none,.defer ⟨.value (.tmp 4),#[],#[]⟩,y3,p3,e3,none⟩).run P o = .ok (.defer ⟨.fn (.func cc) #[b,d],#[]⟩) o:=by
  rw[show(FR none).round=none from rfl,Oper.semAt_none]
  simp[execOp,resolve,Act.eval,Deferred.ofValue]
 rw[hm]
 refine V _ _ ?_
 show Code.wpIn (FR none) 0 P _ _ (⟨#[.func (.func g) us.toArray cs.toArray,undef,b,d,.func (.func cc) #[] #[b,d],undef,undef],[⟨.fn (.func cc) #[b,d],#[]⟩]⟩:Act) o
 refine wpIn_seq (rC rfl ?_)
 refine GN rfl (v:= .func (.func g) us.toArray cs.toArray) (w':=o) (by simp[execOp,Act.eval]) ?_
 show Sx.wpList _ _ _ _ (⟨#[.func (.func g) us.toArray cs.toArray,undef,b,d,.func (.func cc) #[] #[b,d],.func (.func g) us.toArray cs.toArray,undef],[⟨.fn (.func cc) #[b,d],#[]⟩]⟩:Act) o
 have go:∀v u j,z.le j->eT w0 j H' u->Code.wpIn (FR none) 0 P (.seq (.region i3 #[⟨none,.store T1 (.tmp 2) (.const (.int .i64 0)),y6,p6,e6,none⟩,⟨none,.store T2 (.tmp 3) (.const (.int .i64 0)),y7,p7,e7,none⟩] false) .ret) (bodyPostDIn (FR none) 0 P fn fun e w'=>∃v i,e = .returned v∧ρ.le i∧eT w0 i ((((H'.set H.n (.cells [vE])).set (H.n+1) (.cells [vE])).del H.n).del (H.n+1)) w'∧Rl i (.tup [vE,vE]) v) (⟨#[.func (.func g) us.toArray cs.toArray,undef,b,d,.func (.func cc) #[] #[b,d],.func (.func g) us.toArray cs.toArray,v],[⟨.fn (.func cc) #[b,d],#[]⟩]⟩:Act) u:=by
  intro v u j a B
  have hz:∀ρ,Rl ρ vE (.int .i64 0):=fun ρ=> .int _ _
  obtain⟨_,w4,ak,af,l,R4⟩:=FB (P:=P) (T:=T1) C B ((I.le k).le a) (hz _) (Y _ _ _ h1)
  have N:(H'.set H.n (.cells [vE])).cells (H.n+1)=some [c2]:=by
   rw[gC]at A ⊢
   rw[qN,if_neg (by omega)];exact A
  obtain⟨_,M,L,ag,m,R5⟩:=FB (P:=P) (T:=T2) C R4 ((J.le a).le l) (hz _) (Z _ _ _ N)
  refine wpIn_seq (rC rfl ?_)
  refine Nc rfl (w':=w4) (by simp[execOp,Act.eval,af]) ?_
  refine Nc rfl (w':=M) (by simp[execOp,Act.eval,Act.put,ag]) ?_
  refine wpIn_ret ?_
  show LeavesIn (FR none) 0 P fn #[.func (.func g) us.toArray cs.toArray,undef,b,d,.func (.func cc) #[] #[b,d],.func (.func g) us.toArray cs.toArray,v] _ [⟨.fn (.func cc) #[b,d],#[]⟩] .returning M
  refine leavesIn_cons (f:=cc) (args:= #[b,d]) (by simp) (by simp[FR,Fence.wide]) (by simp[invoke,ab _ M]) (fun _ _=>trivial) ?_
  refine(D #[b,d] M rfl).mono ?_
  rintro e u' w6 ⟨x6,rfl,rfl,E⟩
  have R6:=R5.ext' E
  have F:jQ L 7 [(2,.ptr H.n 0),(3,.ptr (H.n+1) 0)] (⟨#[.func (.func g) us.toArray cs.toArray,undef,b,d,.func (.func cc) #[] #[b,d],.func (.func g) us.toArray cs.toArray,v],[]⟩:Act):=by
   refine⟨rfl,rfl,fun t g q=> ?_⟩
   rw[yG]at q
   by_cases A:t=2
   ·rw[if_pos A]at q;cases q;rw[A]
    exact(((I.le k).le a).le l).le m
   ·rw[if_neg A,yG]at q
    by_cases O:t=3
    ·rw[if_pos O]at q;cases q;rw[O]
     exact((J.le a).le l).le m
    ·rw[if_neg O]at q;cases q
  have y:Oh tb ⟨fn.results.toList,0,[]⟩ ⟨[(2,.ptr H.n 0),(3,.ptr (H.n+1) 0)],(H'.set H.n (.cells [vE])).set (H.n+1) (.cells [vE])⟩=some ⟨.ret,[vE,vE],(H'.set H.n (.cells [vE])).set (H.n+1) (.cells [vE])⟩:=by
   rw[G]
   have q1:vA tb T1 (.ptr H.n 0) ((H'.set H.n (.cells [vE])).set (H.n+1) (.cells [vE]))=some vE:=W _ _ (by rw[gC,qN,if_neg (by omega),qN,if_pos rfl])
   have q2:vA tb T2 (.ptr (H.n+1) 0) ((H'.set H.n (.cells [vE])).set (H.n+1) (.cells [vE]))=some vE:=X _ _ (by rw[gC,qN,if_pos rfl])
   show ob (ob (vA tb T1 (.ptr H.n 0) _) fun v=>ob (ob (vA tb T2 (.ptr (H.n+1) 0) _) fun v=>ob (some []) fun vs=>some (v::vs)) fun vs=>some (v::vs)) _=_
   rw[q1,q2];rfl
  obtain⟨_,v6,ai,ah⟩:=Ep (fn:=fn) (P:=P) C rfl F R6 y
  exact⟨v6,ah,v6,L,rfl,dH.le_trans s (dH.le_trans k (dH.le_trans a (dH.le_trans l m))),(R6.del _).del _,ai⟩
 rcases hx with⟨v,u,j,hr,a,B,_⟩|⟨hr,p⟩
 ·refine GN rfl (v:=v) (w':=u) (by simpa [execOp,resolve,Act.eval,Deferred.ofValue,invoke]using hr) ?_
  exact go v u j a B
 ·refine Rs rfl (f:=g) (args:=(us++cs).toArray) (S:=fun v w'=>∃i,z.le i∧eT w0 i H' w') (by simpa [execOp,resolve,Act.eval,Deferred.ofValue,invoke]using hr) (p.mono ?_) fun v u ⟨j,a,B⟩=>go v u j a B
  rintro e w' ⟨v,i,rfl,ac,R',_⟩
  exact⟨v,rfl,i,ac,R'⟩
end
end
section
noncomputable section
def NT (n c:Nat) (len:Nat):Nat->Option Nat:=Nat.rec (motive:=fun _=>Nat->Option Nat) (fun _=>none) (fun _ a i=>Bool.casesOn (motive:=fun _=>Option Nat) (Nat.beq (Nat.mod (Nat.shiftRight n (Nat.mul 8 i)) 256) c) (a (Nat.succ i)) (some i)) len
def acV (k:IntKind):Bool:=match k with
 | .u8=>true
 |_=>false
def Tz (b:Nat) (f:Nat) (us:List GV):Option GV:=bif Nat.beq f b then List.casesOn (motive:=fun _=>Option GV) us none (fun a r=>List.casesOn (motive:=fun _=>Option GV) r none fun c r=>List.casesOn (motive:=fun _=>Option GV) r (ob a.asStr fun s=>ob c.asI fun p=>ob (XG p.2) fun k=>
 bif acV p.1 then(bif Nat.blt k 256 then Option.casesOn (motive:=fun _=>Option GV) (NT s.1 k s.2 0) (some (.int .i64 (.negSucc 0))) (fun i=>some (.int .i64 (.ofNat i)))else none)else none) fun _ _=>none)else none
theorem Po (x:List UInt8) (c:Nat) (hc:c<256):∀k i,i+k=x.length->(match NT (kD x) c k i with|none=>(-1:Int)|some j=>(j:Int))=(if Lib.indexByte (x.drop i) c.toUInt8 = -1 then -1 else Lib.indexByte (x.drop i) c.toUInt8+i)
 |0,i,h=>by
  rw[List.drop_of_length_le (by omega)]
  simp[NT,Lib.indexByte]
 | k + 1, i, h => by
  have n:=Po x c hc k (i+1) (by omega)
  have g:i<x.length:=by omega
  have e:NT (kD x) c (k+1) i=Bool.casesOn (motive:=fun _=>Option Nat) (Nat.beq (Nat.mod (Nat.shiftRight (kD x) (Nat.mul 8 i)) 256) c) (NT (kD x) c k (i+1)) (some i):=rfl
  rw[e,Pe x i g,List.drop_eq_getElem_cons g]
  have a:(x[i]).toNat=c↔x[i]=c.toUInt8:=by
   rw[<-UInt8.toNat_inj]
   have:c.toUInt8.toNat=c:=by simp[Nat.toUInt8];omega
   rw[this]
  unfold Lib.indexByte
  cases d:Nat.beq (x[i]).toNat c with
  |true=>
   have:=a.1 (Nat.eq_of_beq_eq_true d)
   simp[this]
  | false =>
   have f:¬x[i]=c.toUInt8:=fun l=>by
    have:=a.2 l
    rw[this]at d
    simp at d
   have m:=Lib.indexByte_ge (x.drop (i+1)) c.toUInt8
   simp only[beq_iff_eq,f,if_false]
   rw[n]
   by_cases b:Lib.indexByte (x.drop (i+1)) c.toUInt8 = -1
   ·simp[b]
   ·rw[if_neg b,if_neg b,if_neg (by omega)]
    push_cast;omega
section
variable {P:Program} {gs:wT} {w0:eD gs}
theorem Wg {o:Nat} {fn:Func} (B:P.funcs[o]? = some fn) (e:(fn.name == "runtime.NumGoroutine")=false) (z:fn.body.isNone=true) (D:Extern.findNext fn=none) (A:Extern.find fn=some Extern.BytealgIndexByte.indexByte)
  {f:Nat} {us:List GV} {g:GV} (h:Tz o f us=some g) (ρ:dH) (w:World) (vs:List Value) (H:GH) (R:eT w0 ρ H w) (i:oS ρ us vs):kE P w0 ρ f vs w g H:=by
 unfold Tz at h
 replace h:=bI.1 h
 have y:=Nat.eq_of_beq_eq_true h.1
 replace h:=h.2
 subst y
 cases us with
 |nil=>cases h
 |cons a us=>
 cases us with
 |nil=>cases h
 |cons c us=>
 cases us with
 |cons _ _=>cases h
 |nil=>
 obtain⟨s,G,h⟩:=aD.1 (show ob a.asStr _=some g from h)
 obtain⟨p,E,h⟩:=aD.1 h
 obtain⟨k,C,h⟩:=aD.1 h
 obtain⟨q,h⟩:=bI.1 h
 obtain⟨d,h⟩:=bI.1 h
 obtain⟨v,vs,rfl,r,i⟩:=i.of_cons
 obtain⟨J,vs,rfl,b,i⟩:=i.of_cons
 rw[i.of_nil]
 rw[oA G]at r
 rw[mK E]at b
 obtain⟨S,rfl,u,I⟩:=r.str_inv
 have b:=b.int_inv
 subst b
 have n:p.1 = .u8:=by cases F:p.1<;>rw[F]at q<;>first|rfl|cases q
 have m:p.2=(k:Int):=EP C
 have d:k<256:=by simpa using d
 refine .inl ⟨.int .i64 (Lib.indexByte S.data.toList p.2.toNat.toUInt8),w,ρ,?_,dH.le_refl _,R,?_⟩
 ·rw[run_callFunc_extern B e z D A,n,Lib.run_indexByteString]
  rfl
 ·have l:=Po (bE S) k d s.2 0 (by omega)
  rw[u]at h
  rw[List.drop_zero]at l
  have x:Lib.indexByte S.data.toList p.2.toNat.toUInt8=(match NT (kD (bE S)) k s.2 0 with|none=>(-1:Int)|some j=>(j:Int)):=by
   rw[l,m]
   have:bE S=S.data.toList:=rfl
   rw[this]
   simp only[Int.toNat_natCast]
   split
   ·assumption
   ·omega
  rw[x]
  cases t:NT (kD (bE S)) k s.2 0 with
  |none=>rw[t]at h;cases h;exact .int _ _
  |some j=>rw[t]at h;cases h;exact .int _ _
end
end
end
section
noncomputable section
def Yv {a:Type} (b:Nat) (d:List GV->Option a) (n:Nat):List GV->Option (List a):=Nat.rec (motive:=fun _=>List GV->Option (List a)) (fun _=>some []) (fun _ c cs=>ob (d (cs.take b)) fun y=>ob (c (cs.drop b)) fun ys=>some (y::ys)) n
def LU {b:Type} (H:GH) (a:Nat) (d:List GV->Option b) (v:GV):Option (List b):=ob (rF H a v) fun p=>bif Nat.ble p.1 1099511627776 then Yv a d p.1 p.2 else none
def dI (k:IntKind) (cs:List GV):Option Int:=List.casesOn (motive:=fun _=>Option Int) cs none fun c r=>List.casesOn (motive:=fun _=>Option Int) r (ob c.asI fun p=>bif decide (p.1=k)then some p.2 else none) fun _ _=>none
def dP {a b:Type} (n:Nat) (d:List GV->Option a) (e:List GV->Option b) (cs:List GV):Option (a×b):=ob (d (cs.take n)) fun x=>ob (e (cs.drop n)) fun y=>some (x,y)
def dS {a:Type} (H:GH) (b:Nat) (d:List GV->Option a) (cs:List GV):Option (List a):=List.casesOn (motive:=fun _=>Option (List a)) cs none fun c r=>List.casesOn (motive:=fun _=>Option (List a)) r (LU H b d c) fun _ _=>none
end
section
variable {P:Program} {gs:wT} {w0:eD gs} {w:World} {ρ:dH} {H:GH} {S:Nat->Prop}
def All (_:Nat):Prop:=True
def gF {a b:Type} (S:Nat->Prop) (ρ:dH) (w:World) (d:List GV->Option b) (r:eH a) (c:a->b):Prop:=∀gs vs y,oS ρ gs vs->d gs=some y->gs.length=r.sz->∃z,c z=y∧r.R w S vs z
theorem gF.int (k:IntKind):gF S ρ w (dI k) (eH.int k) id:=fun gs vs y b h _=>by
 cases gs with
 |nil=>cases h
 |cons c gs=>
 cases gs with
 |cons _ _=>cases h
 |nil=>
 obtain⟨p,e,h⟩:=aD.1 (show ob c.asI _=some y from h)
 obtain⟨a,h⟩:=bI.1 h
 cases h
 obtain⟨v,vs,rfl,d,b⟩:=b.of_cons
 rw[b.of_nil]
 rw[mK e]at d
 rw[d.int_inv]
 have a:=of_decide_eq_true a
 exact⟨p.2,rfl,by rw[a];rfl⟩
theorem gF.pair {p q b c:Type} {d:List GV->Option b} {e:List GV->Option c} {r:eH p} {s:eH q} {l:p->b} {m:q->c} (t:gF S ρ w d r l) (u:gF S ρ w e s m):gF S ρ w (dP r.sz d e) (eH.pair r s) (fun z=>(l z.1,m z.2)):=fun gs vs y f h o=>by
 obtain⟨x,A,h⟩:=aD.1 (show ob (d (gs.take r.sz)) _=some y from h)
 obtain⟨E,j,h⟩:=aD.1 h
 cases h
 have o:gs.length=r.sz+s.sz:=o
 have D:=f.len
 obtain⟨z,rfl,B⟩:=t _ (vs.take r.sz) _ (by simpa using f.sub 0 r.sz) A (by simp;omega)
 obtain⟨C,rfl,k⟩:=u _ (vs.drop r.sz) _ ⟨by simp;omega,fun i g v n a=>by rw[List.getElem?_drop]at n a;exact f.at' _ _ _ n a⟩ j (by simp;omega)
 exact⟨(z,C),rfl,_,_,(List.take_append_drop r.sz vs).symm,B,k⟩
theorem O_ {A B:Type} {d:List GV->Option B} {r:eH A} {C:A->B} (D:gF S ρ w d r C) (b:Nat):∀(n:Nat) (cs:List GV) (k:List Value) (a:Nat) (ys:List B),Yv r.sz d n cs=some ys->oS ρ cs k->cs.length=n*r.sz->(∀(j:Nat) x,k[j]? = some x->w.cell? ⟨b,a+j,none⟩=some x)->
  ∃m:List A,m.map C=ys∧m.length=n∧∀(i:Nat) z,m[i]? = some z->∃o,(∀(j:Nat) e,o[j]? = some e->w.cell? ⟨b,a+(i*r.sz+j),none⟩=some e)∧r.R w S o z
 |0,cs,k,a,ys,h,hr,hl,hc=>by
  cases h
  exact⟨[],rfl,rfl,fun i z q=>by simp at q⟩
 | n + 1, cs, k, a, ys, h, hr, hl, hc => by
  obtain⟨y,K,h⟩:=aD.1 (show ob (d (cs.take r.sz)) (fun y=>ob (Yv r.sz d n (cs.drop r.sz)) fun ys=>some (y::ys))=some ys from h)
  obtain⟨u,p,h⟩:=aD.1 h
  cases h
  rw[Nat.succ_mul]at hl
  have M:=hr.len
  obtain⟨z,rfl,q⟩:=D _ (k.take r.sz) _ (by simpa using hr.sub 0 r.sz) K (by simp;omega)
  obtain⟨m,rfl,s,t⟩:=O_ D b n (cs.drop r.sz) (k.drop r.sz) (a+r.sz) u p ⟨by simp;omega,fun i g v E l=>by rw[List.getElem?_drop]at E l;exact hr.at' _ _ _ E l⟩ (by simp;omega) (fun j x G=>by
   rw[List.getElem?_drop]at G
   rw[Nat.add_assoc];exact hc _ _ G)
  refine⟨z::m,rfl,by simp[s],fun i L c=> ?_⟩
  cases i with
  | zero =>
   simp at c;subst c
   refine⟨_,fun j e f=> ?_,q⟩
   rw[List.getElem?_take]at f
   by_cases F:j<r.sz
   ·rw[if_pos F]at f
    have:=hc j e f
    simpa using this
   ·rw[if_neg F]at f;cases f
  |succ i=>
   simp at c
   obtain⟨o,I,J⟩:=t i L c
   refine⟨o,fun j e f=> ?_,J⟩
   have:=I j e f
   rw[Nat.succ_mul]
   rw[show a+(i*r.sz+r.sz+j)=a+r.sz+(i*r.sz+j) by omega]
   exact this
theorem LR (R:eT w0 ρ H w) {v:GV} {V:Value} {y:Nat} {p:Nat×List GV} (q:Rl ρ v V) (h:rF H y v=some p):
  p.2.length=p.1*y∧∃a cap,V = .slice a p.1 cap∧p.1<=cap∧(p.1=0∨∃b f m,a=some ⟨b,f,none⟩∧w0.mine b∧oS ρ p.2 m∧∀(j:Nat) x,m[j]? = some x->w.cell? ⟨b,f+j,none⟩=some x):=by
 obtain⟨m,C⟩:=AM R q h
 refine⟨by rw[C.rel.len,C.len],?_⟩
 obtain⟨base,cap,t,hc,B⟩:=C.val
 refine⟨base,cap,t,hc,?_⟩
 rcases B with⟨_,i,_⟩|⟨A,rfl,c⟩
 ·exact .inl i
 ·by_cases i:p.1=0
  ·exact .inl i
  ·refine .inr ?_
   unfold rF at h
   cases u:v.isSnil with
   |true=>rw[u]at h;cases h;exact absurd rfl i
   | false =>
    rw[u]at h
    obtain⟨s,E,h⟩:=aD.1 (show ob v.asS _=some p from h)
    rw[zP E,t]at q
    obtain⟨l,r,G,D,e,z,k⟩:=q.sl_inv
    injection e with g I J
    injection g with g
    rcases k with k|⟨k,_⟩
    ·omega
    ·rw[k]at g
     subst g
     have o:w0.mine l.b:=by
      obtain⟨_,h⟩:=bI.1 h
      obtain⟨cs,n,_⟩:=aD.1 h
      obtain⟨K,d,o,_⟩:=R.live _ _ (gC.1 n)
      rw[D]at d;cases d;exact o
     exact⟨l.b,l.off+s.2.1,m,rfl,o,C.rel,fun j x F=>by have:=c j x F;rwa[dK]at this⟩
theorem Co {j l:Type} {d:List GV->Option l} {r:eH j} {m:j->l} (R:eT w0 ρ H w) (q:∀k,w0.mine k->S k) (s:gF S ρ w d r m) {v:GV} {V:Value} {ys:List l} (z:Rl ρ v V) (h:LU H r.sz d v=some ys):∃i:List j,i.map m=ys∧Gs r w S V i:=by
 obtain⟨p,x,h⟩:=aD.1 (show ob (rF H r.sz v) _=some ys from h)
 obtain⟨f,h⟩:=bI.1 h
 have f:p.1<=1099511627776:=by simpa using f
 obtain⟨g,a,cap,rfl,hc,t⟩:=LR R z x
 rcases t with n|⟨b,e,B,rfl,u,y,c⟩
 ·rw[n]at h;cases h
  exact⟨[],rfl,a,cap,by rw[n];rfl,by simp,.inl rfl⟩
 ·obtain⟨i,rfl,o,A⟩:=O_ s b p.1 p.2 B e ys h y g c
  exact⟨i,rfl,some ⟨b,e,none⟩,cap,by rw[o],by rw[o];omega,.inr ⟨b,e,rfl,q b u,A⟩⟩
theorem gF.sl {e f:Type} {d:List GV->Option f} {r:eH e} {b:e->f} (R:eT w0 ρ H w) (g:∀k,w0.mine k->S k) (i:gF S ρ w d r b):gF S ρ w (dS H r.sz d) (eH.sl r) (fun z=>z.2.map b):=fun gs vs y a h n=>by
 cases gs with
 |nil=>cases h
 |cons c gs=>
 cases gs with
 |cons _ _=>cases h
 |nil=>
 have h:LU H r.sz d c=some y:=h
 obtain⟨v,vs,rfl,j,a⟩:=a.of_cons
 rw[a.of_nil]
 obtain⟨m,rfl,l⟩:=Co R g i j h
 exact⟨(v,m),rfl,rfl,l⟩
end
end
section
noncomputable section
def sX {a:Type} (c:Nat) (g:a->List GV) (xss:List (List a)):GH->List GV×GH:=List.rec (motive:=fun _=>GH->List GV×GH) (fun H=>([],H)) (fun xs _ b H=>let r:=b (H.new (.cells (xs.flatMap g)));(.sl H.n 0 xs.length c::r.1,r.2)) xss
end
section
variable {P:Program} {gs:wT} {w0:eD gs} {w:World} {ρ:dH} {H:GH}
def CR (ρ:dH) (H:GH) (B:Nat->Prop):Prop:=∀h o l,H.get h=some o->ρ h=some l->¬B l.b
theorem CR.mono {B b:Nat->Prop} (h:CR ρ H B) (f:∀k,b k->B k):CR ρ H b:=fun a o l c d e=>h a o l c d (f _ e)
theorem CR.start (R:eT w0 ρ H w):CR ρ H (fun k=>w.heap.size<=k):=fun h o l b c e=>by
 obtain⟨f,a,_,d⟩:=R.live h o b
 rw[c]at a;cases a
 have:=d.lt
 omega
theorem Ff {K:Type} {e:c_ K} {xs:List K} {cs:List GV} {v:Value} {B F:Nat->Prop} (R:eT w0 ρ H w) (A:CR ρ H B) (O:∀k,B k->w0.mine k) (q:∀k,F k->B k) (Q:Bv e w F v xs) (z:xs≠[]) (r:oS ρ cs (cellsOf e xs)):
  ∃d,ρ.le d∧eT w0 d (H.new (.cells cs)) w∧Rl d (.sl H.n 0 xs.length e.sz) v∧CR d (H.new (.cells cs)) (fun k=>B k∧¬F k):=by
 obtain⟨_,t,S⟩:=Q
 rcases S with⟨_,N⟩|⟨b,m,cap,T,c,rfl,y,D,hc,C,a⟩
 ·exact absurd N z
 have J:(cellsOf e xs).length=xs.length*e.sz:=by
  rw[<-a]
  simp
  have:xs.length*e.sz<=cap*e.sz:=Nat.mul_le_mul_right _ hc
  omega
 have s:ρ.le (ρ.upd H.n ⟨b,m,c.size,.cells c T (0,0),.cells cs⟩):=vO (R.fresh _ (Nat.le_refl _))
 have E:xs.length*e.sz<=cap*e.sz:=Nat.mul_le_mul_right _ hc
 obtain⟨_,L⟩:=R.new (o:= .cells cs) (l:=⟨b,m,c.size,.cells c T (0,0),.cells cs⟩) R.ext (fun h W V f j=>⟨rfl,fun M=>A h W V f j (by rw[M];exact q _ y)⟩) (O _ (q _ y)) ⟨c,T,D,rfl,by
   show m+cs.length<=c.size
   have:=r.len;omega,fun i g f=>by
   obtain⟨x,p,U⟩:=r.get f
   refine⟨x,?_,U.le s,List.all_eq_true.1 t x (List.mem_of_getElem? p)⟩
   rw[<-a,List.getElem?_take]at p
   by_cases G:i<xs.length*e.sz
   ·rw[if_pos G,List.getElem?_drop,Array.getElem?_toList]at p;exact p
   ·rw[if_neg G]at p;cases p⟩ D
 refine⟨_,s,L,.sl (by simp[dH.upd];rfl) hc (.inr ⟨rfl,C⟩),fun h o l f j I=> ?_⟩
 rw[pA]at f
 by_cases u:h=H.n
 ·rw[u]at j
  simp[dH.upd]at j
  subst j
  exact I.2 y
 ·rw[if_neg u]at f
  simp only[dH.upd,if_neg u]at j
  exact A h o l f j I.1
theorem Ki {a:Type} {e:c_ a} {g:a->List GV} (b:∀x,oS ρ (g x) (e.enc x)):∀xs:List a,oS ρ (xs.flatMap g) (cellsOf e xs)
 | []=> .nil
 |x::xs=>(b x).append (Ki b xs)
theorem HG {n:Type} {e:c_ n} {g:n->List GV} (q:∀ρ x,oS ρ (g x) (e.enc x)):∀(xss:List (List n)) (vs:List Value) (G:Nat->Nat->Prop) (B:Nat->Prop) (ρ:dH) (H:GH),eT w0 ρ H w->CR ρ H B->(∀k,B k->w0.mine k)->vs.length=xss.length->
  (∀xs∈xss,xs≠[])->(∀i v xs,vs[i]? = some v->xss[i]? = some xs->Bv e w (G i) v xs)->(∀i k,G i k->B k)->(∀i j k,G i k->G j k->i=j)->
  ∃b,ρ.le b∧eT w0 b (sX e.sz g xss H).2 w∧oS b (sX e.sz g xss H).1 vs∧CR b (sX e.sz g xss H).2 (fun k=>B k∧∀i,¬G i k)
 | [],vs,G,B,ρ,H,R,A,hB,hl,_,h1,h2,h3=>by
  have:vs=[]:=List.eq_nil_of_length_eq_zero hl
  subst this
  exact⟨ρ,dH.le_refl _,R,.nil,A.mono fun k a=>a.1⟩
 |xs::xss,[],G,B,ρ,H,R,A,hB,hl,_,h1,h2,h3=>by simp at hl
 |xs::xss,v::vs,G,B,ρ,H,R,A,hB,hl,hne,h1,h2,h3=>by
  obtain⟨o,d,t,E,r⟩:=Ff R A hB (h2 0) (h1 0 v xs rfl rfl) (hne xs (by simp)) (Ki (q ρ) xs)
  obtain⟨p,c,u,h,s⟩:=HG q xss vs (fun i=>G (i+1)) _ o _ t r (fun k a=>hB k a.1) (by simpa using hl) (fun y F=>hne y (by simp[F])) (fun i I m f l=>h1 (i+1) I m (by simpa using f) (by simpa using l)) (fun i k a=>⟨h2 _ k a,fun z=>by have:=h3 _ _ k a z;omega⟩) (fun i j k C D=>by have:=h3 _ _ k C D;omega)
  refine⟨p,dH.le_trans d c,u,.cons (E.le c) h,s.mono fun k a=>⟨⟨a.1,a.2 0⟩,fun i=>a.2 (i+1)⟩⟩
theorem Jr:∀vs:List Value,cellsOf c_.raw vs=vs
 | []=>rfl
 |v::vs=>by show v::cellsOf c_.raw vs=_;rw[Jr vs]
end
end
section
section
variable {P:Program} {gs:wT} {w0:eD gs} {w:World} {ρ:dH} {H:GH}
theorem Dv {f:Nat} {vs:List Value} {L:List aX} {V:Value} {g:GV} (b:aO P f) (c:aV P f vs.toArray L (fun _:Unit=>V) (fun _ l=>l) (fun _ l=>l)) (R:eT w0 ρ H w) (a:∀h∈L,h.p w All) (d:∀ρ,Rl ρ g V):kE P w0 ρ f vs w g H:=by
 refine .inr ⟨b _ w,(c w All a).mono ?_⟩
 rintro e w' ⟨_,rfl,t⟩
 exact⟨V,ρ,rfl,dH.le_refl _,R.ext' t.old.ext,d _⟩
theorem NS {Q S:Type} {e:c_ Q} {g:Q->List GV} {q:c_ S} {s:S->List GV} (hg:∀ρ x,oS ρ (g x) (e.enc x)) (E:∀ρ x,oS ρ (s x) (q.enc x)) {f:Nat} {vs:List Value} {L:List aX} {r:List Q×List (List S)} (A:r.1≠[]) (C:r.2≠[]) (h3:∀xs∈r.2,xs≠[]) (hb:aO P f)
  (hm:aV P f vs.toArray L (fun x:Value×Value×List Value=>Value.agg #[x.1,x.2.1]) (fun x l=>Ar e x.1 r.1::Ar c_.raw x.2.1 x.2.2::gU q x.2.2 r.2::l) (fun _ l=>l)) (R:eT w0 ρ H w) (hL:∀h∈L,h.p w All):
  kE P w0 ρ f vs w (.agg [.sl H.n 0 r.1.length e.sz,.sl (sX q.sz s r.2 (H.new (.cells (r.1.flatMap g)))).2.n 0 r.2.length 1]) ((sX q.sz s r.2 (H.new (.cells (r.1.flatMap g)))).2.new (.cells (sX q.sz s r.2 (H.new (.cells (r.1.flatMap g)))).1)):=by
 refine .inr ⟨hb _ w,(hm w All hL).mono ?_⟩
 rintro en w' ⟨x,rfl,t⟩
 obtain⟨F,O,_⟩:=t.own
 have X:Bv _ w' (F 0) x.1 r.1:=O.res 0 _ rfl
 have Y:Bv c_.raw w' (F 1) x.2.1 x.2.2:=O.res 1 _ rfl
 obtain⟨z,G,q2,N,q4⟩:(gU q x.2.2 r.2).p w' (F 2):=O.res 2 _ rfl
 have R':=R.ext' t.old.ext
 have D:∀i k,F i k->w.heap.size<=k:=fun i k c=>by
  rcases(O.rng i k c).1 with h|h
  ·exact h
  exact h.elim
 obtain⟨U,y,R1,J,A1⟩:=Ff (B:=fun k=>w.heap.size<=k) R' (fun a o l A C=>CR.start R a o l A C) (fun k c=> .inl (Nat.le_trans R.ext.size c)) (D 0) X A (Ki (hg ρ) r.1)
 obtain⟨ac,j,R2,K,A2⟩:=HG E r.2 x.2.2 G _ U _ R1 A1 (fun k c=> .inl (Nat.le_trans R.ext.size c.1)) z h3 q2 (fun i k c=>⟨D _ _ (N i k c),fun u=>by have:=O.dis _ _ k (N i k c) u;omega⟩) q4
 have I:x.2.2≠[]:=fun u=>by rw[u]at z;exact C (List.eq_nil_of_length_eq_zero z.symm)
 obtain⟨V,m,R3,M,_⟩:=Ff (cs:=(sX q.sz s r.2 (H.new (.cells (r.1.flatMap g)))).1) (F:=F 1) R2 A2 (fun k c=> .inl (Nat.le_trans R.ext.size c.1.1)) (fun k c=>⟨⟨D _ _ c,fun u=>by have:=O.dis _ _ k c u;omega⟩,fun i hi=>by have:=O.dis _ _ k c (N i k hi);omega⟩) Y I (by rw[Jr];exact K)
 refine⟨_,V,rfl,dH.le_trans y (dH.le_trans j m),R3,?_⟩
 refine DT (vs:=[x.1,x.2.1]) (.cons ((J.le j).le m) (.cons (by rw[<-z];exact M) .nil)) fun v W=>?_
 have d:∀{Z:Type} {e:c_ Z} {F:Nat->Prop} {v:Value} {xs:List Z},Bv e w' F v xs->one v=true:=fun h=>by
  obtain⟨_,_,h⟩:=h
  rcases h with⟨rfl,_⟩|⟨b,ab,cap,T,aa,rfl,_⟩<;>rfl
 simp at W
 rcases W with rfl|rfl
 ·exact d X
 exact d Y
end
noncomputable section
def IX (H:GH) (v:GV):Option (List Int):=LU H 1 (dI .i64) v
def Tc (H:GH) (v:GV):Option (List (List (Int×Int))):=LU H 1 (dS H 2 (dP 1 (dI .i64) (dI .i64))) v
def Tb (H:GH) (v:GV):Option (List Int×List (List (Int×Int))):=ob v.asA fun cs=>List.casesOn (motive:=fun _=>Option (List Int×List (List (Int×Int)))) cs none fun a r=>List.casesOn (motive:=fun _=>Option (List Int×List (List (Int×Int)))) r none fun b r=>List.casesOn (motive:=fun _=>Option (List Int×List (List (Int×Int)))) r (ob (IX H a) fun x=>ob (Tc H b) fun y=>some (x,y)) fun _ _=>none
end
section
variable {P:Program} {gs:wT} {w0:eD gs} {w:World} {ρ:dH} {H:GH}
theorem Ec (R:eT w0 ρ H w) {v:GV} {V:Value} {xs:List Int} (a:Rl ρ v V) (h:IX H v=some xs):(Sl (eH.int .i64) V xs).p w All:=by
 obtain⟨c,rfl,b⟩:=Co R (fun _ _=>trivial) (gF.int .i64) a h
 rw[List.map_id]
 exact b
theorem QG (R:eT w0 ρ H w) {v:GV} {V:Value} {xs:List (List (Int×Int))} (b:Rl ρ v V) (h:Tc H v=some xs):∃a,(S2 (eH.pair (eH.int .i64) (eH.int .i64)) V a xs).p w All:=by
 obtain⟨a,rfl,c⟩:=Co R (fun _ _=>trivial) (gF.sl R (fun _ _=>trivial) (gF.pair (gF.int .i64) (gF.int .i64))) b h
 exact⟨a,c,by simp⟩
theorem QF (R:eT w0 ρ H w) {v:GV} {V:Value} {p:List Int×List (List (Int×Int))} (i:Rl ρ v V) (h:Tb H v=some p):∃d e g,V = .agg #[d,e]∧(Sl (eH.int .i64) d p.1).p w All∧(S2 (eH.pair (eH.int .i64) (eH.int .i64)) e g p.2).p w All:=by
 obtain⟨cs,f,h⟩:=aD.1 (show ob v.asA _=some p from h)
 rw[Hg f]at i
 obtain⟨vs,rfl,c,_⟩:=i.agg_inv
 cases cs with
 |nil=>cases h
 |cons a cs=>
 cases cs with
 |nil=>cases h
 |cons b cs=>
 cases cs with
 |cons _ _=>cases h
 |nil=>
 obtain⟨x,l,h⟩:=aD.1 (show ob (IX H a) _=some p from h)
 obtain⟨y,m,h⟩:=aD.1 h
 cases h
 obtain⟨d,vs,rfl,j,c⟩:=c.of_cons
 obtain⟨e,vs,rfl,k,c⟩:=c.of_cons
 rw[c.of_nil]
 obtain⟨g,n⟩:=QG R k m
 exact⟨d,e,g,rfl,Ec R j l,n⟩
end
end
section
noncomputable section
section
variable {α R:Type}
def a0 (us:List α) (k:Option R):Option R:=List.casesOn (motive:=fun _=>Option R) us k (fun _ _=>none)
def a1 (us:List α) (k:α->Option R):Option R:=List.casesOn (motive:=fun _=>Option R) us none fun a r=>a0 r (k a)
def a2 (us:List α) (k:α->α->Option R):Option R:=List.casesOn (motive:=fun _=>Option R) us none fun a r=>a1 r (k a)
def a3 (us:List α) (k:α->α->α->Option R):Option R:=List.casesOn (motive:=fun _=>Option R) us none fun a r=>a2 r (k a)
def a4 (us:List α) (k:α->α->α->α->Option R):Option R:=List.casesOn (motive:=fun _=>Option R) us none fun a r=>a3 r (k a)
def a5 (us:List α) (k:α->α->α->α->α->Option R):Option R:=List.casesOn (motive:=fun _=>Option R) us none fun a r=>a4 r (k a)
def a6 (us:List α) (k:α->α->α->α->α->α->Option R):Option R:=List.casesOn (motive:=fun _=>Option R) us none fun a r=>a5 r (k a)
theorem Vk {us:List α} {k:Option R} {r:R} (h:a0 us k=some r):us=[]∧k=some r:=by
 cases us with
 |nil=>exact⟨rfl,h⟩
 |cons _ _=>cases h
theorem OF {us:List α} {k:α->Option R} {r:R} (h:a1 us k=some r):∃x,us=[x]∧k x=some r:=by
 cases us with
 |nil=>cases h
 |cons x us=>obtain⟨rfl,h⟩:=Vk h;exact⟨x,rfl,h⟩
theorem OG {us:List α} {k:α->α->Option R} {r:R} (h:a2 us k=some r):∃x y,us=[x,y]∧k x y=some r:=by
 cases us with
 |nil=>cases h
 |cons x us=>obtain⟨y,rfl,h⟩:=OF h;exact⟨x,y,rfl,h⟩
theorem Vl {us:List α} {k:α->α->α->Option R} {r:R} (h:a3 us k=some r):∃x y z,us=[x,y,z]∧k x y z=some r:=by
 cases us with
 |nil=>cases h
 |cons x us=>obtain⟨y,z,rfl,h⟩:=OG h;exact⟨x,y,z,rfl,h⟩
theorem JX {us:List α} {k:α->α->α->α->Option R} {r:R} (h:a4 us k=some r):∃x y z u,us=[x,y,z,u]∧k x y z u=some r:=by
 cases us with
 |nil=>cases h
 |cons x us=>obtain⟨y,z,u,rfl,h⟩:=Vl h;exact⟨x,y,z,u,rfl,h⟩
theorem Vm {us:List α} {k:α->α->α->α->α->Option R} {r:R} (h:a5 us k=some r):∃x y z u v,us=[x,y,z,u,v]∧k x y z u v=some r:=by
 cases us with
 |nil=>cases h
 |cons x us=>obtain⟨y,z,u,v,rfl,h⟩:=JX h;exact⟨x,y,z,u,v,rfl,h⟩
theorem Vn {us:List α} {k:α->α->α->α->α->α->Option R} {r:R} (h:a6 us k=some r):∃x y z u v w,us=[x,y,z,u,v,w]∧k x y z u v w=some r:=by
 cases us with
 |nil=>cases h
 |cons x us=>obtain⟨y,z,u,v,w,rfl,h⟩:=Vm h;exact⟨x,y,z,u,v,w,rfl,h⟩
end

def VW (k:IntKind) (v:GV):Option Int:=ob v.asI fun p=>bif YA p.1 k then some p.2 else none
def Td (H:GH) (v:GV):Option (List Int):=LU H 1 (dI .u32) v
def aac (H:GH) (v:GV):Option (Int×List Int×List Int×List Int×Bool×Bool):=ob v.asA fun cs=>a6 cs fun a b c d e f=>ob (VW .i64 a) fun n=>ob (IX H b) fun x=>ob (IX H c) fun y=>ob (IX H d) fun z=>ob e.asB fun p=>ob f.asB fun q=>some (n,x,y,z,p,q)

def gI (n:Int):List GV:=[.int .i64 n]
def gP (p:Int×Int):List GV:=[.int .i64 p.1,.int .i64 p.2]
def fcI {R:Type} (l:List Int):(List Int->R)->R:=List.rec (motive:=fun _=>(List Int->R)->R) (fun k=>k []) (fun x _ a k=>fi x fun x=>a fun r=>k (x::r)) l
def fcP {R:Type} (l:List (Int×Int)):(List (Int×Int)->R)->R:=List.rec (motive:=fun _=>(List (Int×Int)->R)->R) (fun k=>k []) (fun x _ c k=>fi x.1 fun a=>fi x.2 fun b=>c fun r=>k ((a,b)::r)) l
def fcR {R:Type} (l:List (List (Int×Int))):(List (List (Int×Int))->R)->R:=List.rec (motive:=fun _=>(List (List (Int×Int))->R)->R) (fun k=>k []) (fun x _ a k=>fcP x fun x=>a fun r=>k (x::r)) l
theorem To {R:Type}:∀(l:List Int) (k:List Int->R),fcI l k=k l
 | [],k=>rfl
 |x::l,k=>by
  show fi x (fun x=>fcI l fun r=>k (x::r))=_
  rw[Je,To l]
theorem Tp {R:Type}:∀(l:List (Int×Int)) (k:List (Int×Int)->R),fcP l k=k l
 | [],k=>rfl
 |x::l,k=>by
  show fi x.1 (fun a=>fi x.2 fun b=>fcP l fun r=>k ((a,b)::r))=_
  rw[Je,Je,Tp l]
theorem Tq {R:Type}:∀(l:List (List (Int×Int))) (k:List (List (Int×Int))->R),fcR l k=k l
 | [],k=>rfl
 |x::l,k=>by
  show fcP x (fun x=>fcR l fun r=>k (x::r))=_
  rw[Tp,Tq l]
def TZ (b:Bool) (H:GH):OR:=Bool.casesOn (motive:=fun _=>OR) b (some (.bool false,H)) (some (.bool true,H))
def Ob (r:List Int×List (List (Int×Int))) (H:GH):OR:=fcI r.1 fun x=>fcR r.2 fun y=>bif Nat.beq x.length 0 then none else bif Nat.beq y.length 0 then none else bif y.any fun l=>Nat.beq l.length 0 then none else
 fc (x.flatMap gI) fun l=>H.newK (.cells l) fun h a=>fc (sX 2 gP y a).1 fun d=>sn x.length fun n=>sn y.length fun m=>(sX 2 gP y a).2.newK (.cells d) fun c b=>some (.agg [.sl h 0 n 1,.sl c 0 m 1],b)
end
section
variable {P:Program} {gs:wT} {w0:eD gs} {w:World} {ρ:dH} {H H':GH} {g:GV}
theorem oS.one {x:GV} {vs:List Value} (h:oS ρ [x] vs):∃V,vs=[V]∧Rl ρ x V:=by
 obtain⟨v,vs,rfl,a,b⟩:=h.of_cons
 rw[b.of_nil];exact⟨v,rfl,a⟩
theorem BH {k:IntKind} {v:GV} {V:Value} {n:Int} (a:Rl ρ v V) (h:VW k v=some n):V = .int k n:=by
 obtain⟨p,c,h⟩:=aD.1 (show ob v.asI _=some n from h)
 obtain⟨b,h⟩:=bI.1 h
 cases h
 rw[mK c]at a
 rw[a.int_inv,Fb b]
theorem Ss {v:GV} {V:Value} {b:Bool} (a:Rl ρ v V) (h:v.asB=some b):V = .bool b:=by
 rw[zO h]at a;exact a.bool_inv
theorem LS (R:eT w0 ρ H w) {v:GV} {V:Value} {xs:List Int} (a:Rl ρ v V) (h:Td H v=some xs):(Sl (eH.int .u32) V xs).p w All:=by
 obtain⟨c,rfl,b⟩:=Co R (fun _ _=>trivial) (gF.int .u32) a h
 rw[List.map_id]
 exact b
theorem VV (R:eT w0 ρ H w) {v:GV} {V:Value} {p:Int×List Int×List Int×List Int×Bool×Bool} (k:Rl ρ v V) (h:aac H v=some p):
  ∃l m o,V = .agg #[.int .i64 p.1,l,m,o,.bool p.2.2.2.2.1,.bool p.2.2.2.2.2]∧(Sl (eH.int .i64) l p.2.1).p w All∧(Sl (eH.int .i64) m p.2.2.1).p w All∧(Sl (eH.int .i64) o p.2.2.2.1).p w All:=by
 obtain⟨cs,j,h⟩:=aD.1 (show ob v.asA _=some p from h)
 obtain⟨a,b,c,d,e,f,rfl,h⟩:=Vn h
 obtain⟨n,F,h⟩:=aD.1 h
 obtain⟨x,J,h⟩:=aD.1 h
 obtain⟨y,K,h⟩:=aD.1 h
 obtain⟨z,L,h⟩:=aD.1 h
 obtain⟨q,G,h⟩:=aD.1 h
 obtain⟨r,I,h⟩:=aD.1 h
 cases h
 rw[Hg j]at k
 obtain⟨vs,rfl,i,_⟩:=k.agg_inv
 obtain⟨Q,vs,rfl,A,i⟩:=i.of_cons
 obtain⟨M,vs,rfl,B,i⟩:=i.of_cons
 obtain⟨N,vs,rfl,hc,i⟩:=i.of_cons
 obtain⟨O,vs,rfl,C,i⟩:=i.of_cons
 obtain⟨S,vs,rfl,D,i⟩:=i.of_cons
 obtain⟨T,rfl,E⟩:=i.one
 have s:=BH A F
 have t:=Ss D G
 have u:=Ss E I
 subst s t u
 exact⟨M,N,O,rfl,Ec R B J,Ec R hc K,Ec R C L⟩
theorem HU {b:Bool} (h:TZ b H=some (g,H')):g = .bool b∧H'=H:=by
 cases b<;>cases h<;>exact⟨rfl,rfl⟩
theorem Mk {r:List Int×List (List (Int×Int))} (h:Ob r H=some (g,H')):r.1≠[]∧r.2≠[]∧(∀xs∈r.2,xs≠[])∧
  g = .agg [.sl H.n 0 r.1.length 1,.sl (sX 2 gP r.2 (H.new (.cells (r.1.flatMap gI)))).2.n 0 r.2.length 1]∧H'=(sX 2 gP r.2 (H.new (.cells (r.1.flatMap gI)))).2.new (.cells (sX 2 gP r.2 (H.new (.cells (r.1.flatMap gI)))).1):=by
 unfold Ob at h
 rw[To,Tq]at h
 obtain⟨a,h⟩:=jL.1 h
 obtain⟨b,h⟩:=jL.1 h
 obtain⟨c,h⟩:=jL.1 h
 rw[Ph,gT,Ph,tY,tY,gT]at h
 cases h
 refine⟨fun e=>(by rw[e]at a;cases a),fun e=>(by rw[e]at b;cases b),fun xs d e=>?_,rfl,rfl⟩
 have:=List.any_eq_false.1 c xs d
 rw[e]at this
 exact this rfl
theorem aaf (ρ:dH) (x:Int):oS ρ (gI x) [.int .i64 x]:= .cons (.int _ _) .nil
theorem aag (ρ:dH) (x:Int×Int):oS ρ (gP x) [.int .i64 x.1,.int .i64 x.2]:= .cons (.int _ _) (.cons (.int _ _) .nil)
def glb (b:Nat) (cs:List Value) (T:Nat):wT:=⟨[(b,.cells cs.toArray T (0,0))],[]⟩
theorem TC {b:Nat} {cs:List Value} (w:World) (S:Nat->Prop) (h:∀h∈[Gb b cs],h.p w S):∃T,FD (glb b cs T) w fun _=>False:=by
 obtain⟨_,T,a⟩:=h _ (List.mem_singleton.2 rfl)
 exact⟨T,fun p c=>by obtain rfl:=List.mem_singleton.1 c;exact⟨a,id⟩⟩
theorem eT.glb {b:Nat} {cs:List Value} {T:Nat} {a:eD (glb b cs T)} {w:World} {ρ:dH} {H:GH} (R:eT a ρ H w):(Gb b cs).p w All:=⟨trivial,T,(R.glo _ (List.mem_singleton.2 rfl)).1⟩
theorem Ks {gs:Nat->wT} {f:Nat} {V:Value} {L:List aX} (q:∀w S,(∀h∈L,h.p w S)->∃T,FD (gs T) w fun _=>False) (r:aO P f) (x:∀ρ d,Rl ρ g d->d=V) (h:∀T (b:eD (gs T)),kE P b (fun _=>none) f [] b.w g H'):aV P f #[] L (fun _:Unit=>V) (fun _ l=>l) (fun _ l=>l):=by
 intro w0 o y
 obtain⟨T,n⟩:=q w0 o y
 rcases h T (.of w0 n)with⟨v,w',c,a,_⟩|⟨_,hc⟩
 ·have u:=r #[] w0
  rw[show([]:List Value).toArray = #[]from rfl]at a
  rw[show(eD.of w0 n).w=w0 from rfl,u]at a;cases a
 refine hc.mono ?_
 rintro e w' ⟨v,c,rfl,_,R,a⟩
 exact⟨(),by rw[x _ _ a],R.ext,fun _ _=>False,⟨fun i m t=>by simp at t,fun i k h=>h.elim,fun i j k h=>h.elim⟩,fun f s=>by simp at s⟩

section
variable {tb:TB} {T:TypeId}
theorem OI (h:Ac tb T=some [vE]) (H:GH):u_ tb T H=some (.ptr H.n 0,H.new (.cells [vE])):=by
 unfold u_
 rw[h]
 show H.newK (.cells [vE]) (fun h H'=>some (GV.ptr h 0,H'))=_
 rw[gT]
theorem PS {t:Ty} (h:tb T=some t) (b:t.size=1) (H:GH) (k:Nat) (c:GV) (hc:GH.cells H k=some [c]):sE tb T (.ptr k 0) vE H=some (.un,H.set k (.cells [vE])):=by
 show ob (H.cells k) (fun cs=>ob (tb T) fun t=>bif Nat.beq 1 t.size then bif Nat.beq t.size 0 then none else ob (Ef [vE] 0 cs) fun a=>H.setK k (.cells a) fun H'=>some (GV.un,H')else none)=_
 rw[hc,h]
 show(bif Nat.beq 1 t.size then bif Nat.beq t.size 0 then none else ob (Ef [vE] 0 [c]) fun a=>H.setK k (.cells a) fun H'=>some (GV.un,H')else none)=_
 rw[b]
 show H.setK k (.cells [vE]) (fun H'=>some (GV.un,H'))=_
 rw[vK]
theorem TN {t:Ty} (h:tb T=some t) (a:uA t.desc=false) (H:GH) (k:Nat) (hc:GH.cells H k=some [vE]):vA tb T (.ptr k 0) H=some vE:=by
 show ob (H.cells k) (fun cs=>ob (tb T) fun t=>zI t cs 0)=_
 rw[hc,h]
 show zI t [vE] 0=_
 unfold zI
 rw[a];rfl
end
def Ke (fn:Func):List Oper:=match fn.body with
 |some (.seq (.region _ ops _) _)=>ops.toList
 |_=>[]
def SN (fn:Func):Code:=match fn.body with
 |some (.seq _ c)=>c
 |_=> .skip
def VR (fn:Func):Nat:=match Ke fn with
 |o::_=>o.dst.getD 0
 | []=>0
def okN (r:RS):Bool:=match r with
 |some o=>match o.e with
  | .normal=>true
  |_=>false
 |none=>false
theorem T_ {r:RS} (h:okN r=true):∃a,r=some a∧a.e = .normal:=by
 unfold okN at h
 cases r with
 |none=>cases h
 |some o=>
  refine⟨o,rfl,?_⟩
  cases b:o.e<;>simp only[b]at h<;>first|rfl|cases h
def okT (r:OR):Bool:=match r with
 |some (.bool true,_)=>true
 |_=>false
theorem Ua {r:OR} (h:okT r=true):∃H',r=some (.bool true,H'):=by
 unfold okT at h
 split at h
 ·exact⟨_,rfl⟩
 ·cases h
end
end
end Go.Gx
end
section
namespace Go.Proofs.YtpenklncfhiloaaGreatDoor
open Go.Sx
def mI  (a:Unit):Option (Bool):=
 some (true)
def gM (p0:aQ) (a:Int×List (Bool)) (c:(Int×List (Bool))->Option (Bool)) (b:Bool):Option (Bool):=
 if b=true then(some (false))else(ck ((0<=(at' p0 a.1)∧(at' p0 a.1)<((256:Nat):Int))∧List.length a.2=256) (c ((wI .i64 (a.1+(1:Int))),(List.set a.2 (Int.toNat (at' p0 a.1)) true))))
def fF (p0:aQ) (a:Int×List (Bool)) (b:(Int×List (Bool))->Option (Bool)):Option (Bool):=
 if a.1<(List.length p0:Int)then(ck (0<=a.1∧a.1<(List.length p0:Int)) (if(at' p0 a.1)<(0:Int)then(gM p0 a b (true))else(if(255:Int)<(at' p0 a.1)then(gM p0 a b (true))else(ck ((0<=(at' p0 a.1)∧(at' p0 a.1)<((256:Nat):Int))∧List.length a.2=256) (gM p0 a b ((at' a.2 (at' p0 a.1))))))))else(mI  (()))
def iD (U:Nat) (p0:aQ):Option (Bool):=
 bM (fF p0) U ((0:Int),(List.replicate 256 false))
theorem Ya:aO Tryz.prog 61:=Tryz.call61
theorem BY (U:Nat) {p0:aQ} (v0:Value) (r:Bool) (h:iD U p0=some r):
  aV Tryz.prog 61 #[v0] [Sl bL v0 p0] (fun x:Unit=>vB (r)) (fun x l=>l) (fun _ l=>l):=by
 refine aV.of Tryz.func61 rfl Tryz.ntmps61 rfl fun c=>?_
 unfold iD at h
 refine sqR<|qkAsg rfl<|dtN<|sqR ?_
 refine aE (aG.alloc (cs:=cellsOf ZJ (List.replicate 256 false)) rfl (by kernel_rfl)) rfl fun b1=>?_
 refine dtN<|aH<|midU (fun a2=>mI  a2=some r) (fun a2 b3=>[]) (fun a2 b3=>[]) ?_ ?_
 ·refine sqR<|qkMove rfl<|qkLen (aC.fact 0 rfl) rfl<|qkMove rfl<|dtN<|aR<|loopL (fF p0) (fun a7 b8=>[(3,vP b1),(6,v0),(7,vI (List.length p0:Int)),(8,vI (a7.1))]) (fun a7 b8=>[bS b1 (cellsOf ZJ a7.2) 168]) ((0:Int),(List.replicate 256 false)) () h SF (aS.refl _) ?_
  intro k9 a7 b8 h
  refine sqR<|qkLss rfl<|dtN<|aH ?_
  refine eZ h rfl (fun h=>?_) fun h=>?_
  ·refine cL<|aH<|aR<|sqR<|ckE h fun j11 h=>aB (bG rfl rfl (aC.fact 0 rfl) rfl rfl j11) rfl<|aB (cK rfl (aC.fact 0 rfl) rfl rfl rfl fE j11) rfl<|qkAsg rfl<|dtN<|aH<|aH<|midU (fun a13=>gM p0 a7 (bM (fF p0) k9) a13=some r) (fun a13 b14=>[(3,vP b1),(5,vI (at' p0 a7.1)),(6,v0),(7,vI (List.length p0:Int)),(8,vI (a7.1)),(22,vB (a13))]) (fun a13 b14=>[bS b1 (cellsOf ZJ a7.2) 168]) ?_ ?_
   ·refine aM<|qkMove rfl<|qkLss rfl<|qkMove rfl ?_
    refine AS h rfl (fun _ h=>?_) fun _ h=>?_
    ·refine gdSkip rfl<|gdSkip rfl<|qkPkT rfl<|qkMove rfl<|gdSkip rfl<|gdSkip rfl<|gdSkip rfl<|qkPkT rfl<|dtN ?_
     exact iQ (true) () h SF rfl
    refine gyMove rfl<|aL rfl (wX rfl rfl) rfl<|qkPkF rfl<|qkMove rfl ?_
    refine AS h rfl (fun _ h=>?_) fun _ h=>?_
    ·refine gdSkip rfl<|gdSkip rfl<|gdSkip rfl<|qkPkT rfl<|dtN ?_
     exact iQ (true) () h SF rfl
    refine gyMove rfl<|ckE h fun j19 h=>aL rfl (eN rfl rfl rfl rfl rfl j19.1) rfl<|aL rfl (EO (e:=ZJ) rfl (aC.res 0 rfl) rfl rfl rfl rfl j19) rfl<|qkPkF rfl<|dtN ?_
    exact iQ ((at' a7.2 (at' p0 a7.1))) () h SF rfl
   intro a13 b14 h
   refine zQ h rfl (fun _ h=>?_) fun _ h=>?_
   ·refine sqR<|qkAsg rfl<|dtN<|aN<|aI<|bT<|aI<|aI<|bT<|aI ?_
    cases h
    exact vH rfl
   refine cL<|aM<|qkMove rfl<|ckE h fun j16 h=>aB (eN rfl rfl rfl rfl rfl j16.1) rfl<|Dk 0 (e:=ZJ) true j16 rfl rfl rfl rfl rfl rfl rfl<|eI<|inT<|aM<|qkAdd rfl<|qkMove rfl<|dtN ?_
   exact Ah ((wI .i64 (a7.1+(1:Int))),(List.set a7.2 (Int.toNat (at' p0 a7.1)) true)) () h SF rfl
  refine gH ?_
  exact bO () (()) h SF .nil (aA.refl _ _)
 intro a2 b3 h
 unfold mI at h
 refine sqR<|qkAsg rfl<|dtN<|aN ?_
 cases h
 exact lD rfl
end Go.Proofs.YtpenklncfhiloaaGreatDoor
end
