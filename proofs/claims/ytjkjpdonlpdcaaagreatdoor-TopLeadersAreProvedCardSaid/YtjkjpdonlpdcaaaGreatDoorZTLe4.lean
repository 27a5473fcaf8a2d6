/- Models and proofs. Conditions: none. -/
import Derived.Test.YtjkjpdonlpdcaaaGreatDoorZTLe3
import Derived.Test.YtjkjpdonlpdcaaaGreatDoorZTLe1
import Derived.RecoverIn
import Derived.DefersIn
set_option linter.unusedVariables false
set_option linter.unusedSimpArgs false
set_option maxHeartbeats 4000000
set_option maxRecDepth 20000
namespace Go.Gx
open Go Go.Sx Go.RowKit
section
variable {R α:Type}
theorem y_ (r:OR) (k:GV->GH->Option R):dN r k=dN (dN r EA) k:=by
 cases r with
 |none=>rfl
 |some p=>rfl
theorem dL (x:Option α) {f:α->Option R} {g:α->OR} {k:GV->GH->Option R} (h:∀a,f a=dN (g a) k):ob x f=dN (ob x g) k:=by
 cases x with
 |none=>rfl
 |some a=>exact h a
theorem Yp {n:TB} {s:CH} {d:GF} {H:GH} (o:Op) (k:GV->GH->Option R):Mu n s o d H k=dN (Mu n s o d H EA) k:=by
 have e:∀x (f:GV->Option GV),k1 x f d H k=dN (k1 x f d H EA) k:=λx f=>dL _ λx=>dL _ λv=>dL _ λg=>rfl;have j:∀x y (f:GV->GV->Option GV),k2 x y f d H k=dN (k2 x y f d H EA) k:=λx y f=>dL _ λx=>dL _ λv=>dL _ λu=>dL _ λg=>rfl;have B:∀x y z (f:GV->GV->GV->Option GV),k3 x y z f d H k=dN (k3 x y z f d H EA) k:=λx y z f=>dL _ λx=>dL _ λv=>dL _ λu=>dL _ λt=>dL _ λg=>rfl;cases o with
 |move x=>exact dL _ λv=>rfl
 |assign x=>exact dL _ λv=>rfl
 |pick c x y=>exact B _ _ _ _
 |alloc T=>exact y_ _ _
 |box T x=>exact dL _ λv=>y_ _ _
 |build T G=>exact dL _ λJ=>dL _ λg=>rfl
 |buildSlice T m G=>exact dL _ λx=>y_ _ _
 |load T x=>exact dL _ λv=>dL _ λg=>rfl
 |store T x y=>exact dL _ λv=>dL _ λu=>y_ _ _
 |nilCheck x=>exact e _ _
 |binOp F T x y A=>exact j _ _ _
 |unOp F T x=>exact e _ _
 |convert S D x=>exact e _ _
 |makeFunc C first r=>
  cases C with
  |func f=>exact dL _ λI=>dL _ λJ=>rfl
  |_=>rfl
 |makeMap T q=>
  cases q with
  |none=>exact y_ _ _
  |some x=>rfl
 |makeSlice T x y=>exact dL _ λv=>dL _ λu=>y_ _ _
 |slice T x L K E=>
  cases E with
  |none=>exact dL _ λv=>dL _ λl=>dL _ λh=>dL _ λg=>rfl
  |some y=>rfl
 |fieldAddr T x f=>exact e _ _
 |field T x f=>exact e _ _
 |indexAddr T x y=>exact j _ _ _
 |index T x y=>exact j _ _ _
 |lookup T x y M=>exact dL _ λv=>dL _ λu=>dL _ λg=>rfl
 |mapUpdate T x y z=>exact dL _ λv=>dL _ λu=>dL _ λt=>y_ _ _
 |extract x i=>exact e _ _
 | call c =>
  obtain⟨p,a,w⟩:=c;cases p with
  |value f=>exact dL _ λv=>dL _ λg=>dL _ λI=>y_ _ _
  |invoke x m=>rfl
  | builtin b =>
   show Pu n a w b d H k=dN (Pu n a w b d H EA) k;obtain⟨a⟩:=a;cases b with
   |len=>
    match a with
    | []=>rfl
    | [x]=>exact dL _ λT=>dL _ λv=>dL _ λg=>rfl
    |_::_::_=>rfl
   |max=>
    match a with
    | []=>rfl
    | [x]=>rfl
    | [x,y]=>exact j _ _ _
    |_::_::_::_=>rfl
   |min=>
    match a with
    | []=>rfl
    | [x]=>rfl
    | [x,y]=>exact j _ _ _
    |_::_::_::_=>rfl
   |append=>
    match a with
    | []=>rfl
    | [x]=>rfl
    | [x,y]=>exact dL _ λT=>dL _ λA=>dL _ λv=>dL _ λu=>y_ _ _
    |_::_::_::_=>rfl
   |copy=>
    match a with
    | []=>rfl
    | [x]=>rfl
    | [x,y]=>exact dL _ λT=>dL _ λv=>dL _ λu=>y_ _ _
    |_::_::_::_=>rfl
   |cap=>
    match a with
    | []=>rfl
    | [x]=>exact dL _ λT=>dL _ λv=>dL _ λg=>rfl
    |_::_::_=>rfl
   |_=>rfl
 |_=>rfl
theorem Cs {b a:GF}:∀{xs:List Operand},(∀x∈xs,kD b x=kD a x)->EX b xs=EX a xs
 | [],_=>rfl
 |x::xs,h=>by
  show ob (kD b x) (λv=>ob (EX b xs) λc=>some (v::c))=ob (kD a x) (λv=>ob (EX a xs) λc=>some (v::c));rw[h x List.mem_cons_self,Cs λy d=>h y (List.mem_cons_of_mem _ d)]
theorem Ct {b a:GF}:∀{xs:List (Nat×Operand)},(∀x∈xs,kD b x.2=kD a x.2)->tV b xs=tV a xs
 | [],_=>rfl
 |x::xs,h=>by
  show ob (kD b x.2) (λv=>ob (tV b xs) λc=>some ((x.1,v)::c))=ob (kD a x.2) (λv=>ob (tV a xs) λc=>some ((x.1,v)::c));rw[h x List.mem_cons_self,Ct λy d=>h y (List.mem_cons_of_mem _ d)]
theorem Ja {b a:GF} {o:Option Operand} (h:∀x∈o.toArray,kD b x=kD a x):GC b o=GC a o:=by
 cases o with
 |none=>rfl
 |some x=>
  show ob (kD b x) (λv=>some (some v))=ob (kD a x) (λv=>some (some v));rw[h x (by simp)]
theorem SC {n:TB} {G:CH} {j a:GF} {H:GH} {o:Op} {k:GV->GH->Option R} (h:∀x∈o.operands,kD j x=kD a x):Mu n G o j H k=Mu n G o a H k:=by
 have s:∀x (f:GV->Option GV),kD j x=kD a x->k1 x f j H k=k1 x f a H k:=λx f e=>by simp only[k1,ob,e]
 have t:∀x y (f:GV->GV->Option GV),kD j x=kD a x->kD j y=kD a y->k2 x y f j H k=k2 x y f a H k:=λx y f e w=>by simp only[k2,ob,e,w]
 have J:∀x y z (f:GV->GV->GV->Option GV),kD j x=kD a x->kD j y=kD a y->kD j z=kD a z->k3 x y z f j H k=k3 x y z f a H k:=λx y z f e w A=>by simp only[k3,ob,e,w,A]
 cases o with
 |move x=>show Hp x j H k=Hp x a H k;simp only[Hp,ob,h x (by simp[Op.operands])]
 |assign x=>show Hp x j H k=Hp x a H k;simp only[Hp,ob,h x (by simp[Op.operands])]
 |pick c x y=>exact J _ _ _ _ (h _ (by simp[Op.operands])) (h _ (by simp[Op.operands])) (h _ (by simp[Op.operands]))
 |alloc T=>rfl
 |box T x=>show Yx x j H k=Yx x a H k;simp only[Yx,ob,h x (by simp[Op.operands])]
 | build T ps =>
  show ob (tV j ps.toList) _=ob (tV a ps.toList) _;rw[Ct λx d=>h x.2 (by
   have:x∈ps:=by simpa using d
   simp only[Op.operands,List.mem_toArray,List.mem_map];exact⟨x,d,rfl⟩)]
 | buildSlice T m ps =>
  show ob (tV j ps.toList) _=ob (tV a ps.toList) _;rw[Ct λx d=>h x.2 (by
   simp only[Op.operands,List.mem_toArray,List.mem_map];exact⟨x,d,rfl⟩)]
 |load T x=>show QU n T x j H k=QU n T x a H k;simp only[QU,ob,h x (by simp[Op.operands])]
 |store T x y=>show LM n T x y j H k=LM n T x y a H k;simp only[LM,ob,h x (by simp[Op.operands]),h y (by simp[Op.operands])]
 |nilCheck x=>exact s _ _ (h _ (by simp[Op.operands]))
 |binOp L T x y M=>exact t _ _ _ (h _ (by simp[Op.operands])) (h _ (by simp[Op.operands]))
 |unOp L T x=>exact s _ _ (h _ (by simp[Op.operands]))
 |convert S D x=>exact s _ _ (h _ (by simp[Op.operands]))
 | makeFunc fn first caps =>
  cases fn with
  | func f =>
   show ob (EX j first.toList) _=ob (EX a first.toList) _;rw[Cs λx d=>h x (by simp only[Op.operands,Array.mem_append];exact .inl (by simpa using d)),
    Cs (xs:=caps.toList) λx d=>h x (by simp only[Op.operands,Array.mem_append];exact .inr (by simpa using d))]
  |_=>rfl
 |makeMap T q=>
  cases q with
  |none=>rfl
  |some x=>rfl
 |makeSlice T x y=>show QW n T x y j H k=QW n T x y a H k;simp only[QW,ob,h x (by simp[Op.operands]),h y (by simp[Op.operands])]
 | slice T x lo hi mx =>
  cases mx with
  |none=>
   show ob (some x) (λx=>ob (kD j x) λv=>ob (GC j lo) λl=>ob (GC j hi) λh=>ob (yX n T v l h H) λg=>k g H)=ob (some x) (λx=>ob (kD a x) λv=>ob (GC a lo) λl=>ob (GC a hi) λh=>ob (yX n T v l h H) λg=>k g H);have C:GC j lo=GC a lo:=Ja λy F=>h y (by simp only[Op.operands,Array.mem_append];exact .inl (.inl (.inr F)));have B:GC j hi=GC a hi:=Ja λy F=>h y (by simp only[Op.operands,Array.mem_append];exact .inl (.inr F));have d:kD j x=kD a x:=h x (by simp only[Op.operands,Array.mem_append];exact .inl (.inl (.inl (by simp))));simp only[ob,C,B,d]
  |some y=>rfl
 |fieldAddr T x f=>exact s _ _ (h _ (by simp[Op.operands]))
 |field T x f=>exact s _ _ (h _ (by simp[Op.operands]))
 |indexAddr T x y=>exact t _ _ _ (h _ (by simp[Op.operands])) (h _ (by simp[Op.operands]))
 |index T x y=>exact t _ _ _ (h _ (by simp[Op.operands])) (h _ (by simp[Op.operands]))
 |lookup T x y I=>show QV n T x y I j H k=QV n T x y I a H k;simp only[QV,ob,h x (by simp[Op.operands]),h y (by simp[Op.operands])]
 |mapUpdate T x y z=>show LK n T x y z j H k=LK n T x y z a H k;simp only[LK,ob,h x (by simp[Op.operands]),h y (by simp[Op.operands]),h z (by simp[Op.operands])]
 |extract x i=>exact s _ _ (h _ (by simp[Op.operands]))
 | call c =>
  obtain⟨u,p,r⟩:=c;cases u with
  |value f=>
   have K:kD j f=kD a f:=h f (by simp[Op.operands,Call.operands]);have E:EX j p.toList=EX a p.toList:=Cs λx d=>h x (by simp[Op.operands,Call.operands];exact .inr (by simpa using d));show ob (kD j f) _=ob (kD a f) _;simp only[ob,K,E]
  |invoke x m=>rfl
  | builtin b =>
   show Pu n p r b j H k=Pu n p r b a H k;have d:∀x∈p,kD j x=kD a x:=λx d=>h x (by simp[Op.operands,Call.operands];exact d);obtain⟨p⟩:=p;cases b with
   |len=>
    match p,d with
    | [],_=>rfl
    | [x],d=>show SK n r.toList x j H k=SK n r.toList x a H k;simp only[SK,ob,d x (by simp)]
    |_::_::_,_=>rfl
   |max=>
    match p,d with
    | [],_=>rfl
    | [x],_=>rfl
    | [x,y],d=>exact t _ _ _ (d _ (by simp)) (d _ (by simp))
    |_::_::_::_,_=>rfl
   |min=>
    match p,d with
    | [],_=>rfl
    | [x],_=>rfl
    | [x,y],d=>exact t _ _ _ (d _ (by simp)) (d _ (by simp))
    |_::_::_::_,_=>rfl
   |append=>
    match p,d with
    | [],_=>rfl
    | [x],_=>rfl
    | [x,y],d=>show Vl n r.toList x y j H k=Vl n r.toList x y a H k;simp only[Vl,ob,d x (by simp),d y (by simp)]
    |_::_::_::_,_=>rfl
   |copy=>
    match p,d with
    | [],_=>rfl
    | [x],_=>rfl
    | [x,y],d=>show Nv n r.toList x y j H k=Nv n r.toList x y a H k;simp only[Nv,ob,d x (by simp),d y (by simp)]
    |_::_::_::_,_=>rfl
   |cap=>
    match p,d with
    | [],_=>rfl
    | [x],d=>show SJ n r.toList x j H k=SJ n r.toList x a H k;simp only[SJ,ob,d x (by simp)]
    |_::_::_,_=>rfl
   |_=>rfl
 |_=>rfl
end
noncomputable def Ek (c:TB) (b:CH) (all:List Oper) (o:Oper) (a:GF) (H:GH):OR:=Option.casesOn (motive:=λ_=>OR) o.guard (Mu c b o.op a H EA) λg=>ob (Gj all g.1) λe=>ob e.dst λd=>ob (El a d) λv=>evG c b o ⟨a,H⟩ g.2 v
theorem Yj {b:TB} {a:CH} {all:List Oper} {o:Oper} {k:GS->RS} {s:GS}:IX b a all o k s=dN (Ek b a all o s.σ s.H) (opK o.dst s k):=by
 unfold IX Ek;cases o.guard with
 |none=>exact Yp _ _
 |some g=>exact dL _ λd=>dL _ λc=>dL _ λv=>rfl
theorem DX {d:TB} {c:CH} {all:List Oper} {o:Oper} {k:GS->RS} {s:GS} {a:MK} (h:IX d c all o k s=some a):∃g b,Ek d c all o s.σ s.H=some (g,b)∧k ⟨putD o.dst g s.σ,b⟩=some a:=by
 rw[Yj]at h;obtain⟨g,b,e,f⟩:=mQ h;exact⟨g,b,e,f⟩
theorem Ph {c:TB} {b:CH} {all:List Oper} {o:Oper} {d a:GF} {H:GH} (h:∀t∈o.looksAt all.toArray,El d t=El a t):Ek c b all o d H=Ek c b all o a H:=by
 have e:Mu c b o.op d H EA=Mu c b o.op a H EA:=SC λx l=>by
  cases x with
  |tmp t=>exact h t (List.mem_append_left _ (List.mem_filterMap.2 ⟨.tmp t,by simpa using l,rfl⟩))
  |_=>rfl
 unfold Ek;cases j:o.guard with
 |none=>exact e
 | some g =>
  show ob (Gj all g.1) _=ob (Gj all g.1) _;cases f:Gj all g.1 with
  |none=>rfl
  | some oj =>
   show ob oj.dst _=ob oj.dst _;cases i:oj.dst with
   |none=>rfl
   | some dj =>
    have k:dj∈o.looksAt all.toArray:=by
     rw[tX]at f;simp[Oper.looksAt,j,f,i]
    show ob (El d dj) (λv=>evG c b o ⟨d,H⟩ g.2 v)=ob (El a dj) (λv=>evG c b o ⟨a,H⟩ g.2 v);rw[h dj k];cases El a dj with
    |none=>rfl
    | some v =>
     show evG c b o ⟨d,H⟩ g.2 v=evG c b o ⟨a,H⟩ g.2 v;cases v with
     |bool q=>
      show Bool.casesOn (motive:=λ_=>OR) (QM q g.2) (some (.un,H)) (Mu c b o.op d H EA)=Bool.casesOn (motive:=λ_=>OR) (QM q g.2) (some (.un,H)) (Mu c b o.op a H EA);rw[e]
     |_=>rfl
section
variable {P:Program} {tb:TB} {gs:zL} {w0:eN gs}
theorem DW {u:CH} {all:List Oper} {n:Nat} {o:Oper} {r:GF} {H k:GH} {g:GV} {ρ:dX} {a:Act} (F:kZ ρ n r a) (h:Ek tb u all o r H=some (g,k)):
  (Region.wanted o (yielded all.toArray a.tmps)=true∧Mu tb u o.op r H EA=some (g,k))∨(Region.wanted o (yielded all.toArray a.tmps)=false∧g = .un∧k=H):=by
 unfold Ek at h;cases l:o.guard with
 |none=>
  rw[l]at h;exact .inl ⟨by simp[Region.wanted,l],h⟩
 | some gd =>
  rw[l]at h;obtain⟨A,m,h⟩:=aF.1 (show ob (Gj all gd.1) _=some (g,k)from h);obtain⟨i,s,h⟩:=aF.1 h;obtain⟨v,y,j⟩:=aF.1 h;have e:=F.slot i v y;rw[tX]at m;have t:yielded all.toArray a.tmps gd.1=(match a.tmps[i]? with|some (.bool b)=>some b|_=>none):=by
   unfold yielded;have:(all.toArray[gd.1]?).bind (·.dst)=some i:=by simp[m,s]
   rw[this];rfl
  cases v with
  | bool q =>
   have d:=e.bool_inv;have x:a.tmps[i]? = some (.bool q):=by
    simp only[Act.eval,Array.getD_eq_getD_getElem?]at d;cases p:a.tmps[i]? with
    |none=>rw[p]at d;cases d
    |some z=>rw[p]at d;simp at d;rw[d]
   rw[x]at t;have c:Bool.casesOn (motive:=λ_=>OR) (QM q gd.2) (some (.un,H)) (Mu tb u o.op r H EA)=some (g,k):=j;rw[EU]at c;have w:Region.wanted o (yielded all.toArray a.tmps)=(q==gd.2):=by
    simp only[Region.wanted,l];rw[t];cases q<;>cases gd.2<;>rfl
   cases f:(q==gd.2)with
   |true=>rw[f]at c;exact .inl ⟨by rw[w,f],c⟩
   |false=>rw[f]at c;cases c;exact .inr ⟨by rw[w,f],rfl,rfl⟩
  | un =>
   have d:=e.un_inv;cases j;refine .inr ⟨?_,rfl,rfl⟩;simp only[Region.wanted,l];rw[t];have:(match a.tmps[i]? with|some (.bool b)=>some b|_=>none)=(none:Option Bool):=by
    simp only[Act.eval,Array.getD_eq_getD_getElem?]at d;cases p:a.tmps[i]? with
    |none=>rfl
    |some z=>rw[p]at d;simp at d;rw[d];rfl
   rw[this];rfl
  |_=>cases j
theorem HZ {f:CH} (k:fI P tb) (c:r_ P w0 f) {all:List Oper} {n:Nat} {o:Oper} {e:GF} {H b:GH} {g:GV} {d:dX} {a:Act} {w:World} (p:GN n o=true) (F:kZ d n e a) (R:fP w0 d H w) (h:Ek tb f all o e H=some (g,b)):
  (Region.wanted o (yielded all.toArray a.tmps)=true∧BN P w0 d e a w o g H b)∨(Region.wanted o (yielded all.toArray a.tmps)=false∧g = .un∧b=H):=by
 obtain⟨_,_,j⟩:=tH p;rcases DW F h with⟨r,l⟩|h
 ·obtain⟨s,i,m,q⟩:=Po k c F R j l;cases m;exact .inl ⟨r,q⟩
 ·exact .inr h
def Wj (tb:TB) (T:TypeId):Bool:=match tb T with
 |some t=>(match t.desc with|.array .. => false|_=>true)
 |none=>false
def pureOp (tb:TB):Op->Bool
 | .move _ | .assign _ | .pick .. | .build .. | .nilCheck _ | .binOp .. | .unOp .. | .convert .. | .makeFunc .. | .fieldAddr .. | .field .. | .indexAddr .. | .index .. | .extract .. => true
 | .slice T _ _ _ _=>Wj tb T
 | .call ⟨.builtin .len,_,_⟩ | .call ⟨.builtin .max,_,_⟩ | .call ⟨.builtin .min,_,_⟩=>true
 |_=>false
def isFloat:Op->Bool
 | .buildSlice .. | .alloc .. | .box .. => true
 |_=>false
theorem gO {b:dX} {g:GV} {s:Sem Value} {a:Act} {o:Oper} (h:Ce P b s g) (c:∀w v,s.run P w = .ok v w->(execOp a.eval o).run P w = .ok (.value v) w):∃v,Rl b g v∧∀w,(execOp a.eval o).run P w = .ok (.value v) w:=
 let ⟨v,hv,hr⟩:=h;⟨v,hv,λw=>c w v (hr w)⟩
theorem Vd {ih:CH} (E:fI P tb) {ρ:dX} {n:Nat} {s:GF} {a:Act} (F:kZ ρ n s a) {o:Oper} {H r:GH} {g:GV} (R:pureOp tb o.op=true) (aa:Ju o.op=true) (h:Mu tb ih o.op s H EA=some (g,r)):
  r=H∧∃v,Rl ρ g v∧∀w,(execOp a.eval o).run P w = .ok (.value v) w:=by
 obtain⟨d,W,J,ad,ac,gd⟩:=o;cases W with
 |move x=>
  obtain⟨v,q,h⟩:=aF.1 (show ob (kD s x) _=some (g,r)from h);cases h;exact⟨rfl,_,cA F q,λw=>by simp[execOp]⟩
 |assign x=>
  obtain⟨v,q,h⟩:=aF.1 (show ob (kD s x) _=some (g,r)from h);cases h;exact⟨rfl,_,cA F q,λw=>by simp[execOp]⟩
 |pick c x y=>
  obtain⟨v,q,h⟩:=aF.1 (show ob (kD s c) _=some (g,r)from h);obtain⟨u,C,h⟩:=aF.1 h;obtain⟨t,ht,h⟩:=aF.1 h;obtain⟨z,k,h⟩:=aF.1 h;cases h;obtain⟨b,hb,k⟩:=aF.1 (show ob v.asB _=some g from k);have Y:=cA F q;rw[Bz hb]at Y;cases b with
  |true=>cases k;exact⟨rfl,_,cA F C,λw=>by simp[execOp,Y.bool_inv,asBool]⟩
  |false=>cases k;exact⟨rfl,_,cA F ht,λw=>by simp[execOp,Y.bool_inv,asBool]⟩
 | build T ps =>
  obtain⟨vs,N,h⟩:=aF.1 (show ob (tV s ps.toList) _=some (g,r)from h);obtain⟨z,k,h⟩:=aF.1 h;cases h;exact⟨rfl,gO (KQ E (BS F N) k) (λw v j=>by
   have e:(ps.toList.map λp=>(p.1,a.eval p.2)).toArray=ps.map λp=>(p.1,a.eval p.2):=by apply Array.toList_inj.1;simp
   rw[e]at j;simp[execOp,j])⟩
 |nilCheck x=>
  obtain⟨v,q,h⟩:=aF.1 (show ob (kD s x) _=some (g,r)from h);obtain⟨z,k,h⟩:=aF.1 h;cases h;obtain⟨rfl,j⟩:=NF (P:=P) (cA F q) k;exact⟨rfl,_,cA F q,λw=>j _ x a.eval Z Z w⟩
 | binOp W T x y T' =>
  obtain⟨v,q,h⟩:=aF.1 (show ob (kD s x) _=some (g,r)from h);obtain⟨u,C,h⟩:=aF.1 h;obtain⟨z,k,h⟩:=aF.1 h;cases h;exact⟨rfl,gO (Ry E x y (cA F q) (cA F C) k) (λw v j=>by
   simp only[execOp];simp at j ⊢;cases V:Sem.run P (eqGuard W T x y (a.eval x) (a.eval y)) w with
   |ok u w1=>rw[V]at j;simp at j;simp[j]
   |halt h1 w1=>rw[V]at j;cases j)⟩
 |unOp W T x=>
  obtain⟨v,q,h⟩:=aF.1 (show ob (kD s x) _=some (g,r)from h);obtain⟨z,k,h⟩:=aF.1 h;cases h;exact⟨rfl,gO (WC (cA F q) k) (λw v j=>by simp[execOp,j])⟩
 |convert S D x=>
  obtain⟨v,q,h⟩:=aF.1 (show ob (kD s x) _=some (g,r)from h);obtain⟨z,k,h⟩:=aF.1 h;cases h;exact⟨rfl,gO (Oi E (cA F q) k) (λw v j=>by simp[execOp,j])⟩
 | makeFunc fn first caps =>
  cases fn with
  |func f=>
   obtain⟨us,ab,h⟩:=aF.1 (show ob (EX s first.toList) _=some (g,r)from h);obtain⟨vs,N,h⟩:=aF.1 h;cases h;refine⟨rfl,_,Rl.fn' (DZ F ab) (DZ F N),λw=> ?_⟩
   have e1:(first.toList.map a.eval).toArray=first.map a.eval:=by apply Array.toList_inj.1;simp
   have e2:(caps.toList.map a.eval).toArray=caps.map a.eval:=by apply Array.toList_inj.1;simp
   rw[e1,e2];simp[execOp,Instr.makeFunc]
  |_=>cases h
 |fieldAddr T x f=>
  obtain⟨v,q,h⟩:=aF.1 (show ob (kD s x) _=some (g,r)from h);obtain⟨z,k,h⟩:=aF.1 h;cases h;exact⟨rfl,gO (KR E (cA F q) k) (λw v j=>by simp[execOp,j])⟩
 |field T x f=>
  obtain⟨v,q,h⟩:=aF.1 (show ob (kD s x) _=some (g,r)from h);obtain⟨z,k,h⟩:=aF.1 h;cases h;exact⟨rfl,gO (Om E (cA F q) k) (λw v j=>by simp[execOp,j])⟩
 |indexAddr T x y=>
  obtain⟨v,q,h⟩:=aF.1 (show ob (kD s x) _=some (g,r)from h);obtain⟨u,C,h⟩:=aF.1 h;obtain⟨z,k,h⟩:=aF.1 h;cases h;exact⟨rfl,gO (KS E (cA F q) (cA F C) k) (λw v j=>by simp[execOp,j])⟩
 |index T x y=>
  obtain⟨v,q,h⟩:=aF.1 (show ob (kD s x) _=some (g,r)from h);obtain⟨u,C,h⟩:=aF.1 h;obtain⟨z,k,h⟩:=aF.1 h;cases h;exact⟨rfl,gO (Wr E (cA F q) (cA F C) k) (λw v j=>by simp[execOp,j])⟩
 | slice T x lo hi mx =>
  cases mx with
  | none =>
   obtain⟨v,q,h⟩:=aF.1 (show ob (kD s x) _=some (g,r)from h);obtain⟨l,hl,h⟩:=aF.1 h;obtain⟨e,he,h⟩:=aF.1 h;obtain⟨z,k,h⟩:=aF.1 h;cases h;have hA:∀t,tb T=some t->tdA t.desc=none:=λt ht=>by
    have U:Wj tb T=true:=R;unfold Wj at U;rw[ht]at U;simp only at U;cases V:t.desc<;>rw[V]at U<;>first|rfl|cases U
   exact⟨rfl,gO (KU (gs:=noG) E (.inr hA) (cA F q) (Ib F hl) (Ib F he) k) (λw v j=>by simp[execOp,j])⟩
  |some y=>cases h
 |extract x i=>
  obtain⟨v,q,h⟩:=aF.1 (show ob (kD s x) _=some (g,r)from h);obtain⟨z,k,h⟩:=aF.1 h;cases h;exact⟨rfl,gO (RA (cA F q) k) (λw v j=>by simp[execOp,j])⟩
 | call c =>
  obtain⟨X,Q,B⟩:=c;cases X with
  |value f=>cases R
  |invoke x m=>cases R
  | builtin b =>
   have A:B.size=Q.size:=Nat.eq_of_beq_eq_true aa;have h:Pu tb Q B b s H EA=some (g,r):=h;cases b with
   | len =>
    obtain⟨x,O,h⟩:=Cv (show Ji Q.toList (SK tb B.toList) s H EA=some (g,r)from h);obtain⟨T,M,h⟩:=aF.1 (show ob (Gj B.toList 0) _=some (g,r)from h);obtain⟨v,q,h⟩:=aF.1 h;obtain⟨z,k,h⟩:=aF.1 h;cases h;have L:=Io O;subst L;have K:B = #[T]:=by
     rw[tX]at M;obtain⟨l⟩:=B
     match l,A with
     | [t],_=>simp at M;subst M;rfl
    subst K;exact⟨rfl,gO (RB E (ty:=J) (cA F q) k) (λw v j=>by simp[execOp,resolve,invoke,builtin,j])⟩
   | cap =>
    obtain⟨x,O,h⟩:=Cv (show Ji Q.toList (SJ tb B.toList) s H EA=some (g,r)from h);obtain⟨T,M,h⟩:=aF.1 (show ob (Gj B.toList 0) _=some (g,r)from h);obtain⟨v,q,h⟩:=aF.1 h;obtain⟨z,k,h⟩:=aF.1 h;cases h;have L:=Io O;subst L;have K:B = #[T]:=by
     rw[tX]at M;obtain⟨l⟩:=B
     match l,A with
     | [t],_=>simp at M;subst M;rfl
    subst K;exact⟨rfl,gO (Rz E (ty:=J) (cA F q) k) (λw v j=>by simp[execOp,resolve,invoke,builtin,j])⟩
   | max =>
    obtain⟨x,y,O,h⟩:=yS (show Dn Q.toList (λx y=>k2 x y Wz) s H EA=some (g,r)from h);obtain⟨v,q,h⟩:=aF.1 (show ob (kD s x) _=some (g,r)from h);obtain⟨u,C,h⟩:=aF.1 h;obtain⟨z,k,h⟩:=aF.1 h;cases h;have L:=Ei O;subst L;obtain⟨G,I,K⟩:∃G I,B = #[G,I]:=by
     obtain⟨l⟩:=B
     match l,A with
     | [t,t'],_=>exact⟨t,t',rfl⟩
    subst K;exact⟨rfl,gO (RF (t1:=G) (t2:=I) (ty:=J) (cA F q) (cA F C) k) (λw v j=>by simp[execOp,resolve,invoke,builtin,j])⟩
   | min =>
    obtain⟨x,y,O,h⟩:=yS (show Dn Q.toList (λx y=>k2 x y WA) s H EA=some (g,r)from h);obtain⟨v,q,h⟩:=aF.1 (show ob (kD s x) _=some (g,r)from h);obtain⟨u,C,h⟩:=aF.1 h;obtain⟨z,k,h⟩:=aF.1 h;cases h;have L:=Ei O;subst L;obtain⟨G,I,K⟩:∃G I,B = #[G,I]:=by
     obtain⟨l⟩:=B
     match l,A with
     | [t,t'],_=>exact⟨t,t',rfl⟩
    subst K;exact⟨rfl,gO (RG (t1:=G) (t2:=I) (ty:=J) (cA F q) (cA F C) k) (λw v j=>by simp[execOp,resolve,invoke,builtin,j])⟩
   |_=>cases R
 |_=>cases R
theorem Oh (hG:fI P tb) {T:TypeId} {n:Nat} {l:List (Nat×GV)} {parts:List (Nat×Value)} {ρ:dX} {H H':GH} {g:GV} (hp:RlP ρ l parts) (h:rZ tb T n l H=some (g,H')):
  ∃cs a' T' len sz,H'=H.new (.cells cs)∧g = .sl H.n 0 len sz∧RY ρ cs a'∧cs.length=a'.size∧∀w:World,∃V,(Instr.buildSlice T n parts.toArray).run P w = .ok V (w.alloc (.cells a' T'))∧∀ρ':dX,ρ' H.n=some ⟨w.heap.size,0,a'.size,.cells a' T',.cells cs⟩->Rl ρ' g V:=by
 obtain⟨te,hte,h⟩:=aF.1 (show ob (AA tb T) _=some (g,H')from h);obtain⟨zc,hz,h⟩:=aF.1 h;obtain⟨hlen,h⟩:=bQ.1 h;obtain⟨hbig,h⟩:=bQ.1 h;obtain⟨h0,h⟩:=kN.1 h;obtain⟨cs,hfill,h⟩:=aF.1 h;rw[iU]at h;cases h;obtain⟨⟨d,hd,hde⟩,hE,htab⟩:=yQ hG hte;obtain⟨dz,hdz,_,hC⟩:=wX (ρ:=ρ) hG hz;rw[htab]at hdz;cases hdz;have hlen:zc.length=te.2.size:=Nat.eq_of_beq_eq_true hlen;have h0:te.2.size≠0:=λe=>by rw[e]at h0;cases h0
 have hbig:n*te.2.size<16777216:=by simpa [Nat.blt_eq]using hbig
 have hrep:=Ij hC (by omega) n;rw[hlen]at hrep;obtain⟨a',f1,f2⟩:=D_ hp hrep hfill;have hsz0:cs.length=a'.size:=by have:=f2.r.len;simpa using this
 have hsz:a'.size=n*te.2.size:=by
  have e1:=f2.r.len;have:cs.length=(OB zc n).length:=EY hfill;rw[this,FQ,hlen]at e1;simp at e1;omega
 refine⟨cs,a',te.1,n,te.2.size,rfl,rfl,f2,hsz0,λw=>⟨.slice (some ⟨w.heap.size,0,none⟩) n n,?_,λρ' hρ=> .sl (l:=⟨w.heap.size,0,a'.size,.cells a' te.1,.cells cs⟩) hρ (Nat.le_refl _) (.inr ⟨rfl,by simp[hsz]⟩)⟩⟩
 have hu:=hd.run_und w;rw[hde]at hu;by_cases hn:n*te.2.size=0
 ·have hz0:n=0:=by rcases Nat.mul_eq_zero.1 hn with h|h;exact h;exact absurd h h0
  subst hz0;have e0:(Array.range (0*te.2.size)).map (te.2.zero.cells[· % te.2.zero.cells.size]!)=(#[]:Array Value):=by simp
  rw[e0]at f1;have e1:(Array.range 0).map (λ_=>(default:Value)) = #[]:=by simp
  simp[Instr.buildSlice,hu,hE.run_size w,newRow];simp[e1,f1]
 ·simp[Instr.buildSlice,hu,hE.run_size w,hE.run_zero w,hn,f1,newRow,show¬(16777216<n*te.2.size) by omega]
theorem TV {t u w:dX} (x:∀h A l,t h=some A->u h=some l->w h=some l) {g:GV} {v:Value} (C:Rl u g v):∀{r:Value},Rl t g r->Rl w g v:=by
 induction C with
 |int k n=>exact λ_=> .int k n
 |bool b=>exact λ_=> .bool b
 |str s=>exact λ_=> .str s
 |ptr y q=>exact λj=>by cases j with|ptr _ m=>exact .ptr y (x _ _ _ m q)
 |pnil=>exact λ_=> .pnil
 |sl q E D=>exact λj=>by cases j with|sl m _ _=>exact .sl (x _ _ _ m q) E D
 |snil=>exact λ_=> .snil
 |map q=>exact λj=>by cases j with|map m=>exact .map (x _ _ _ m q)
 | fn f a b c d ihb ihd =>
   intro r j;cases j with
   | fn _ z p B d0 =>
    refine .fn f a (λi g v e o=> ?_) c (λi g v e o=> ?_)
    ·have:=bG e;exact ihb i g v e o (p i g _ e (List.getElem?_eq_getElem (by omega)))
    ·have:=bG e;exact ihd i g v e o (d0 i g _ e (List.getElem?_eq_getElem (by omega)))
 |fnil=>exact λ_=> .fnil
 |inil=>exact λ_=> .inil
 | agg a b c ihb =>
   intro r j;cases j with
   |agg z p B=>
    refine .agg a (λi g v e o=> ?_) c;have:=bG e;exact ihb i g v e o (p i g _ e (List.getElem?_eq_getElem (by omega)))
 | tup a b ihb =>
   intro r j;cases j with
   |tup z p=>
    refine .tup a (λi g v e o=> ?_);have:=bG e;exact ihb i g v e o (p i g _ e (List.getElem?_eq_getElem (by omega)))
 |un=>exact λ_=> .un
 |bad v=>exact λ_=> .bad v
 | opn v h hx =>
   intro r j;obtain⟨A,a,_⟩:=j.opn_inv;exact .opn v (x _ _ _ a h) hx
structure Zo (tb:TB) (ih:CH) (all l:List Oper) (S:Nat->GF) (HH:Nat->GH) (gg:Nat->GV):Prop where
 st:∀i o,l[i]? = some o->Ek tb ih all o (S i) (HH i)=some (gg i,HH (i+1))
 up:∀i o,l[i]? = some o->S (i+1)=putD o.dst (gg i) (S i)
theorem Kt {d:CH} {all:List Oper} {k:GS->RS} {b:MK}:∀(l:List Oper) (s:GS),Ew tb d all k l s=some b->∃S c e,S 0=s.σ∧c 0=s.H∧Zo tb d all l S c e∧k ⟨S l.length,c l.length⟩=some b
 | [],s,h=>⟨λ_=>s.σ,λ_=>s.H,λ_=> .un,rfl,rfl,⟨λi o a=>by simp at a,λi o a=>by simp at a⟩,h⟩
 | o :: l, s, h => by
  obtain⟨g,t,p,q⟩:=DX (show IX tb d all o (Ew tb d all k l) s=some b from h);obtain⟨S,c,e,m,n,j,r⟩:=Kt l _ q;refine⟨λi=>Nat.casesOn i s.σ S,λi=>Nat.casesOn i s.H c,λi=>Nat.casesOn i g e,rfl,rfl,⟨λi f a=> ?_,λi f a=> ?_⟩,r⟩
  ·cases i with
   |zero=>simp at a;subst a;show Ek tb d all o s.σ s.H=some (g,c 0);rw[p,n]
   |succ i=>exact j.st i f (by simpa using a)
  ·cases i with
   |zero=>simp at a;subst a;exact m
   |succ i=>exact j.up i f (by simpa using a)
theorem yV {o:Op} (h:l_ o=true):eJ o=false:=by
 cases o<;>first|rfl|cases h
structure Vrs (all l:List Oper) (m:List Nat) (i:Nat) (S:Nat->GF) (HH:Nat->GH) (pr:List (Nat×Option (Nat×Nat))) (hs:List (Nat×GH)):Prop where
 pr:∀q h v,(q,some (h,v))∈pr->∀j oj,l[j]? = some oj->eJ oj.op=true->before m (i+j) q=false->(HH (j+1)).ver h=some v
 hs:∀k ok h,l[k]? = some ok->l_ ok.op=true->YC (S k) ok.op=some h->∃v,(HH k).ver h=some v∧∀q Hq,(q,Hq)∈hs->before m (i+k) q=false->Hq.ver h=some v
 lo:∀k ok h v,l[k]? = some ok->l_ ok.op=true->YC (S k) ok.op=some h->(HH k).ver h=some v->
  (∀j oj,j<k->l[j]? = some oj->eJ oj.op=true->before m (i+k) (i+j)=false->(HH j).ver h=some v)∧(∀j oj,k<j->l[j]? = some oj->eJ oj.op=true->before m (i+j) (i+k)=false->(HH (j+1)).ver h=some v)
theorem Vrs.cons {all l:List Oper} {m:List Nat} {i:Nat} {S:Nat->GF} {B:Nat->GH} {G x:List (Nat×Option (Nat×Nat))} {F u:List (Nat×GH)} {o:Oper} {L:GF} {H:GH} (V:Vrs all l m (i+1) S B x u)
  (E:∀p∈G,p∈x) (C:∀p∈F,p∈u) (I:eJ o.op=true->(i,H)∈u∧∀p∈G,before m i p.1=false->∀d,p.2=some d->(B 0).ver d.1=some d.2)
  (J:l_ o.op=true->∀h,YC L o.op=some h->∃v,H.ver h=some v∧(i,some (h,v))∈x∧∀q y,(q,y)∈F->before m i q=false->y.ver h=some v):
  Vrs all (o::l) m i (λj=>Nat.casesOn j L S) (λj=>Nat.casesOn j H B) G F:=by
 have e:∀j,i+(j+1)=i+1+j:=λj=>by omega
 refine⟨λq h v z j w g s f=> ?_,λk A h n s t=> ?_,λk A h v n s t d=>⟨λj w D g r f=> ?_,λj w D g r f=> ?_⟩⟩
 ·cases j with
  |zero=>simp at g;subst g;exact(I s).2 _ z (by simpa using f) _ Z
  |succ j=>exact V.pr q h v (E _ z) j w (by simpa using g) s (by rw[<-e];exact f)
 ·cases k with
  |zero=>
   simp at n;subst n;obtain⟨v,a,_,c⟩:=J s h t;exact⟨v,a,λq y z f=>c q y z (by simpa using f)⟩
  |succ k=>
   obtain⟨v,a,b⟩:=V.hs k A h (by simpa using n) s t;exact⟨v,a,λq y z f=>b q y (C _ z) (by rw[<-e];exact f)⟩
 ·cases k with
  |zero=>omega
  | succ k =>
   have n:l[k]? = some A:=by simpa using n
   cases j with
   |zero=>
    simp at g;subst g;obtain⟨K,a,b⟩:=V.hs k A h n s t;have a:(B k).ver h=some K:=a;have d:(B k).ver h=some v:=d;rw[a]at d;cases d;exact b i H (I r).1 (by rw[<-e];simpa using f)
   |succ j=>exact(V.lo k A h v n s t d).1 j w (by omega) (by simpa using g) r (by rw[<-e,<-e];exact f)
 ·cases j with
  |zero=>omega
  | succ j =>
   have g:l[j]? = some w:=by simpa using g
   cases k with
   |zero=>
    simp at n;subst n;obtain⟨K,a,b,_⟩:=J s h t;have d:H.ver h=some v:=d;rw[a]at d;cases d;exact V.pr i h v b j w g r (by rw[<-e];simpa using f)
   |succ k=>exact(V.lo k A h v (by simpa using n) s t d).2 j w (by omega) g r (by rw[<-e,<-e];exact f)
theorem H_ {x:CH} {all:List Oper} {m:List Nat} {k:GS->RS} {A:MK}:∀(l:List Oper) (i:Nat) (J:List (Nat×Option (Nat×Nat))) (D:List (Nat×GH)) (s:GS),evW tb x all m k l i J D s=some A->
  ∃S a r,S 0=s.σ∧a 0=s.H∧Zo tb x all l S a r∧Vrs all l m i S a J D∧k ⟨S l.length,a l.length⟩=some A
 | [],i,J,D,s,h=>⟨λ_=>s.σ,λ_=>s.H,λ_=> .un,rfl,rfl,⟨λi o d=>by simp at d,λi o d=>by simp at d⟩,⟨λ_ _ _ _ j Y V=>by simp at V,λk X h f=>by simp at f,λk X h v f=>by simp at f⟩,h⟩
 | o :: l, i, J, D, s, h => by
  have t:UR tb x all m o (evW tb x all m k l) i J D s=some A:=h;have B:∀{g:GV} {C:GH} {S:Nat->GF} {a:Nat->GH} {r:Nat->GV},Ek tb x all o s.σ s.H=some (g,C)->S 0=putD o.dst g s.σ->a 0=C->Zo tb x all l S a r->Zo tb x all (o::l) (λj=>Nat.casesOn j s.σ S) (λj=>Nat.casesOn j s.H a) (λj=>Nat.casesOn j g r):=λ{g C S a r} z y n w=>⟨λi O d=>by
    cases i with
    |zero=>simp at d;subst d;show Ek tb x all o s.σ s.H=some (g,a 0);rw[z,n]
    |succ i=>exact w.st i O (by simpa using d),λi O d=>by
    cases i with
    |zero=>simp at d;subst d;exact y
    |succ i=>exact w.up i O (by simpa using d)⟩
  unfold UR at t;cases b:eJ o.op with
  |true=>
   rw[b]at t;obtain⟨g,C,z,E⟩:=DX t;obtain⟨_,u,K⟩:=aF.1 E;have u:=Di u;obtain⟨S,a,r,y,n,w,I,f⟩:=H_ l _ _ _ _ K;refine⟨_,_,_,rfl,rfl,B z y n w,I.cons (λ_ h=>h) (λp G=>List.mem_cons_of_mem _ G) (λ_=>⟨List.mem_cons_self,λp G L M U=>by rw[n];exact u p G L M U⟩) (λc=>by rw[yV c]at b;cases b),f⟩
  | false =>
   rw[b]at t;cases c:l_ o.op with
   |true=>
    simp only[c]at t;obtain⟨g,C,z,E⟩:=DX t;obtain⟨e,u,K⟩:=aF.1 E;obtain⟨S,a,r,y,n,w,I,f⟩:=H_ l _ _ _ _ K;refine⟨_,_,_,rfl,rfl,B z y n w,I.cons (λp G=>List.mem_cons_of_mem _ G) (λ_ h=>h) (λh=>by rw[b]at h;cases h) (λ_ Q F=> ?_),f⟩
    rw[F]at u;obtain⟨v,N,u⟩:=aF.1 (show ob (s.H.ver Q) (λv=>IT m i Q v D)=some e from u);obtain⟨rfl,T⟩:=Dj u;exact⟨v,N,List.mem_cons_self,λq R W L=>T (q,R) W L⟩
   |false=>
    simp only[c]at t;obtain⟨g,C,z,E⟩:=DX t;obtain⟨S,a,r,y,n,w,I,f⟩:=H_ l _ _ _ _ E;exact⟨_,_,_,rfl,rfl,B z y n w,I.cons (λ_ h=>h) (λ_ h=>h) (λh=>by rw[b]at h;cases h) (λh=>by rw[c]at h;cases h),f⟩
theorem UQ {s:CH} (t:fI P tb) (p:r_ P w0 s) {all:List Oper} {n:Nat} {o:Oper} {q:GF} {H k:GH} {g:GV} {d:dX} {a:Act} {w:World} (r:GN n o=true) (F:kZ d n q a) (R:fP w0 d H w) (h:Ek tb s all o q H=some (g,k)):
  ∃b i e,d.le b∧fP w0 b k e∧kZ b n (putD o.dst g q) i:=by
 obtain⟨_,c,_⟩:=tH r;rcases HZ t p r F R h with⟨_,x⟩|⟨_,rfl,rfl⟩
 ·rcases x with⟨_,_,_,rfl,v,f,_⟩|⟨_,_,rfl,v,_,_,_,_,_,f,_⟩|⟨_,_,rfl,v,f,_⟩|⟨_,u⟩
  ·exact⟨d,_,w,dX.le_refl _,R,F.putD c f⟩
  ·exact⟨d,_,w,dX.le_refl _,R,F.putD c f⟩
  ·exact⟨d,_,w,dX.le_refl _,R,F.putD c f⟩
  ·obtain⟨i,e,b,v,j,l,m,rfl⟩:=NH (u (λi e=>∃b v,d.le b∧fP w0 b k e∧Rl b g v∧i=a.put o.dst v) λb e v j l m=>⟨b,v,j,l,m,rfl⟩);exact⟨b,_,e,j,l,(F.le j).putD c m⟩
 ·exact⟨d,_,w,dX.le_refl _,R,F.putD c .un⟩
theorem KO {q:CH} (p:fI P tb) (f:r_ P w0 q) {all:List Oper} {n:Nat} (c:all.all (GN n)=true) {S:Nat->GF} {g:Nat->GH} {u:Nat->GV} (T:Zo tb q all all S g u) {k:dX} {a:Act} {w:World} (F:kZ k n (S 0) a) (R:fP w0 k (g 0) w):
    ∀m,m<=all.length->∃b:Nat->dX,(∀i,i<=m->∃a w,fP w0 (b i) (g i) w∧kZ (b i) n (S i) a)∧∀i,i<m->(b i).le (b (i+1))
  | 0, _ => ⟨λ_ => k, λi h => by
      have : i = 0 := by omega
      subst this;exact⟨a,w,R,F⟩,λi h=>by omega⟩
  | m + 1, hm => by
    obtain⟨b,o,v⟩:=KO p f c T F R m (by omega);obtain⟨A,B,s,r⟩:=o m (Nat.le_refl _);have d:all[m]? = some all[m]:=List.getElem?_eq_getElem (by omega);obtain⟨l,t,z,j,x,y⟩:=UQ p f (List.all_eq_true.1 c _ (List.getElem_mem (by omega))) r s (T.st m _ d);refine⟨λi=>if i<=m then b i else l,λi h=> ?_,λi h=> ?_⟩
    · by_cases e:i<=m
      · simp only[e,if_true];exact o i e
      · have:i=m+1:=by omega
        subst this;simp only[e,if_false];exact⟨t,z,x,by rw[T.up m _ d];exact y⟩
    · by_cases e:i+1<=m
      · simp only[e,show i<=m by omega,if_true];exact v i (by omega)
      · have:i=m:=by omega
        subst this;simp only[e,Nat.le_refl,if_true,if_false];exact j
theorem Oe {a:Nat->GH} {m:Nat} (b:∀i,i<m->(a i).n<=(a (i+1)).n) {i:Nat}:∀{j:Nat},i<=j->j<=m->(a i).n<=(a j).n
  | 0, h, _ => by
      have : i = 0 := by omega
      subst this;exact Nat.le_refl _
  | j + 1, h, hj => by
    by_cases e:i=j+1
    · subst e;exact Nat.le_refl _
    · exact Nat.le_trans (Oe b (by omega) (by omega)) (b j (by omega))
theorem JK {w:CH} {all:List Oper} {S:Nat->GF} {u:Nat->GH} {n:Nat->GV} (T:Zo tb w all all S u n) {t:Nat} {g:GV}:∀k,k<=all.length->El (S k) t=some g->
  (∃i o,i<k∧all[i]? = some o∧o.dst=some t∧n i=g∧∀j a,i<j->j<k->all[j]? = some a->a.dst≠some t)∨((∀j a,j<k->all[j]? = some a->a.dst≠some t)∧El (S 0) t=some g)
 |0,_,h=> .inr ⟨λj a s=>by omega,h⟩
 | k + 1, hk, h => by
  have c:all[k]? = some all[k]:=List.getElem?_eq_getElem (by omega);rw[T.up k _ c]at h;have m:all[k].dst≠some t->El (S k) t=some g->_:=λl h=>
   match JK T k (by omega) h with
   | .inl ⟨i, o, q, p, h3, h4, h5⟩ => (.inl ⟨i, o, by omega, p, h3, h4, λj a r s b => by
     by_cases e:j=k
     ·subst e;rw[c]at b;cases b;exact l
     ·exact h5 j a r (by omega) b⟩:(∃i o,i<k+1∧all[i]? = some o∧o.dst=some t∧n i=g∧∀j a,i<j->j<k+1->all[j]? = some a->a.dst≠some t)∨((∀j a,j<k+1->all[j]? = some a->a.dst≠some t)∧El (S 0) t=some g))
   | .inr ⟨q, p⟩ => .inr ⟨λj a s b => by
     by_cases e:j=k
     ·subst e;rw[c]at b;cases b;exact l
     ·exact q j a (by omega) b,p⟩
  cases f:all[k].dst with
  |none=>
   rw[f]at h;exact m (by rw[f];simp) h
  | some d =>
   rw[f]at h;have h:El ((d,n k)::S k) t=some g:=h;rw[AC]at h;by_cases e:t=d
   ·subst e;rw[if_pos Z]at h;cases h;exact .inl ⟨k,_,by omega,c,f,rfl,λj a q p=>by omega⟩
   ·rw[if_neg e]at h;exact m (by rw[f];intro v;cases v;exact e Z) h
def mY (o:Op):Bool:=eJ o && !isFloat o
def Ht (tb:TB) (x o:Op):Bool:=pureOp tb x||pureOp tb o||isFloat o||(!eJ x && !eJ o)||(l_ x&&eJ o)||(mY x&&l_ o)
def chkF (tb:TB) (l:List Oper) (m:List Nat):Bool:=
 (List.range l.length).all λi=>match l[i]? with
  |none=>false
  |some o=>
   (tK o).all (λe=>Nat.blt e i&&before m i e&&(List.range i).all (λk=> !before m e k||before m i k)) &&
   (List.range l.length).all (λk=> !before m i k||(Nat.blt k i&&(tK o).any (λe=>Nat.beq e k||before m e k))) &&
   !BU o.op &&
   (List.range i).all (λx=>before m i x||(match l[x]? with|none=>false|some a=>a.apart l.toArray o&&Ht tb a.op o.op))
structure Ts (tb:TB) (l:List Oper) (m:List Nat):Prop where
 edge:∀(i:Nat) (o:Oper),l[i]? = some o->∀e∈tK o,e<i∧before m i e=true
 trans:∀(i:Nat) (o:Oper),l[i]? = some o->∀k,before m i k=true->k<l.length->k<i∧∃e∈tK o,e=k∨before m e k=true
 ind:∀(i x:Nat) (oi ox:Oper),l[i]? = some oi->l[x]? = some ox->x<i->before m i x=false->ox.apart l.toArray oi=true∧Ht tb ox.op oi.op=true
theorem Gw {l:List Oper} {m:List Nat} (h:chkF tb l m=true):Ts tb l m:=by
 have b:∀(i:Nat) (o:Oper),l[i]? = some o->
   ((tK o).all (λe=>Nat.blt e i&&before m i e&&(List.range i).all (λk=> !before m e k||before m i k))=true)∧
   ((List.range l.length).all (λk=> !before m i k||(Nat.blt k i&&(tK o).any (λe=>Nat.beq e k||before m e k)))=true)∧BU o.op=false∧
   ((List.range i).all (λx=>before m i x||(match l[x]? with|none=>false|some g=>g.apart l.toArray o&&Ht tb g.op o.op))=true):=by
  intro i o c;have:=List.all_eq_true.1 h i (List.mem_range.2 (bG c));simp only[c,Bool.and_eq_true,Bool.not_eq_true']at this;exact⟨this.1.1.1,this.1.1.2,this.1.2,this.2⟩
 refine⟨?_,?_,?_⟩
 ·intro i o c e f;have:=List.all_eq_true.1 (b i o c).1 e f;simp only[Bool.and_eq_true,Nat.blt_eq]at this;exact⟨this.1.1,this.1.2⟩
 ·intro i o c k q a;have:=List.all_eq_true.1 (b i o c).2.1 k (List.mem_range.2 a);simp only[q,Bool.not_true,Bool.false_or,Bool.and_eq_true,Nat.blt_eq,List.any_eq_true,Bool.or_eq_true]at this;obtain⟨j,e,f,d⟩:=this;refine⟨j,e,f,?_⟩
  rcases d with d|d
  ·exact .inl (Nat.eq_of_beq_eq_true d)
  ·exact .inr d
 ·intro i x s g p r a n;have:=(b i s p).2.2.2;have:=List.all_eq_true.1 this x (List.mem_range.2 a);simp only[n,Bool.false_or,r,Bool.and_eq_true]at this;exact this
theorem Kx {X:CH} (I:fI P tb) {all:List Oper} {n:Nat} {o:Oper} {z:GF} {H f:GH} {g:GV} {y:dX} {a:Act} (S:isFloat o.op=true) (F:kZ y n z a) (h:Ek tb X all o z H=some (g,f)):
  (Region.wanted o (yielded all.toArray a.tmps)=false∧g = .un∧f=H)∨
  (Region.wanted o (yielded all.toArray a.tmps)=true∧∃k i u,f=H.new (.cells k)∧RY y k i∧k.length=i.size∧∀w:World,∃V,(execOp a.eval o).run P w = .ok (.value V) (w.alloc (.cells i u))∧∀c:dX,c H.n=some ⟨w.heap.size,0,i.size,.cells i u,.cells k⟩->Rl c g V):=by
 rcases DW F h with⟨U,b⟩|h
 ·refine .inr ⟨U,?_⟩;obtain⟨d,op,ty,aa,L,gd⟩:=o;cases op with
  |buildSlice T m D=>
   obtain⟨vs,C,b⟩:=aF.1 (show ob (tV z D.toList) _=some (g,f)from b);obtain⟨E,q,b,s⟩:=mQ b;cases s;obtain⟨k,i,u,Y,sz,A,h2,M,N,O⟩:=Oh (P:=P) I (BS F C) b;refine⟨k,i,u,A,M,N,λw=> ?_⟩
   obtain⟨V,t,B⟩:=O w;refine⟨V,?_,B⟩
   have e:(D.toList.map λp=>(p.1,a.eval p.2)).toArray=D.map λp=>(p.1,a.eval p.2):=by apply Array.toList_inj.1;simp
   rw[e]at t;simp[execOp,t]
  |alloc T=>
   obtain⟨E,q,b,s⟩:=mQ (show dN (nM tb T H) EA=some (g,f)from b);cases s;obtain⟨K,W,b⟩:=aF.1 (show ob (BJ tb T) _=some (g,f)from b);rw[iU]at b;cases b;obtain⟨d,hd,Q,G⟩:=wX (ρ:=y) I W;refine⟨K,d.zero.cells,T,rfl,G,by have:=G.r.len;simpa using this,λw=>⟨_,?_,λc j=> .ptr (l:=⟨w.heap.size,0,d.zero.cells.size,.cells d.zero.cells T,.cells K⟩) 0 j⟩⟩
   simp[execOp,GU w Q]
  |box T x=>
   obtain⟨v,B,b⟩:=aF.1 (show ob (kD z x) (λv=>dN (Gg v H) EA)=some (g,f)from b);obtain⟨E,q,b,s⟩:=mQ b;cases s;obtain⟨J,R,b⟩:=aF.1 (show ob v.cells _=some (g,f)from b);rw[iU]at b;cases b;obtain⟨vs,e,t,A⟩:=(cA F B).cells R;refine⟨J,(a.eval x).cells,T,rfl,by rw[e];exact⟨t,A⟩,by rw[e];have:=t.len;simpa using this,λw=>⟨_,?_,λc j=> .ptr (l:=⟨w.heap.size,0,(a.eval x).cells.size,.cells (a.eval x).cells T,.cells J⟩) 0 j⟩⟩
   simp[execOp,Instr.box,newVar,newRow]
  |_=>cases S
 ·exact .inl h
end
def Fl (b a:dX):dX:=λh=>match b h with
 |some l=>some l
 |none=>a h
theorem xH {a b:dX} {h:Nat} {l:Ki} (e:a h=some l):Fl a b h=some l:=by simp[Fl,e]
theorem xG {b a:dX} {h:Nat} (e:b h=none):Fl b a h=a h:=by simp[Fl,e]
theorem FL {a b:dX}:a.le (Fl a b):=λ_ _ e=>xH e
def SlD (all:List Oper) (b:GF) (c:Nat->GV) (D:Nat->Bool) (t:Nat) (g:GV):Prop:=
 (∃i o,D i=true∧all[i]? = some o∧o.dst=some t∧c i=g∧∀j a,D j=true->all[j]? = some a->a.dst=some t->j<=i)∨((∀j a,D j=true->all[j]? = some a->a.dst≠some t)∧El b t=some g)
def ins (D:Nat->Bool) (k:Nat):Nat->Bool:=λj=>j==k||D j
theorem AE (D:Nat->Bool) (k:Nat):ins D k k=true:=by simp[ins]
theorem Ab {D:Nat->Bool} {k j:Nat} (h:j≠k):ins D k j=D j:=by simp[ins,h]
theorem AD {D:Nat->Bool} {k j:Nat} (h:D j=true):ins D k j=true:=by simp[ins,h]
noncomputable def CP (σ:GF) (L:pY):GF:=L.filterMap λt=>(El σ t).map λg=>(t,g)
theorem BR {σ:GF} {t:Nat}:∀{L:pY},El (CP σ L) t=if t∈L then El σ t else none
 | []=>rfl
 | x :: L => by
  have c:=BR (σ:=σ) (t:=t) (L:=L);cases b:El σ x with
  |none=>
   have e:CP σ (x::L)=CP σ L:=by simp[CP,b]
   rw[e,c];by_cases a:t=x
   ·subst a;simp[b]
   ·simp[a]
  |some g=>
   have e:CP σ (x::L)=(x,g)::CP σ L:=by simp[CP,b]
   rw[e,AC,c];by_cases a:t=x
   ·subst a;simp[b]
   ·simp[a]
section
variable {P:Program} {tb:TB} {gs:zL} {w0:eN gs} {ih:CH} {all:List Oper} {n:Nat} {S:Nat->GF} {HH:Nat->GH} {gg:Nat->GV}
structure vM (P:Program) (tb:TB) {gs:zL} (w0:eN gs) (ih:CH) (all:List Oper) (n:Nat) (S:Nat->GF) (HH:Nat->GH) (gg:Nat->GV):Prop where
 tab:fI P tb
 call:∀w0:eN gs,r_ P w0 ih
 ops:all.all (GN n)=true
 chk:Ts tb all (oS all)
 trc:Zo tb ih all all S HH gg
 vrs:∀k ok h v,all[k]? = some ok->l_ ok.op=true->YC (S k) ok.op=some h->(HH k).ver h=some v->
  (∀j oj,j<k->all[j]? = some oj->eJ oj.op=true->before (oS all) k j=false->(HH j).ver h=some v)∧(∀j oj,k<j->all[j]? = some oj->eJ oj.op=true->before (oS all) j k=false->(HH (j+1)).ver h=some v)
 chain:∃ρs:Nat->dX,(∀i,i<=all.length->∃a w,fP w0 (ρs i) (HH i) w∧kZ (ρs i) n (S i) a)∧∀i,i<all.length->(ρs i).le (ρs (i+1))
theorem vM.ghost (E:vM P tb w0 ih all n S HH gg) (i:Nat) (c:i<=all.length):∃b a w,fP w0 b (HH i) w∧kZ b n (S i) a:=
 let ⟨ρs,h,_⟩:=E.chain
 ⟨ρs i,h i c⟩
theorem vM.mono (E:vM P tb w0 ih all n S HH gg) (i:Nat) (a:i<all.length):(HH i).n<=(HH (i+1)).n:=by
 obtain⟨e,h,b⟩:=E.chain;obtain⟨_,_,c,_⟩:=h i (Nat.le_of_lt a);obtain⟨_,_,d,_⟩:=h (i+1) a;exact c.mono d (b i a)
theorem Nl {a:Nat->dX} {m:Nat} (h:∀i,i<m->(a i).le (a (i+1))) {i:Nat}:∀{j:Nat},i<=j->j<=m->(a i).le (a j)
  | 0, h1, _ => by
      have : i = 0 := by omega
      subst this;exact dX.le_refl _
  | j + 1, h1, hj => by
    by_cases e:i=j+1
    · subst e;exact dX.le_refl _
    · exact dX.le_trans (Nl h (by omega) (by omega)) (h j (by omega))
theorem vM.same (E:vM P tb w0 ih all n S HH gg) {i j:Nat} (b:i<=j) (u:j<=all.length) {h v:Nat} (q:(HH i).ver h=some v) (r:(HH j).ver h=some v):(HH i).get h=(HH j).get h:=by
 obtain⟨J,s,e⟩:=E.chain;have A:=Nl e b u;obtain⟨_,K,l,_⟩:=s i (by omega);obtain⟨_,L,m,_⟩:=s j u;have a:∀{k:Nat},(HH k).ver h=some v->∃o,(HH k).get h=some o:=λ{k} hv=>by
  obtain⟨p,B,_⟩:=aF.1 (show ob ((HH k).t.get h) _=some v from hv);exact⟨p.2,by unfold GH.get;rw[B];rfl⟩
 obtain⟨H,f⟩:=a q;obtain⟨I,g⟩:=a r;obtain⟨C,c,_⟩:=l.live h H f;obtain⟨D,d,_⟩:=m.live h I g;obtain⟨F,w,_,y⟩:=l.vers h v C q c;obtain⟨G,x,_,z⟩:=m.vers h v D r d;have:=A _ _ w;rw[x]at this;cases this;rw[y,z]
theorem vM.op (E:vM P tb w0 ih all n S HH gg) {k:Nat} {o:Oper} (a:all[k]? = some o):GN n o=true:=List.all_eq_true.1 E.ops o (List.mem_of_getElem? a)
theorem vM.quiet (E:vM P tb w0 ih all n S HH gg) {k:Nat} {o:Oper} (b:all[k]? = some o) (c:eJ o.op=false):HH (k+1)=HH k:=by
 obtain⟨e,a,w,R,F⟩:=E.ghost k (Nat.le_of_lt (bG b));rcases HZ E.tab (E.call w0) (E.op b) F R (E.trc.st k o b)with⟨_,d⟩|⟨_,_,h⟩
 ·rcases d with⟨_,_,_,h,_⟩|⟨_,_,h,_⟩|⟨_,_,h,_⟩|⟨h,_⟩
  ·exact h
  ·exact h
  ·exact h
  ·rw[c]at h;cases h
 ·exact h
theorem vM.floats (E:vM P tb w0 ih all n S HH gg) {k:Nat} {o:Oper} (c:all[k]? = some o) (d:isFloat o.op=true):HH (k+1)=HH k∨∃b,HH (k+1)=(HH k).new (.cells b):=by
 obtain⟨e,a,w,R,F⟩:=E.ghost k (Nat.le_of_lt (bG c));rcases Kx (P:=P) E.tab d F (E.trc.st k o c)with⟨_,_,h⟩|⟨_,b,_,_,h,_⟩
 ·exact .inl h
 ·exact .inr ⟨b,h⟩
theorem VH {H:GH} {o:GO} (h:H=H.new o):False:=by
 have:H.n=H.n+1:=congrArg GH.n h;omega
theorem SS {H:GH} {c a:List GV} (h:H.new (.cells c)=H.new (.cells a)):c=a:=by
 have b:=p_ H (.cells c) H.n;have d:=p_ H (.cells a) H.n;rw[if_pos Z]at b d;rw[h,d]at b;cases b;rfl
theorem vM.mono' (E:vM P tb w0 ih all n S HH gg) {i j:Nat} (h:i<=j) (a:j<=all.length):(HH i).n<=(HH j).n:=Oe E.mono h a
theorem vM.apart (E:vM P tb w0 ih all n S HH gg) {i j:Nat} {b c:List GV} (k:i<all.length) (l:j<all.length) (d:HH (i+1)=(HH i).new (.cells b)) (f:HH (j+1)=(HH j).new (.cells c)) (h:(HH i).n=(HH j).n):i=j:=by
 have e:(HH (i+1)).n=(HH i).n+1:=by rw[d];rfl
 have g:(HH (j+1)).n=(HH j).n+1:=by rw[f];rfl
 rcases Nat.lt_trichotomy i j with a|a|a
 ·have:=E.mono' (i:=i+1) (j:=j) (by omega) (by omega);omega
 ·exact a
 ·have:=E.mono' (i:=j+1) (j:=i) (by omega) (by omega);omega
structure wY {gs:zL} (w0:eN gs) (ρb:dX) (n:Nat) (all:List Oper) (S0:GF) (HH:Nat->GH) (gg:Nat->GV) (D:Nat->Bool) (a:Act) (w:World) (t:Nat) (ρ pm:dX):Prop where
 tm:t<=all.length
 lou:∀j o,all[j]? = some o->mY o.op=true->(D j=true↔j<t)
 flo:∀j o,all[j]? = some o->isFloat o.op=true->j<t->D j=true
 rel:fP w0 ρ (HH t) w
 up:ρb.le ρ
 defers:a.defers=[]
 size:a.tmps.size=n
 slot:∀s g,SlD all S0 gg D s g->Rl (Fl ρ pm) g (a.eval (.tmp s))
 pend:∀i o cs,all[i]? = some o->isFloat o.op=true->HH (i+1)=(HH i).new (.cells cs)->t<=i->D i=true->∃l,pm (HH i).n=some l∧w0.mine l.b∧¬Tw ρ (HH t) l.b∧w.heap[l.b]? = some l.x∧yE (Fl ρ pm) w l (.cells cs)∧l.o = .cells cs
 only:∀h l,pm h=some l->∃i o cs,all[i]? = some o∧isFloat o.op=true∧HH (i+1)=(HH i).new (.cells cs)∧t<=i∧D i=true∧h=(HH i).n
 inj:∀h h' l l',pm h=some l->pm h'=some l'->l.b=l'.b->h=h'
variable {D:Nat->Bool} {a:Act} {w:World} {t:Nat} {ρ pm ρb:dX}
theorem wY.low (E:vM P tb w0 ih all n S HH gg) (I:wY w0 ρb n all (S 0) HH gg D a w t ρ pm) {h:Nat} {l:Ki} (d:pm h=some l):(HH t).n<=h:=by
 obtain⟨i,o,e,b,_,_,c,_,rfl⟩:=I.only h l d;exact E.mono' c (Nat.le_of_lt (bG b))
theorem wY.adopt (E:vM P tb w0 ih all n S HH gg) (I:wY w0 ρb n all (S 0) HH gg D a w t ρ pm) {o:Oper} (Y:all[t]? = some o) (hl:mY o.op=false) (hf:isFloat o.op=true->D t=true):
  ∃c b,wY w0 ρb n all (S 0) HH gg D a w (t+1) c b∧Fl c b=Fl ρ pm:=by
 have ht:=bG Y;have G:∀j o,all[j]? = some o->mY o.op=true->(D j=true↔j<t+1):=λj oj N Q=>by
  have q:j≠t:=λe=>by subst e;rw[Y]at N;cases N;rw[hl]at Q;cases Q
  rw[I.lou j oj N Q];omega
 have C:∀j o,all[j]? = some o->isFloat o.op=true->j<t+1->D j=true:=λj oj N ab ah=>by
  by_cases e:j=t
  ·subst e;rw[Y]at N;cases N;exact hf ab
  ·exact I.flo j oj N ab (by omega)
 -- nothing is taken up
 have H:HH (t+1)=HH t->∃c b,wY w0 ρb n all (S 0) HH gg D a w (t+1) c b∧Fl c b=Fl ρ pm:=λe=>
  ⟨ρ,pm,⟨ht,G,C,by rw[e];exact I.rel,I.up,I.defers,I.size,I.slot,λi W B f r y h4 K=>by rw[e];exact I.pend i W B f r y (by omega) K,λh l hp=>by
   obtain⟨i,W,B,f,r,y,h4,K,h6⟩:=I.only h l hp;refine⟨i,W,B,f,r,y,?_,K,h6⟩
   by_cases e':i=t
   ·subst e';rw[e]at y;exact(VH y).elim
   ·omega,I.inj⟩,rfl⟩
 cases z:isFloat o.op with
 |false=>exact H (E.quiet Y (by simpa [mY,z]using hl))
 | true =>
  rcases E.floats Y z with e|⟨B,e⟩
  ·exact H e
  obtain⟨l,hp,U,M,hx,ad,ag⟩:=I.pend t o B Y z e (Nat.le_refl _) (hf z);have m:ρ (HH t).n=none:=I.rel.fresh _ (Nat.le_refl _);let c:=ρ.upd (HH t).n l;let b:dX:=λh=>if h=(HH t).n then none else pm h;have k:c (HH t).n=some l:=by simp[c,dX.upd]
  have u:∀h,h≠(HH t).n->c h=ρ h:=λh hh=>by simp[c,dX.upd,hh]
  have O:Fl c b=Fl ρ pm:=by
   funext h;by_cases d:h=(HH t).n
   ·subst d;rw[xH k,xG m,hp]
   ·unfold Fl;rw[u h d];simp[b,d]
  have hn:(HH (t+1)).n=(HH t).n+1:=by rw[e];rfl
  -- what the object holds is older
  have aa:∀{g:GV} {v v0:Value} {x:dX},(∀h l,x h=some l->h<(HH (t+1)).n)->Rl (Fl ρ pm) g v->Rl x g v0->Rl c g v:=λ{g v v0 x} hlow f h0=>by
   refine TV (λh l0 l1 e0 X=> ?_) f h0;have ah:=hlow h l0 e0;by_cases d:h=(HH t).n
   ·subst d;rw[xG m,hp]at X;rw[k];exact X
   ·rw[u h d];cases hr:ρ h with
    |some l2=>rw[xH hr]at X;exact X
    |none=>
     rw[xG hr]at X;have:=I.low E X;omega
  obtain⟨x,a0,wg,R0,F0⟩:=E.ghost (t+1) ht;have R:∀h l,x h=some l->h<(HH (t+1)).n:=λh l hl=>by
   rcases Nat.lt_or_ge h (HH (t+1)).n with J|J
   ·exact J
   ·rw[R0.fresh h J]at hl;cases hl
  have L:(HH (t+1)).get (HH t).n=some (.cells B):=by rw[e,p_,if_pos Z]
  obtain⟨l0,_,_,ac⟩:=R0.live _ _ L;obtain⟨ai,T0,q1,q2,q3,q4⟩:=ac;have V:yE c w l (.cells B):=by
   obtain⟨ae,T,p1,p2,p3,p4⟩:=ad;refine⟨ae,T,p1,p2,p3,λi g F=> ?_⟩
   obtain⟨v,r1,r2,r3⟩:=p4 i g F;obtain⟨v0,_,s2,_⟩:=q4 i g F;exact⟨v,r1,aa R r2 s2,r3⟩
  obtain⟨af,R'⟩:=I.rel.new (o:= .cells B) (l:=l) I.rel.ext (λh o' l' F p=>⟨rfl,λeb=>M ⟨h,o',l',F,p,eb⟩⟩) U V hx ag;rw[<-e]at R';refine⟨c,b,⟨ht,G,C,R',dX.le_trans I.up af,I.defers,I.size,λs g hs=>by rw[O];exact I.slot s g hs,λi W ci f r y h4 K=> ?_,λh l1 A=> ?_,λh J l1 l2 f r hb=> ?_⟩,O⟩
  ·obtain⟨li,a1,a2,a3,a4,a5,a6⟩:=I.pend i W ci f r y (by omega) K;have q:(HH i).n≠(HH t).n:=λd=>by
    have:=E.apart (bG f) ht y e d;omega
   refine⟨li,by simp[b,q,a1],a2,?_,a4,by rw[O];exact a5,a6⟩
   rintro⟨h,o',l',F,p,eb⟩;rw[e,p_]at F;by_cases d:h=(HH t).n
   ·subst d;rw[k]at p;cases p;exact q (I.inj _ _ _ _ a1 hp eb.symm)
   ·rw[if_neg d]at F;rw[u h d]at p;exact a3 ⟨h,o',l',F,p,eb⟩
  ·have q:h≠(HH t).n:=λd=>by subst d;simp[b]at A
   have A:pm h=some l1:=by simpa [b,q]using A
   obtain⟨i,W,ci,f,r,y,h4,K,h6⟩:=I.only h l1 A;refine⟨i,W,ci,f,r,y,?_,K,h6⟩
   by_cases e':i=t
   ·subst e';exact absurd h6 q
   ·omega
  ·have f:pm h=some l1:=by
    by_cases d:h=(HH t).n
    ·simp[b,d]at f
    ·simpa [b,d]using f
   have r:pm J=some l2:=by
    by_cases d:J=(HH t).n
    ·simp[b,d]at r
    ·simpa [b,d]using r
   exact I.inj h J l1 l2 f r hb
theorem wY.adoptTo (E:vM P tb w0 ih all n S HH gg):∀(d t k:Nat) (ρ pm:dX),wY w0 ρb n all (S 0) HH gg D a w t ρ pm->t+d=k->k<=all.length->(∀j o,t<=j->j<k->all[j]? = some o->mY o.op=false∧(isFloat o.op=true->D j=true))->
  ∃c b,wY w0 ρb n all (S 0) HH gg D a w k c b∧Fl c b=Fl ρ pm
 |0,t,k,ρ,pm,I,hd,hk,_=>by
  have:t=k:=by omega
  subst this;exact⟨ρ,pm,I,rfl⟩
 |d+1,t,k,ρ,pm,I,hd,hk,h=>by
  have p:all[t]? = some all[t]:=List.getElem?_eq_getElem (by omega);obtain⟨m,e⟩:=h t _ (Nat.le_refl _) (by omega) p;obtain⟨i,f,q,s⟩:=I.adopt E p m e;obtain⟨l,g,r,u⟩:=wY.adoptTo E d (t+1) k i f q (by omega) hk (λj o m e=>h j o (by omega) e);exact⟨l,g,r,by rw[u,s]⟩
def Cl (all:List Oper) (D:Nat->Bool):Prop:=∀j k,D j=true->before (oS all) j k=true->k<all.length->D k=true
structure OQ (all:List Oper) (D:Nat->Bool) (k:Nat) (o:Oper):Prop where
 get:all[k]? = some o
 undone:D k=false
 past:∀j,before (oS all) k j=true->j<all.length->D j=true
theorem OQ.behind (C:Ts tb all (oS all)) (c:Cl all D) {k:Nat} {o:Oper} (e:OQ all D k o) {j:Nat} {b:Oper} (h:all[j]? = some b) (g:D j=true) (d:k<j):o.apart all.toArray b=true∧Ht tb o.op b.op=true:=by
 cases f:before (oS all) j k with
 |false=>exact C.ind j k b o h e.get d f
 |true=>
  have:=c j k g f (bG e.get);rw[e.undone]at this;cases this
theorem OQ.ahead (C:Ts tb all (oS all)) {k:Nat} {o:Oper} (f:OQ all D k o) {j:Nat} {b:Oper} (e:all[j]? = some b) (c:j<k):D j=true∨b.apart all.toArray o=true∧Ht tb b.op o.op=true:=by
 cases d:before (oS all) k j with
 |true=>exact .inl (f.past j d (bG e))
 |false=>exact .inr (C.ind k j o b f.get e c d)
theorem OQ.look (E:vM P tb w0 ih all n S HH gg) (q:Cl all D) {k:Nat} {o:Oper} (p:OQ all D k o) {s:Nat} {g:GV} (u:s∈o.looksAt all.toArray) (y:El (S k) s=some g):SlD all (S 0) gg D s g:=by
 have b:∀j c,D j=true->all[j]? = some c->c.dst=some s->j<k:=λj c d f e=>by
  rcases Nat.lt_trichotomy j k with h|h|h
  ·exact h
  ·subst h;rw[p.undone]at d;cases d
  ·obtain⟨l,_⟩:=p.behind E.chk q f d h;exact absurd u ((Oper.apart_spec l).2.2 s e)
 rcases JK E.trc k (Nat.le_of_lt (bG p.get)) y with⟨i,z,l,m,r,v,x⟩|⟨l,m⟩
 ·refine .inl ⟨i,z,?_,m,r,v,λj c d f e=> ?_⟩
  ·rcases p.ahead E.chk m l with h|⟨h,_⟩
   ·exact h
   ·exact absurd u ((Oper.apart_spec h).1 s r)
  ·have:=b j c d f e;rcases Nat.lt_or_ge i j with h|h
   ·exact absurd e (x j c h this f)
   ·exact h
 ·exact .inr ⟨λj c d f e=>l j c (b j c d f e) f e,m⟩
theorem OQ.slot (C:Ts tb all (oS all)) (F:Cl all D) {K:GF} {k:Nat} {o:Oper} (y:OQ all D k o) (x:∀d,o.dst=some d->d<n) (I:a.tmps.size=n) {z u:dX} (G:z.le u) (q:∀s g,SlD all K gg D s g->Rl z g (a.eval (.tmp s))) {v:Value} (Q:Rl u (gg k) v):
  ∀s g,SlD all K gg (ins D k) s g->Rl u g ((a.put o.dst v).eval (.tmp s)):=λs g L=>by
 have c:∀j r,D j=true->all[j]? = some r->o.dst=some s->r.dst=some s->j<k:=λj r m O f p=>by
  rcases Nat.lt_trichotomy j k with h|h|h
  ·exact h
  ·subst h;rw[y.undone]at m;cases m
  ·obtain⟨b,_⟩:=y.behind C F O m h;exact absurd p ((Oper.apart_spec b).2.1 s f)
 by_cases f:o.dst=some s
 ·have N:gg k=g:=by
   rcases L with⟨i,J,b,l,A,B,E⟩|⟨b,_⟩
   ·have R:=E k o (AE D k) y.get f;by_cases e:i=k
    ·subst e;exact B
    ·rw[Ab e]at b;have:=c i J b l f A;omega
   ·exact absurd f (b k o (AE D k) y.get)
  rw[f,<-N];have H:=x s f;have:(a.put (some s) v).eval (.tmp s)=v:=by simp[Act.put,Act.eval,I,H]
  rw[this];exact Q
 ·have M:(a.put o.dst v).eval (.tmp s)=a.eval (.tmp s):=Act.eval_put λd p e=>by cases e;exact f p
  rw[M];refine(q s g ?_).le G;rcases L with⟨i,J,b,l,A,B,E⟩|⟨b,l⟩
  ·have e:i≠k:=λe=>by subst e;rw[y.get]at l;cases l;exact f A
   rw[Ab e]at b;exact .inl ⟨i,J,b,l,A,B,λj r m=>E j r (AD m)⟩
  ·exact .inr ⟨λj r m=>b j r (AD m),l⟩
theorem Ee (a:Act) (d:Option Tmp) (v:Value):(a.put d v).defers=a.defers∧(a.put d v).tmps.size=a.tmps.size:=by
 cases d with
 |none=>exact⟨rfl,rfl⟩
 |some d=>exact⟨rfl,by simp[Act.put]⟩
theorem wY.plain (E:vM P tb w0 ih all n S HH gg) (u:Cl all D) (I:wY w0 ρb n all (S 0) HH gg D a w t ρ pm) {k:Nat} {o:Oper} (q:OQ all D k o) (F:mY o.op=false) (C:isFloat o.op=true->HH (k+1)=HH k) {v:Value} (H:Rl (Fl ρ pm) (gg k) v):
  wY w0 ρb n all (S 0) HH gg (ins D k) (a.put o.dst v) w t ρ pm:=by
 obtain⟨_,f,_⟩:=tH (E.op q.get);obtain⟨J,K⟩:=Ee a o.dst v;refine⟨I.tm,λj A g b=> ?_,λj A g x y=>AD (I.flo j A g x y),I.rel,I.up,by rw[J];exact I.defers,by rw[K];exact I.size,q.slot E.chk u f I.size (dX.le_refl _) I.slot H,λi z r c m d s p=> ?_,λh l G=> ?_,I.inj⟩
 ·have e:j≠k:=λe=>by subst e;rw[q.get]at g;cases g;rw[F]at b;cases b
  rw[Ab e];exact I.lou j A g b
 ·have e:i≠k:=λe=>by
   subst e;rw[q.get]at c;cases c;rw[C m]at d;exact VH d
  rw[Ab e]at p;exact I.pend i z r c m d s p
 ·obtain⟨i,z,r,c,m,d,s,p,B⟩:=I.only h l G;exact⟨i,z,r,c,m,d,s,AD p,B⟩
def Lg (all:List Oper) (D:Nat->Bool) (t:Nat):Prop:=t=0∨∃o,all[t - 1]? = some o∧mY o.op=true∧D (t - 1)=true
theorem Lg.ins {k:Nat} (h:Lg all D t):Lg all (ins D k) t:=by
 rcases h with h|⟨o,b,c,d⟩
 ·exact .inl h
 ·exact .inr ⟨o,b,c,AD d⟩
theorem Ed {o:Op} (h:pureOp tb o=true):eJ o=false:=by
 unfold pureOp at h;split at h<;>first|rfl|cases h
theorem EV {o:Op} (h:isFloat o=true):eJ o=true:=by
 unfold isFloat at h;split at h<;>first|rfl|cases h
theorem EW {o:Op} (h:isFloat o=true):pureOp tb o=false:=by
 cases b:pureOp tb o with
 |false=>rfl
 |true=>have:=Ed b;rw[EV h]at this;cases this
theorem wY.reach (E:vM P tb w0 ih all n S HH gg) (u:Cl all D) (I:wY w0 ρb n all (S 0) HH gg D a w t ρ pm) (i:Lg all D t) {k:Nat} {o:Oper} (r:OQ all D k o) (z:pureOp tb o.op=false) (B:isFloat o.op=false) (m:l_ o.op=false):
  ∃q p,wY w0 ρb n all (S 0) HH gg D a w k q p∧Fl q p=Fl ρ pm:=by
 have F:=bG r.get;have C:t<=k:=by
  rcases i with h|⟨d,x,f,s⟩
  ·omega
  ·rcases Nat.lt_or_ge (t - 1) k with h|h
   ·omega
   ·exfalso;by_cases e:t - 1=k
    ·rw[e,r.undone]at s;cases s
    ·obtain⟨_,A⟩:=r.behind E.chk u x s (by omega);simp only[mY,Bool.and_eq_true,Bool.not_eq_true']at f;have:pureOp tb d.op=false:=by
      cases v:pureOp tb d.op with
      |false=>rfl
      |true=>have:=Ed v;rw[f.1]at this;cases this
     have c:l_ d.op=false:=by
      cases v:l_ d.op with
      |false=>rfl
      |true=>rw[yV v]at f;cases f.1
     simp[Ht,z,this,f.1,f.2,m,c]at A
 refine I.adoptTo E (k - t) t k ρ pm (by omega) (by omega) λj d x f y=> ?_;have g:D j=true∨eJ d.op=false∨pureOp tb d.op=true:=by
  rcases r.ahead E.chk y f with h|⟨_,h⟩
  ·exact .inl h
  ·simp only[Ht,z,B,m,Bool.or_false,Bool.and_false,Bool.or_eq_true,Bool.and_eq_true,Bool.not_eq_true']at h;rcases h with(h|h)|h
   ·exact .inr (.inr h)
   ·exact .inr (.inl h.1)
   ·exact .inr (.inl (yV h.1))
 refine⟨?_,λl=> ?_⟩
 ·cases c:mY d.op with
  |false=>rfl
  |true=>
   exfalso;have b:=c;simp only[mY,Bool.and_eq_true,Bool.not_eq_true']at b;rcases g with h|h|h
   ·have:=(I.lou j d y c).1 h;omega
   ·rw[b.1]at h;cases h
   ·have:=Ed h;rw[b.1]at this;cases this
 ·rcases g with h|h|h
  ·exact h
  ·rw[EV l]at h;cases h
  ·rw[EW l]at h;cases h
theorem wY.frame (E:vM P tb w0 ih all n S HH gg) (c:Cl all D) (I:wY w0 ρb n all (S 0) HH gg D a w t ρ pm) {k:Nat} {o:Oper} (e:OQ all D k o):kZ (Fl ρ pm) n (CP (S k) (o.looksAt all.toArray)) a:=
 ⟨I.defers,I.size,λs g b=>by
  rw[BR]at b;by_cases d:s∈o.looksAt all.toArray
  ·rw[if_pos d]at b;exact I.slot s g (e.look E c d b)
  ·rw[if_neg d]at b;cases b⟩
theorem wY.frame' (E:vM P tb w0 ih all n S HH gg) (e:Cl all D) {k:Nat} (I:wY w0 ρb n all (S 0) HH gg D a w k ρ pm) {o:Oper} (i:OQ all D k o):kZ ρ n (CP (S k) (o.looksAt all.toArray)) a:=by
 have F:=I.frame E e i;obtain⟨u,v,z,p,m⟩:=E.ghost k (Nat.le_of_lt (bG i.get));refine⟨F.defers,F.size,λs g b=> ?_⟩
 have q:=F.slot s g b;rw[BR]at b;by_cases j:s∈o.looksAt all.toArray
 ·rw[if_pos j]at b;refine TV (λh x l f d=> ?_) q (m.slot s g b);cases c:ρ h with
  |some y=>rw[xH c]at d;exact d
  |none=>
   rw[xG c]at d;have r:=I.low E d;rw[p.fresh h r]at f;cases f
 ·rw[if_neg j]at b;cases b
theorem vM.st (E:vM P tb w0 ih all n S HH gg) {k:Nat} {o:Oper} (b:all[k]? = some o):Ek tb ih all o (CP (S k) (o.looksAt all.toArray)) (HH k)=some (gg k,HH (k+1)):=by
 rw[<-E.trc.st k o b];exact Ph λs c=>by rw[BR,if_pos c]
theorem wY.loads (E:vM P tb w0 ih all n S HH gg) (L:Cl all D) (I:wY w0 ρb n all (S 0) HH gg D a w t ρ pm) (s:Lg all D t) {k:Nat} {o:Oper} (u:OQ all D k o) (f:l_ o.op=true) {h:Nat} {W:GO} (hh:YC (S k) o.op=some h) (i:(HH k).get h=some W):
  ∃p H G,wY w0 ρb n all (S 0) HH gg D a w p H G∧Fl H G=Fl ρ pm∧(HH p).get h=some W:=by
 have hk:=bG u.get;have hq:=yV f;have R:pureOp tb o.op=false:=by cases N:o.op<;>rw[N]at f<;>first|rfl|cases f
 have M:isFloat o.op=false:=by cases N:o.op<;>rw[N]at f<;>first|rfl|cases f
 obtain⟨v,V⟩:∃v,(HH k).ver h=some v:=by
  obtain⟨p,hp,_⟩:=aF.1 (show Gx.ob ((HH k).t.get h) _=some W from i);exact⟨p.1,by unfold GH.ver;rw[hp];rfl⟩
 obtain⟨v1,v2⟩:=E.vrs k o h v u.get f hh V;rcases Nat.lt_or_ge k t with C|C
 ·
  rcases s with e|⟨c,x,z,K⟩
  ·omega
  have b:=z;simp only[mY,Bool.and_eq_true]at b;have q:before (oS all) (t - 1) k=false:=by
   cases q:before (oS all) (t - 1) k with
   |false=>rfl
   |true=>have:=L _ _ K q hk;rw[u.undone]at this;cases this
  have aa:t - 1≠k:=λe=>by rw[e,u.undone]at K;cases K
  have:=v2 (t - 1) c (by omega) x b.1 q;rw[show t - 1+1=t by omega]at this;exact⟨t,ρ,pm,I,rfl,by rw[<-E.same (Nat.le_of_lt C) I.tm V this];exact i⟩
 ·
  have first:∀d g,g+d=k->t<=g->(∀j c,t<=j->j<g->all[j]? = some c->mY c.op=false)->∃p,t<=p∧p<=k∧(∀j c,t<=j->j<p->all[j]? = some c->mY c.op=false)∧(p=k∨∃F,all[p]? = some F∧mY F.op=true):=by
   intro d
   induction d with
   |zero=>exact λg e U h=>⟨g,U,by omega,h,.inl (by omega)⟩
   | succ d ihd =>
    intro g e U h;have m:all[g]? = some all[g]:=List.getElem?_eq_getElem (by omega);cases hl:mY all[g].op with
    |true=>exact⟨g,U,by omega,h,.inr ⟨_,m,hl⟩⟩
    |false=>
     refine ihd (g+1) (by omega) (by omega) λj c x z y=> ?_;by_cases e:j=g
     ·subst e;rw[m]at y;cases y;exact hl
     ·exact h j c x (by omega) y
  obtain⟨p,ab,ac,O,Q⟩:=first (k - t) t (by omega) (Nat.le_refl _) (λj c x z=>by omega)
  obtain⟨Y,X,I1,e1⟩:=I.adoptTo E (p - t) t p ρ pm (by omega) (by omega) λj c x z y=>by
   refine⟨O j c x z y,λr=> ?_⟩
   rcases u.ahead E.chk y (by omega)with h|⟨_,h⟩
   ·exact h
   ·have a1:=EW (tb:=tb) r;have J:=EV r;have a3:l_ c.op=false:=by
     cases T:l_ c.op with
     |false=>rfl
     |true=>rw[yV T]at J;cases J
    have a4:mY c.op=false:=by simp[mY,r]
    simp[Ht,a1,J,a3,a4,R,M]at h
  refine⟨p,Y,X,I1,e1,?_⟩
  rcases Q with e|⟨F,l,A⟩
  ·rw[e];exact i
  ·have b:=A;simp only[mY,Bool.and_eq_true]at b;have B:p<k:=by
    rcases Nat.lt_or_ge p k with h|h
    ·exact h
    ·have:p=k:=by omega
     subst this;rw[u.get]at l;cases l;rw[hq]at b;cases b.1
   have q:before (oS all) k p=false:=by
    cases q:before (oS all) k p with
    |false=>rfl
    |true=>have:=u.past p q (by omega);rw[I.lou p F l A]at this;omega
   rw[E.same (Nat.le_of_lt B) (Nat.le_of_lt hk) (v1 p F B l b.1 q) V];exact i
theorem wY.step (E:vM P tb w0 ih all n S HH gg) (z:Cl all D) (I:wY w0 ρb n all (S 0) HH gg D a w t ρ pm) (m:Lg all D t) {k:Nat} {o:Oper} (A:OQ all D k o) {Q:Exit->Act->World->Prop} {K:Act->World->Prop}
  (hK:∀a' w' t' aY O,wY w0 ρb n all (S 0) HH gg (ins D k) a' w' t' aY O->Lg all (ins D k) t'->K a' w'):Sx.wpOp P all.toArray Q k K a w:=by
 have hk:=bG A.get;obtain⟨_,ai,aS⟩:=tH (E.op A.get);have am:=E.st A.get;unfold Sx.wpOp;simp only[List.getElem?_toArray,A.get];cases hp:pureOp tb o.op with
 | true =>
  have Y:mY o.op=false:=by simp[mY,Ed hp]
  have aE:isFloat o.op=false:=by
   cases hf:isFloat o.op with
   |false=>rfl
   |true=>rw[EW hf]at hp;cases hp
  have F:=I.frame E z A;rcases DW F am with⟨N,C⟩|⟨N,C,hH⟩
  ·rw[if_pos N];have aG:Ju o.op=true:=by
    rcases aS with h|⟨c,f,y,G⟩
    ·exact h
    ·obtain⟨a8,xs,ts⟩:=c;simp only at G;rw[y,G]at hp;cases hp
   obtain⟨_,v,hv,u⟩:=Vd (P:=P) E.tab F hp aG C;left;simp only[Oper.wp,u w,Oper.upon];exact hK _ _ t ρ pm (I.plain E z A Y (λh=>by rw[aE]at h;cases h) hv) m.ins
  ·rw[if_neg (by rw[N];simp)];exact hK _ _ t ρ pm (I.plain E z A Y (λh=>by rw[aE]at h;cases h) (by rw[C];exact .un)) m.ins
 | false =>
  cases hf:isFloat o.op with
  | true =>
   have Y:mY o.op=false:=by simp[mY,hf]
   have F:=I.frame E z A;rcases Kx (P:=P) E.tab hf F am with⟨N,C,hH⟩|⟨N,cs,a',T',hH,hC,a0,u⟩
   ·rw[if_neg (by rw[N];simp)];exact hK _ _ t ρ pm (I.plain E z A Y (λ_=>hH) (by rw[C];exact .un)) m.ins
   ·rw[if_pos N];obtain⟨V,hV,aI⟩:=u w;left;simp only[Oper.wp,hV,Oper.upon];have aJ:t<=k:=by
     rcases Nat.lt_or_ge k t with h|h
     ·have:=I.flo k o A.get hf h;rw[A.undone]at this;cases this
     ·exact h
    let l:Ki:=⟨w.heap.size,0,a'.size,.cells a' T',.cells cs⟩
    have e:Lb w (w.alloc (.cells a' T')):=(Below.refl _ _).alloc (Nat.le_refl _) _;have aX:ρ (HH k).n=none:=I.rel.fresh _ (E.mono' aJ (by omega));have aT:pm (HH k).n=none:=by
     cases U:pm (HH k).n with
     |none=>rfl
     |some W=>
      obtain⟨i,L,R,y,G,h3,h4,h5,h6⟩:=I.only _ _ U;have:=E.apart (bG y) hk h3 hH h6.symm;subst this;rw[A.undone]at h5;cases h5
    let O:=pm.upd (HH k).n l;have M:O (HH k).n=some l:=by simp[O,dX.upd]
    have J:∀h,h≠(HH k).n->O h=pm h:=λh hh=>by simp[O,dX.upd,hh]
    have ad:(Fl ρ pm).le (Fl ρ O):=λh W y=>by
     cases H:ρ h with
     |some l2=>rw[xH H]at y;rw[xH H];exact y
     |none=>
      rw[xG H]at y;rw[xG H,J h (λeh=>by subst eh;rw[aT]at y;cases y)];exact y
    have aP:Fl ρ O (HH k).n=some l:=by rw[xG aX,M]
    obtain⟨p1,p2⟩:=Ee a o.dst V;have az:∀h W,pm h=some W->W.b<w.heap.size:=λh W y=>by
     obtain⟨i,L,R,q1,q2,q3,q4,q5,rfl⟩:=I.only _ _ y;obtain⟨l2,r1,_,_,r4,_⟩:=I.pend i L R q1 q2 q3 q4 q5;rw[y]at r1;cases r1;exact(Array.getElem?_eq_some_iff.1 r4).1
    refine hK _ _ t ρ O ⟨I.tm,λj oj hj ak=> ?_,λj oj hj ao aD=>AD (I.flo j oj hj ao aD),I.rel.ext' e,I.up,by rw[p1];exact I.defers,by rw[p2];exact I.size,A.slot E.chk z ai I.size ad I.slot (aI _ aP),λi L R y G h3 h4 h5=> ?_,λh W ar=> ?_,λh h' W l2 y G hb=> ?_⟩ m.ins
    ·have e:j≠k:=λe=>by subst e;rw[A.get]at hj;cases hj;rw[Y]at ak;cases ak
     rw[Ab e];exact I.lou j oj hj ak
    ·by_cases ei:i=k
     ·subst ei;rw[hH]at h3;have:=SS h3;subst this;refine⟨l,M,.inl I.rel.ext.size,?_,heap_alloc_new w _,⟨a',T',heap_alloc_new w _,rfl,by show 0+cs.length<=a'.size;omega,λj g C=> ?_⟩,rfl⟩
      ·rintro⟨h,o',l',C,ax,eb⟩;obtain⟨l2,r1,_,r3⟩:=I.rel.live h o' C;rw[ax]at r1;cases r1;have:=r3.lt;rw[eb]at this;exact absurd this (Nat.lt_irrefl _)
      ·obtain⟨x,hx,aU⟩:=hC.r.get C;rw[Array.getElem?_toList]at hx;exact⟨x,by show a'[0+j]? = some x;simpa using hx,aU.le ad,LE hC.one hx⟩
     ·rw[Ab ei]at h5;obtain⟨W,a1,a2,a3,a4,a5,a6⟩:=I.pend i L R y G h3 h4 h5;have aR:(HH i).n≠(HH k).n:=λeh=>ei (E.apart (bG y) hk h3 hH eh);have hb:=az _ _ a1;exact⟨W,by rw[J _ aR];exact a1,a2,a3,by rw[e.block _ hb];exact a4,a5.move ad (e.block _ hb),a6⟩
    ·by_cases eh:h=(HH k).n
     ·exact⟨k,o,cs,A.get,hf,hH,aJ,AE D k,eh⟩
     ·rw[J h eh]at ar;obtain⟨i,L,R,q1,q2,q3,q4,q5,q6⟩:=I.only h W ar;exact⟨i,L,R,q1,q2,q3,q4,AD q5,q6⟩
    ·by_cases eh:h=(HH k).n
     ·by_cases ah:h'=(HH k).n
      ·rw[eh,ah]
      ·rw[J h' ah]at G;subst eh;rw[M]at y;cases y;have:=az _ _ G;rw[<-hb]at this;exact absurd this (Nat.lt_irrefl _)
     ·rw[J h eh]at y;by_cases ah:h'=(HH k).n
      ·subst ah;rw[M]at G;cases G;have:=az _ _ y;rw[hb]at this;exact absurd this (Nat.lt_irrefl _)
      ·rw[J h' ah]at G;exact I.inj h h' W l2 y G hb
  | false =>
   cases aj:l_ o.op with
   | true =>
    have Y:mY o.op=false:=by simp[mY,yV aj]
    have F0:=I.frame E z A;rcases DW F0 am with⟨N,C⟩|⟨N,C,hH⟩
    ·rw[if_pos N];have aH:∃T x,o.op = .load T x:=by
      cases ho:o.op<;>rw[ho]at aj<;>first|exact⟨_,_,rfl⟩|cases aj
     obtain⟨T,x,al⟩:=aH;rw[al]at C;obtain⟨va,aL,C⟩:=aF.1 (show ob (kD (CP (S k) (o.looksAt all.toArray)) x) _=some (gg k,HH (k+1))from C);obtain⟨g',av,aQ⟩:=aF.1 C;have eg:g'=gg k:=by
      have:=congrArg (λo=>o.map Prod.fst) (show some (g',HH k)=some (gg k,HH (k+1))from aQ);simpa using this
     rw[eg]at av;obtain⟨q,U,hc⟩:=aF.1 (show ob va.asP _=some (gg k)from av);obtain⟨cs,aO,hc⟩:=aF.1 hc;have aA:=iB.1 aO;have aW:∀s,x = .tmp s->s∈o.looksAt all.toArray:=λs e=>List.mem_append_left _ (List.mem_filterMap.2 ⟨.tmp s,by rw[al,e];simp[Op.operands],rfl⟩);have aM:kD (S k) x=some va:=by
      rw[<-aL];cases x with
      |tmp s=>
       show El (S k) s=El (CP (S k) (o.looksAt all.toArray)) s;rw[BR,if_pos (aW s Z)]
      |_=>rfl
     have hh:YC (S k) o.op=some q.1:=by
      rw[al];show ob (kD (S k) x) _=_;rw[aM];show ob va.asP _=_;rw[U];rfl
     obtain⟨p,ag,af,B,ap,aB⟩:=I.loads E z m A aj hh aA;have aK:=cA F0 aL;have aV:Rl ag va (a.eval x):=by
      rw[Dg U]at aK ⊢;obtain⟨l,Y,e⟩:=aK.ptr_inv;obtain⟨W,aC,_⟩:=B.rel.live _ _ aB;rw[<-ap,xH aC]at Y;cases Y;rw[e];exact .ptr _ aC
     have ay:pZ tb T va (HH p)=some (gg k):=by
      show ob va.asP _=_;rw[U];show ob ((HH p).cells q.1) _=_;rw[iB.2 aB];exact hc
     obtain⟨X,_,l,_,_,_,hX,u⟩:=JL (P:=P) E.tab B.rel aV ay;left;have H:(execOp a.eval o).run P w = .ok (.value X) w:=by
      have:=u w Z;obtain⟨d,op,ty,a9,a7,gd⟩:=o;simp only at al;subst al;simp[execOp,this]
     simp only[Oper.wp,H,Oper.upon];exact hK _ _ t ρ pm (I.plain E z A Y (λh=>by rw[hf]at h;cases h) (by rw[<-ap];exact hX.le FL)) m.ins
    ·rw[if_neg (by rw[N];simp)];exact hK _ _ t ρ pm (I.plain E z A Y (λh=>by rw[hf]at h;cases h) (by rw[C];exact .un)) m.ins
   |false=>
   obtain⟨ag,af,B,ap⟩:=I.reach E z m A hp hf aj;have F:=B.frame' E z A;cases ae:eJ o.op with
   | false =>
    have Y:mY o.op=false:=by simp[mY,ae]
    have an:∀v,Rl ag (gg k) v->wY w0 ρb n all (S 0) HH gg (ins D k) (a.put o.dst v) w t ρ pm:=λv hv=>
     I.plain E z A Y (λh=>by rw[hf]at h;cases h) (by rw[<-ap];exact hv.le FL)
    rcases HZ E.tab (E.call w0) (E.op A.get) F B.rel am with⟨N,hs⟩|⟨N,C,hH⟩
    ·rw[if_pos N];left;rcases hs with⟨_,_,_,_,v,hv,u⟩|⟨_,_,_,v,_,_,_,_,_,hv,u⟩|⟨_,_,_,v,hv,u⟩|⟨U,_⟩
     ·simp only[Oper.wp,u w,Oper.upon];exact hK _ _ t ρ pm (an v hv) m.ins
     ·simp only[Oper.wp,u w Z,Oper.upon];exact hK _ _ t ρ pm (an v hv) m.ins
     ·simp only[Oper.wp,u,Oper.upon];exact hK _ _ t ρ pm (an v hv) m.ins
     ·rw[ae]at U;cases U
    ·rw[if_neg (by rw[N];simp)];exact hK _ _ t ρ pm (an undef (by rw[C];exact .un)) m.ins
   | true =>
    have Y:mY o.op=true:=by simp[mY,ae,hf]
    have aq:∀(i:Nat) (L:Oper) (R:List GV),all[i]? = some L->isFloat L.op=true->i≠k:=λi L R y G e=>by
     subst e;rw[A.get]at y;cases y;rw[hf]at G;cases G
    have aw:∀j o,all[j]? = some o->mY o.op=true->(ins D k j=true↔j<k+1):=λj oj hj ak=>by
     by_cases e:j=k
     ·subst e;simp[AE]
     ·rw[Ab e,B.lou j oj hj ak];omega
    have au:∀j o,all[j]? = some o->isFloat o.op=true->j<k+1->ins D k j=true:=λj oj hj ao aD=>by
     have:=aq j oj [] hj ao;exact AD (B.flo j oj hj ao (by omega))
    have aa:∀h l,af h=some l->∃i o cs,all[i]? = some o∧isFloat o.op=true∧HH (i+1)=(HH i).new (.cells cs)∧k+1<=i∧ins D k i=true∧h=(HH i).n:=λh l ar=>by
     obtain⟨i,L,R,q1,q2,q3,q4,q5,q6⟩:=B.only h l ar;have:=aq i L R q1 q2;exact⟨i,L,R,q1,q2,q3,by omega,AD q5,q6⟩
    have ac:Lg all (ins D k) (k+1):= .inr ⟨o,by simpa using A.get,Y,by simp[AE]⟩;rcases HZ E.tab (E.call B.rel.base) (E.op A.get) F B.rel.rebase am with⟨N,hs⟩|⟨N,C,hH⟩
    ·rw[if_pos N];left;rcases hs with⟨U,_⟩|⟨U,_⟩|⟨U,_⟩|⟨_,u⟩
     ·rw[ae]at U;cases U
     ·rw[ae]at U;cases U
     ·rw[ae]at U;cases U
     refine Js (u _ λaN w2 v ad R2 hv=>hK _ _ (k+1) aN af ?_ ac);obtain⟨R3,ab⟩:=B.rel.back R2;have hj:(Fl ag af).le (Fl aN af):=λh l y=>by
      cases H:ag h with
      |some l2=>rw[xH H]at y;cases y;exact xH (ad _ _ H)
      |none=>
       rw[xG H]at y;obtain⟨i,L,R,q1,q2,q3,q4,q5,rfl⟩:=aa h l y;rw[xG (R2.fresh _ (E.mono' q4 (Nat.le_of_lt (bG q1))))];exact y
     obtain⟨p1,p2⟩:=Ee a o.dst v;refine⟨hk,aw,au,R3,dX.le_trans B.up ad,by rw[p1];exact B.defers,by rw[p2];exact B.size,A.slot E.chk z ai B.size hj B.slot (hv.le FL),λi L R y G h3 h4 h5=> ?_,aa,B.inj⟩
     rw[Ab (aq i L R y G)]at h5;obtain⟨W,a1,a2,a3,a4,a5,a6⟩:=B.pend i L R y G h3 (by omega) h5;have hb:W.b<w.heap.size:=(Array.getElem?_eq_some_iff.1 a4).1;refine⟨W,a1,a2,?_,by rw[ab _ hb a3];exact a4,a5.move hj (ab _ hb a3),a6⟩
     rintro⟨h,o',l',C,ax,eb⟩;obtain⟨l2,r1,r2,_⟩:=R2.live h o' C;rw[ax]at r1;cases r1;rw[eb]at r2;rcases r2 with r2|r2
     ·have:w.heap.size<=W.b:=r2;omega
     ·exact a3 r2
    ·rw[if_neg (by rw[N];simp)];obtain⟨p1,p2⟩:=Ee a o.dst undef;refine hK _ _ (k+1) ag af ⟨hk,aw,au,by rw[hH];exact B.rel,B.up,by rw[p1];exact B.defers,by rw[p2];exact B.size,A.slot E.chk z ai B.size (dX.le_refl _) B.slot (by rw[C];exact .un),λi L R y G h3 h4 h5=> ?_,aa,B.inj⟩ ac;rw[Ab (aq i L R y G)]at h5;rw[hH];exact B.pend i L R y G h3 (by omega) h5
theorem wY.done (E:vM P tb w0 ih all n S HH gg) (I:wY w0 ρb n all (S 0) HH gg D a w t ρ pm) (b:∀i,i<all.length->D i=true):∃f,ρb.le f∧fP w0 f (HH all.length) w∧kZ f n (S all.length) a:=by
 obtain⟨d,e,k,_⟩:=I.adoptTo E (all.length - t) t all.length ρ pm (by have:=I.tm;omega) (Nat.le_refl _) λj q m p c=>by
  refine⟨?_,λ_=>b j p⟩
  cases B:mY q.op with
  |false=>rfl
  |true=>have:=(I.lou j q c B).1 (b j p);omega
 refine⟨d,k.up,k.rel,k.defers,k.size,λs g A=> ?_⟩
 have r:∀h,e h=none:=λh=>by
  cases C:e h with
  |none=>rfl
  |some l=>
   obtain⟨i,H,G,m,_,_,u,_⟩:=k.only h l C;have:=bG m;omega
 have c:Fl d e=d:=by
  funext h;unfold Fl;rw[r];cases d h<;>rfl
 have F:SlD all (S 0) gg D s g:=by
  rcases JK E.trc all.length (Nat.le_refl _) A with⟨i,o,m,p,v,u,x⟩|⟨m,p⟩
  ·refine .inl ⟨i,o,b i m,p,v,u,λj q y c z=> ?_⟩;rcases Nat.lt_or_ge i j with h|h
   ·exact absurd z (x j q h (bG c) c)
   ·exact h
  ·exact .inr ⟨λj q y c=>m j q (bG c) c,p⟩
 have:=k.slot s g F;rwa[c]at this
theorem Sy (E:vM P tb w0 ih all n S HH gg) {Q:Exit->Act->World->Prop} (hQ:∀c K M,ρb.le c->fP w0 c (HH all.length) M->kZ c n (S all.length) K->Q .normal K M):
  ∀(d:Nat) (L:List Nat) (b:Array Bool) (a:Act) (w:World) (t:Nat) (ρ pm:dX),L.length<=d->b.size=all.length->(∀i,i<all.length->b.getD i false=false->i∈L)->Cl all (λj=>b.getD j false)->
  wY w0 ρb n all (S 0) HH gg (λj=>b.getD j false) a w t ρ pm->Lg all (λj=>b.getD j false) t->Sx.wpAny P .any all.toArray Q d b a w:=by
 intro d
 induction d with
 | zero =>
  intro L b a w t ρ pm G J g m I h;have hL:L=[]:=List.eq_nil_of_length_eq_zero (by omega);subst hL;have f:∀i,i<all.length->b.getD i false=true:=λi r=>by
   cases u:b.getD i false with
   |true=>rfl
   |false=>have:=g i r u;simp at this
  refine⟨?_,?_⟩
  ·rw[List.eq_nil_iff_forall_not_mem];intro i r;obtain⟨l,o,s,_⟩:=mem_ready.1 r;have W:i<all.length:=by have:=(Array.getElem?_eq_some_iff.1 s).1;simpa using this
   have:=f i W;have hs:i<b.size:=by omega
   simp[hs]at this l;rw[l]at this;cases this
  ·obtain⟨c,l,N,O⟩:=I.done E f;exact hQ c a w l N O
 | succ d ihf =>
  intro L b a w t ρ pm G J g m I h;refine⟨λY=> ?_,λk hk=> ?_⟩
  ·have f:∀i,i<all.length->b.getD i false=true:=by
    intro i
    induction i using Nat.strongRecOn with
    | ind i ihi =>
     intro r;cases u:b.getD i false with
     |true=>rfl
     | false =>
      exfalso;have s:all[i]? = some all[i]:=List.getElem?_eq_getElem r;have H:i∈Region.ready .any all.toArray b:=by
       refine mem_ready.2 ⟨?_,all[i],by simp,λe R v=> ?_⟩
       ·have hs:i<b.size:=by omega
        simp[hs]at u ⊢;exact u
       ·have U:e.on∈tK all[i]:=List.mem_map.2 ⟨e,List.mem_filter.2 ⟨by simpa using R,v⟩,rfl⟩;have:=(E.chk.edge i _ s e.on U).1;exact ihi e.on this (by omega)
      rw[Y]at H;simp at H
   obtain⟨c,l,N,O⟩:=I.done E f;exact hQ c a w l N O
  ·obtain⟨l,o,X,q⟩:=mem_ready.1 hk;have s:all[k]? = some o:=by simpa using X
   have V:k<all.length:=bG s;have F:k<b.size:=by omega
   have x:b.getD k false=false:=by simp[F]at l ⊢;exact l
   have hr:OQ all (λj=>b.getD j false) k o:=by
    refine⟨s,x,λj v B=> ?_⟩
    obtain⟨_,e,R,hej⟩:=E.chk.trans k o s j v B;obtain⟨ed,T,rfl⟩:=List.mem_map.1 R;obtain⟨z,A⟩:=List.mem_filter.1 T;have hl:=q ed (by simpa using z) A;rcases hej with rfl|hej
    ·exact hl
    ·exact m _ _ hl hej B
   have y:(λj=>(b.setIfInBounds k true).getD j false)=ins (λj=>b.getD j false) k:=by
    funext j;by_cases e:j=k
    ·subst e;rw[AE];simp[F]
    ·rw[Ab e];exact getD_set_ne false (Ne.symm e)
   refine I.step E m h hr λK M t' c aa I' p=> ?_;refine ihf (L.erase k) _ K M t' c aa ?_ (by simp[J]) (λi r u=> ?_) ?_ (by rw[y];exact I') (by rw[y];exact p)
   ·have hm:=g k V x;rw[List.length_erase_of_mem hm];omega
   ·have e:i≠k:=λe=>by
     subst e;have:=congrFun y i;rw[AE]at this;rw[u]at this;cases this
    have:b.getD i false=false:=by
     have:=congrFun y i;rw[Ab e]at this;rw[<-this];exact u
    exact(List.mem_erase_of_ne e).2 (g i r this)
   ·rw[y];intro j k' B v C;by_cases e:j=k
    ·subst e;exact AD (hr.past k' v C)
    ·rw[Ab e]at B;exact AD (m j k' B v C)
theorem LC (hG:fI P tb) (e:∀w0:eN gs,r_ P w0 ih) (hm:P.follows .mixedOrders=true) {b:List Oper} {id:Nat} (f:b.all (GN n)=true) (N:chkF tb b (oS b)=true) {k:GS->RS} {s:GS} {p:MK} {ρ:dX} {a:Act} {w:World} {Q:Exit->Act->World->Prop} (F:kZ ρ n s.σ a) (R:fP w0 ρ s.H w) (h:(Ew tb ih b k b s=some p∧Eb b l_=true)∨evW tb ih b (oS b) k b 0 [] [] s=some p)
  (r:∀G m I L,k G=some p->ρ.le m->kZ m n G.σ I->fP w0 m G.H L->Q .normal I L):(Code.region id b.toArray true).wpr none P Q a w:=by
 have W:b.all jJ=true:=List.all_eq_true.2 λo U=>(tH (List.all_eq_true.1 f o U)).1;obtain⟨S,HH,gg,z,A,T,C,c⟩:∃S HH gg,S 0=s.σ∧HH 0=s.H∧Zo tb ih b b S HH gg∧(∀k y h v,b[k]? = some y->l_ y.op=true->YC (S k) y.op=some h->(HH k).ver h=some v->
   (∀j u,j<k->b[j]? = some u->eJ u.op=true->before (oS b) k j=false->(HH j).ver h=some v)∧(∀j u,k<j->b[j]? = some u->eJ u.op=true->before (oS b) j k=false->(HH (j+1)).ver h=some v))∧k ⟨S b.length,HH b.length⟩=some p:=by
  rcases h with⟨h,ho⟩|h
  ·obtain⟨S,HH,gg,z,A,T,c⟩:=Kt b s h;refine⟨S,HH,gg,z,A,T,λk y h v r K _ _=>⟨λj u O q x B=> ?_,λj u O q x B=> ?_⟩,c⟩
   ·rcases FN ho r q K x with d|d
    ·rw[d]at B;cases B
    ·have:=((Gw N).trans j u q k d (bG r)).1;omega
   ·rcases FN ho r q K x with d|d
    ·have:=((Gw N).trans k y r j d (bG q)).1;omega
    ·rw[d]at B;cases B
  ·obtain⟨S,HH,gg,z,A,T,V,c⟩:=H_ b 0 [] [] s h;exact⟨S,HH,gg,z,A,T,λk y h v r K hh hv=>by have:=V.lo k y h v r K hh hv;simpa using this,c⟩
 rw[<-z]at F;rw[<-A]at R;have E:vM P tb w0 ih b n S HH gg:=⟨hG,e,f,Gw N,T,C,KO hG (e w0) f T F R _ (Nat.le_refl _)⟩
 have J:∀j,(Array.replicate b.length false).getD j false=false:=λj=>by
  by_cases h:j<b.length<;>simp[h]
 refine DK W hm ?_;have Y:b.toArray.size=b.length:=by simp
 rw[Y];refine Sy (ρb:=ρ) E (λm I L h0 d M=>r ⟨S b.length,HH b.length⟩ m I L c h0 M d) b.length (List.range b.length) _ a _ 0 ρ (λ_=>none) (by simp) (by simp) (λi hi _=>List.mem_range.2 hi) (λj k' q=>by simp only[J]at q;cases q) ?_ (.inl Z);refine⟨Nat.zero_le _,λj o _ _=>by simp only[J];simp,λj o _ _ h=>absurd h (Nat.not_lt_zero j),R.ext' ((Below.refl _ _).drew),dX.le_refl _,F.defers,F.size,λG g hs=> ?_,λi o cs _ _ _ _ h5=>(by simp only[J]at h5;cases h5),λh l X=>(by cases X),λh h' l l' X=>(by cases X)⟩
 rcases hs with⟨i,o,d,_⟩|⟨_,M⟩
 ·simp only[J]at d;cases d
 ·exact(F.slot G g M).le FL
end
def Gk (c:TB) (n:Nat):Code->Bool
 | .skip | .exit _ | .ret=>true
 | .region _ ops dr=>ops.toList.all (GN n)&&(!dr||chkF c ops.toList (oS ops.toList))
 | .seq a b=>Gk c n a&&Gk c n b
 | .cond _ a b=>Gk c n a&&Gk c n b
 | .block _ b=>Gk c n b
 | .loop b=>Gk c n b
 |_=>false
section
variable {P:Program} {G:GP} {tb:TB} {Fs:FT} {gs:zL} {w0:eN gs}
def C_ (P:Program) (c:Code) (Q:Exit->Act->World->Prop) (a:Act) (w:World):Prop:=
 ∀(b:Frame) (k:List Item) (d:List Frame),b.roundOf=(FR none).round->(FR none).fn b.fn->(FR none).room (d.length+1+0)->
  ∃e f g,Q e f g∧ArrivesIn (Machine.fenced P (FR none)) P (lone (b.atR a (.code c :: .inLoop c::k)) d w) b k d e f g
theorem C_.loop {c:Code} {Q:Exit->Act->World->Prop} {a:Act} {w:World} (h:C_ P c Q a w):(Code.loop c).wpr none P Q a w:=by
 intro b k l f g i;obtain⟨e,j,n,m,d⟩:=h b k l f g i;exact⟨e,j,n,m,.of_steps (.one (fenced_calm g i Z) stepR_loop) d⟩
theorem C_.round {c:Code} {Q:Exit->Act->World->Prop} {a:Act} {w:World} (h:c.wpr none P (Exit.then (C_ P c Q) Q) a w):C_ P c Q a w:=by
 intro b k t p r s;obtain⟨e,f,g,m,d⟩:=h b (.inLoop c::k) t p r s;cases e with
 |normal=>
  obtain⟨o,n,q,j,i⟩:=m b k t p r s;exact⟨o,n,q,j,.of_steps (StepsIn.trans d (.one (fenced_calm r s Z) stepR_inLoop)) i⟩
 |exit id=>exact⟨_,f,g,m,.pass (x:= .inLoop c) Z (λ_ _=> .inl (by simp)) d⟩
 |goto l=>exact⟨_,f,g,m,.pass (x:= .inLoop c) Z (λ_ _=> .inl (by simp)) d⟩
 |ret=>exact⟨_,f,g,m,.pass (x:= .inLoop c) Z (λ_ _=> .inl (by simp)) d⟩
 |panic u=>exact⟨_,f,g,m,.pass (x:= .inLoop c) Z (λ_ _=> .inl (by simp)) d⟩
 |outgrown=>exact⟨_,f,g,m,.pass (x:= .inLoop c) Z (λ_ _=> .inl (by simp)) d⟩
noncomputable def Ia (a:Cx) (id:Nat) (s:GS):RS:=some ⟨.exit id,BY s.σ (lF (BC a.env id)),s.H⟩
structure TJ {gs:zL} (w0:eN gs) (tb:TB) (n:Nat) (cx:Cx) (k:GS->RS) (out:MK) (ρ:dX) (Q:Exit->Act->World->Prop):Prop where
 k:∀s' ρ' a' w',k s'=some out->ρ.le ρ'->kZ ρ' n s'.σ a'->fP w0 ρ' s'.H w'->Q .normal a' w'
 x:∀id s' ρ' a' w',Ia cx id s'=some out->ρ.le ρ'->kZ ρ' n s'.σ a'->fP w0 ρ' s'.H w'->Q (.exit id) a' w'
 r:∀s' ρ' a' w',PM tb cx s'=some out->ρ.le ρ'->kZ ρ' n s'.σ a'->fP w0 ρ' s'.H w'->Q .ret a' w'
def Gn (P:Program) {gs:zL} (w0:eN gs) (tb:TB) (l:LH):Prop:=∀b h j H d,l b h j H=some d->∀n k i a w Q,Gk tb n b=true->jT (lF (live (.loop b) 0 h)) j some=some k->kZ i n k a->fP w0 i H w->
 (∀id e c f g,Ia h id e=some d->i.le c->kZ c n e.σ f->fP w0 c e.H g->Q (.exit id) f g)->
 (∀e c f g,PM tb h e=some d->i.le c->kZ c n e.σ f->fP w0 c e.H g->Q .ret f g)->C_ P b Q a w
theorem Mb {b:Cx} {s:GS} {a:MK} (h:PM tb b s=some a):a.e = .ret:=by
 obtain⟨c,_,h⟩:=aF.1 (show ob (NR tb s b.res) _=some a from h);cases h;rfl
theorem Az {b:Cx} {id:Nat} {s:GS} {a:MK} (h:Ia b id s=some a):a.e = .exit id:=by cases h;rfl
theorem PL {b:List Nat} {s:GS} {a:MK} (h:FS b s=some a):a.e = .normal∧a.vs=BY s.σ b∧a.H=s.H:=by cases h;exact⟨rfl,rfl,rfl⟩
theorem Pt {n:Nat} {m:Cx} {j:List Nat} {k:GS->RS} {o b:MK} {l:dX} {Q:Exit->Act->World->Prop} (L:TJ w0 tb n m k b l Q) (h:jT j o.vs (λg=>k ⟨g,o.H⟩)=some b) {c:GS} {a:dX} {d:Act} {f:World}
  (r:o.vs=BY c.σ j) (q:o.H=c.H) (e:l.le a) (F:kZ a n c.σ d) (R:fP w0 a c.H f):Q .normal d f:=by
 obtain⟨g,i,p⟩:=qP h;rw[r]at i;exact L.k ⟨g,o.H⟩ a d f p e (Ii F i) (by rw[q];exact R)
theorem Cq {M:CH} {W:LH} (O:fI P tb) (V:P.follows .mixedOrders=true) (j:∀w0:eN gs,r_ P w0 M) (p:Gn P w0 tb W) {n:Nat}:∀(c:Code) (m:Nat) (f:Cx) (k:GS->RS) (s:GS) (d:MK) (q:dX) (a:Act) (w:World) (Q:Exit->Act->World->Prop),
  Gk tb n c=true->Yh tb M W c m f k s=some d->kZ q n s.σ a->fP w0 q s.H w->TJ w0 tb n f k d q Q->c.wpr none P Q a w
 | .skip,m,f,k,s,d,q,a,w,Q,_,h,F,R,L=>Ox (L.k s q a w h (dX.le_refl _) F R)
 | .region id ops dr, m, f, k, s, d, q, a, w, Q, ho, h, F, R, L => by
  have l:ops.toList.all (GN n)=true∧(!dr||chkF tb ops.toList (oS ops.toList))=true:=by simpa [Gk]using ho
  have ad:ops.toList.all jJ=true:=List.all_eq_true.2 λo ac=>(tH (List.all_eq_true.1 l.1 o ac)).1;have N:Bool.casesOn (motive:=λ_=>RS) (abq dr ops.toList) (Ew tb M ops.toList k ops.toList s) (evW tb M ops.toList (oS ops.toList) k ops.toList 0 [] [] s)=some d:=h;have e:ops=ops.toList.toArray:=by simp
  cases dr with
  |false=>
   rw[e];exact sT ad (FH O (j w0) ops.toList s q a w l.1 F R N L.k)
  | true =>
   rw[e];have hF:chkF tb ops.toList (oS ops.toList)=true:=by simpa using l.2
   have u:(Ew tb M ops.toList k ops.toList s=some d∧Eb ops.toList l_=true)∨evW tb M ops.toList (oS ops.toList) k ops.toList 0 [] [] s=some d:=by
    cases T:abq true ops.toList with
    |true=>rw[T]at N;exact .inr N
    |false=>
     rw[T]at N;have:(!Eb ops.toList l_)=false:=T;exact .inl ⟨N,by simpa using this⟩
   exact LC O j V l.1 hF F R u L.k
 | .seq x y,m,f,k,s,d,q,a,w,Q,ho,h,F,R,L=>by
  have l:Gk tb n x=true∧Gk tb n y=true:=by simpa [Gk]using ho
  refine RJ (Cq O V j p x (live y m f) f (Yh tb M W y m f k) s d q a w _ l.1 h F R ⟨λA t E I z g B C=> ?_,L.x,L.r⟩);exact Cq O V j p y m f k A d t E I Q l.2 z B C ⟨λs2 K X w2 J u=>L.k s2 K X w2 J (dX.le_trans g u),λid s2 K X w2 J u=>L.x id s2 K X w2 J (dX.le_trans g u),λs2 K X w2 J u=>L.r s2 K X w2 J (dX.le_trans g u)⟩
 | .cond x thn els, m, f, k, s, d, q, a, w, Q, ho, h, F, R, L => by
  have l:Gk tb n thn=true∧Gk tb n els=true:=by simpa [Gk]using ho
  obtain⟨v,hv,h⟩:=aF.1 (show ob (kD s.σ x) _=some d from h);obtain⟨b,U,h⟩:=aF.1 h;obtain⟨o,J,h⟩:=aF.1 (show ob _ (λo=>Ex.casesOn (motive:=λ_=>RS) o.e (jT (lF m) o.vs λσ=>k ⟨σ,o.H⟩) (λ_=>some o) (some o))=some d from h);have hx:=cA F hv;rw[Bz U]at hx;have L':TJ w0 tb n f (FS (lF m)) o q Q:=by
   refine⟨λA t E I z g B C=> ?_,λid A t E I z g B C=> ?_,λA t E I z g B C=> ?_⟩
   ·obtain⟨D,e2,e3⟩:=PL z;rw[D]at h;exact Pt L h e2 e3 g B C
   ·have D:=Az z;rw[D]at h;cases h;exact L.x id A t E I z g B C
   ·have D:=Mb z;rw[D]at h;cases h;exact L.r A t E I z g B C
  refine DJ hx.bool_inv (λab=> ?_) (λaa=> ?_)
  ·rw[ab]at J;exact Cq O V j p thn m f (FS (lF m)) s o q a w Q l.1 J F R L'
  ·rw[aa]at J;exact Cq O V j p els m f (FS (lF m)) s o q a w Q l.2 J F R L'
 | .block id b, m, f, k, s, d, q, a, w, Q, ho, h, F, R, L => by
  have l:Gk tb n b=true:=by simpa [Gk]using ho
  obtain⟨o2,u,h⟩:=aF.1 (show ob (nB id (Yh tb M W b m ⟨f.res,f.retm,(id,m)::f.env⟩ (FS (lF m)) s)) (λo=>Ex.casesOn (motive:=λ_=>RS) o.e (jT (lF m) o.vs λσ=>k ⟨σ,o.H⟩) (λ_=>some o) (some o))=some d from h);obtain⟨o,J,u⟩:=aF.1 (show ob (Yh tb M W b m ⟨f.res,f.retm,(id,m)::f.env⟩ (FS (lF m)) s) (λo=>Ex.casesOn (motive:=λ_=>RS) o.e (some o) (λi=>Bool.casesOn (motive:=λ_=>RS) (Nat.beq i id) (some o) (some ⟨.normal,o.vs,o.H⟩)) (some o))=some o2 from u);refine KX (Cq O V j p b m _ (FS (lF m)) s o q a w _ l J F R ⟨λA t E I z g B C=> ?_,λi A t E I z g B C=> ?_,λA t E I z g B C=> ?_⟩)
  ·obtain⟨D,e2,e3⟩:=PL z;rw[D]at u;cases u;rw[D]at h;exact Pt L h e2 e3 g B C
  ·have D:=Az z;rw[D]at u;by_cases hi:i=id
   ·subst hi;have U:Nat.beq i i=true:=by simp
    simp only[U]at u;cases u;show Exit.inBlock i Q (.exit i) E I;simp only[Exit.inBlock,if_true];have S:o=⟨.exit i,BY A.σ (lF (BC ((i,m)::f.env) i)),A.H⟩:=by cases z;rfl
    have he:BC ((i,m)::f.env) i=m:=by
     show(bif Nat.beq i i then m else BC f.env i)=m;rw[U];rfl
    rw[he]at S;exact Pt (o:=⟨.normal,o.vs,o.H⟩) L h (by rw[S]) (by rw[S]) g B C
   ·have U:Nat.beq i id=false:=mK hi;simp only[U]at u;cases u;rw[D]at h;cases h;show Exit.inBlock id Q (.exit i) E I;simp only[Exit.inBlock,if_neg hi];refine L.x i A t E I ?_ g B C;have he:BC ((id,m)::f.env) i=BC f.env i:=by
     show(bif Nat.beq id i then m else BC f.env i)=_;rw[mK (Ne.symm hi)];rfl
    rw[<-z];show Ia f i A=some ⟨.exit i,BY A.σ (lF (BC ((id,m)::f.env) i)),A.H⟩;rw[he];rfl
  ·have D:=Mb z;rw[D]at u;cases u;rw[D]at h;cases h;exact L.r A t E I z g B C
 | .loop b,m,f,k,s,d,q,a,w,Q,ho,h,F,R,L=>by
  have l:Gk tb n b=true:=by simpa [Gk]using ho
  have N:W b f (BY s.σ (lF (live (.loop b) 0 f))) s.H=some d:=h;have ae:=L_ s.σ (lF (live (.loop b) 0 f));obtain⟨σ,Y⟩:=ae;exact C_.loop (p b f _ s.H d N n σ q a w Q l Y (Ii F Y) R L.x L.r)
 | .exit id,m,f,k,s,d,q,a,w,Q,_,h,F,R,L=>Ow (L.x id s q a w h (dX.le_refl _) F R)
 | .ret,m,f,k,s,d,q,a,w,Q,_,h,F,R,L=>RI (L.r s q a w h (dX.le_refl _) F R)
 | .rangeFunc _ _ _ _,m,f,k,s,d,q,a,w,Q,ho,_,_,_,_=>by simp[Gk]at ho
 | .scope _,m,f,k,s,d,q,a,w,Q,ho,_,_,_,_=>by simp[Gk]at ho
 | .label _,m,f,k,s,d,q,a,w,Q,ho,_,_,_,_=>by simp[Gk]at ho
 | .goto _,m,f,k,s,d,q,a,w,Q,ho,_,_,_,_=>by simp[Gk]at ho
 | .refuse _,m,f,k,s,d,q,a,w,Q,ho,_,_,_,_=>by simp[Gk]at ho
theorem YT (j:fI P tb) {n:Nat} {s:GS} {f:dX} {a:Act} {w:World} (F:kZ f n s.σ a) (R:fP w0 f s.H w) {r:ResultVar} {g:GV} (h:abe tb s r=some g):∃v,Rl f g v∧(EC a.tmps r).run P w = .ok v w:=by
 cases r with
 |tmp t=>exact⟨_,F.slot t g h,by simp[EC,Act.eval]⟩
 |cell q T=>
  obtain⟨v,m,h⟩:=aF.1 (show ob (El s.σ q) _=some g from h);have d:=F.slot q v m;obtain⟨x,_,_,_,_,_,o,c⟩:=JL (P:=P) j R d h;have c:=c w Z;refine⟨x,o,?_⟩
  obtain⟨p,k,_⟩:=aF.1 (show ob v.asP _=some g from h);rw[Dg k]at d;obtain⟨l,u,e⟩:=d.ptr_inv;have i:a.tmps.getD q undef = .pointer (some ⟨l.b,l.off+p.2,none⟩):=e;rw[e]at c;simp only[Instr.loadAt,Instr.sureAddr]at c;simp only[EC,i,asAddr];simpa using c
theorem NS (f:fI P tb) {n:Nat} {s:GS} {e:dX} {a:Act} {w:World} (F:kZ e n s.σ a) (R:fP w0 e s.H w):∀{l:List ResultVar} {gs:List GV},NR tb s l=some gs->∃b,oQ e gs b∧(l.mapM (EC a.tmps)).run P w = .ok b w
 | [],gs,h=>by cases h;exact⟨[],.nil,by simp⟩
 |r::l,gs,h=>by
  obtain⟨g,m,h⟩:=aF.1 (show ob (abe tb s r) (λv=>ob (NR tb s l) λb=>some (v::b))=some gs from h);obtain⟨i,c,h⟩:=aF.1 h;cases h;obtain⟨v,o,j⟩:=YT (P:=P) f F R m;obtain⟨b,d,k⟩:=NS f F R c;exact⟨v::b,.cons o d,by simp[List.mapM_cons,j,k]⟩
theorem VT {b:dX} {gs:List GV} {a:List Value} (h:oQ b gs a):Rl b (SY gs) (if h:a.toArray.size=1 then a.toArray[0]else .tuple a.toArray):=by
 cases gs with
 |nil=>rw[h.of_nil];exact HS .nil
 | cons g gs =>
  obtain⟨v,a,rfl,c,d⟩:=h.of_cons;cases gs with
  |nil=>rw[d.of_nil];show Rl b g _;simpa using c
  |cons j gs=>
   obtain⟨k,i,rfl,e,f⟩:=d.of_cons;rw[dif_neg (by simp)];exact HS (.cons c (.cons e f))
theorem FU (j:fI P tb) {fn:Func} {c:Cx} (d:c.res=fn.results.toList) {n:Nat} {s:GS} {g:dX} {a:Act} {w:World} {b:MK} (F:kZ g n s.σ a) (R:fP w0 g s.H w) (h:PM tb c s=some b):b.H=s.H∧∃v,Rl g (SY b.vs) v∧(results fn a.tmps).run P w = .ok v w:=by
 obtain⟨gs,e,h⟩:=aF.1 (show ob (NR tb s c.res) _=some b from h);cases h;obtain⟨l,f,i⟩:=NS (P:=P) j F R e;rw[d]at i;refine⟨rfl,_,VT f,?_⟩
 rw[AM];have k:(fn.results.mapM (EC a.tmps)).run P w = .ok l.toArray w:=by
  rw[Array.mapM_eq_mapM_toList];simp[i]
 simp[k]
structure Qb (P:Program) (G:GP) (Fs:FT) {gs:zL} (w0:eN gs):Prop where
 tab:fI P G.tab
 mixed:P.follows .mixedOrders=true
 fns:∀{f fn},Fs f=some fn->P.funcs[f]? = some fn∧aQ P f∧(∀c,fn.body=some c->Gk G.tab fn.ntmps c=true)∧fn.params.size+fn.nfree<=fn.ntmps
 ext:∀{f us H g H'},G.ext f us H=some (g,H')->∀ρ w vs,fP w0 ρ H w->oQ ρ us vs->kB P w0 ρ f vs w g H'
 exn:∀{f us g},G.exn f us=some g->∀ρ w vs H,fP w0 ρ H w->oQ ρ us vs->kB P w0 ρ f vs w g H
 /-- the function that catches returns 0 and 0 if its argument returns;its two variables are new objects -/
 cat:∀{ρ:dX} {g us cs w H H' c1 c2},fP w0 ρ H w->(∀ρ' w',ρ.le ρ'->fP w0 ρ' ((H.new (.cells [yD])).new (.cells [yD])) w'->∃x,kB P w0 ρ' g (us++cs) w' x H')->H'.cells H.n=some [c1]->H'.cells (H.n+1)=some [c2]->
  kB P w0 ρ G.cat [.func (.func g) us.toArray cs.toArray] w (.tup [yD,yD]) ((((H'.set H.n (.cells [yD])).set (H.n+1) (.cells [yD])).del H.n).del (H.n+1))
def Tt (P:Program) {gs:zL} (w0:eN gs) (h:IH):Prop:=∀f d H a,h (.fn f) d H=some a->a.e = .ret->∀c w g,fP w0 c H w->oQ c d g->
 aQ P f∧Calls P f g.toArray w λe i=>∃v b,e = .returned v∧c.le b∧fP w0 b a.H i∧Rl b (SY a.vs) v
theorem Nh {d:IH} (h:Tt P w0 d):r_ P w0 (acX d):=λf i H g j m q w p R n=>by
 obtain⟨o,k,b⟩:=aF.1 (show ob (d (.fn f) i H) _=some (g,j)from m);cases c:o.e with
 |normal=>rw[c]at b;cases b
 |exit id=>rw[c]at b;cases b
 |ret=>
  rw[c]at b;cases b;obtain⟨l,a⟩:=h f i H o k c q w p R n;exact .inr ⟨l _ w,a⟩
theorem IP {B:IH} (j:Qb P G Fs w0) (h:Tt P w0 B):r_ P w0 (Dh G B):=λf b H g z a t w i R e=>by
 unfold Dh callQ at a;cases c:Nat.beq f G.cat with
 | false =>
  rw[c]at a;cases n:G.ext f b H with
  |some r=>
   simp only[n]at a;cases a;exact j.ext n t w i R e
  | none =>
   simp only[n]at a;cases s:G.exn f b with
   |some r=>
    simp only[s]at a;cases a;exact j.exn s t w i _ R e
   |none=>
    simp only[s]at a;exact Nh h f b H g z a t w i R e
 | true =>
  rw[c]at a;have c:=Nat.eq_of_beq_eq_true c;subst c;cases b with
  |nil=>cases a
  | cons u b =>
   cases b with
   |cons _ _=>cases a
   |nil=>
    obtain⟨p,F,a⟩:=aF.1 (show ob u.asF _=some (g,z)from a);rw[iU,iU]at a;obtain⟨x,J,a⟩:=aF.1 a;obtain⟨O,k,a⟩:=aF.1 a;obtain⟨Q,l,a⟩:=aF.1 a;obtain⟨o,a⟩:=bQ.1 a;obtain⟨q,a⟩:=bQ.1 a;rw[yI,yI,EK,EK]at a;cases a;obtain⟨M,rfl⟩:=List.length_eq_one_iff.1 (Nat.eq_of_beq_eq_true o);obtain⟨N,rfl⟩:=List.length_eq_one_iff.1 (Nat.eq_of_beq_eq_true q);obtain⟨v,i,rfl,A,E⟩:=e.of_cons;rw[E.of_nil];rw[Uj F]at A;obtain⟨K,D,rfl,I,m⟩:=A.fn_inv;exact j.cat R (λy L d C=>⟨x.1,Nh h p.1 _ _ x.1 x.2 J y L _ C ((I.le d).append (m.le d))⟩) k l
theorem aaE {x:IH} (p:∀w0:eN gs,Qb P G Fs w0) (B:∀w0:eN gs,Tt P w0 x) (l:Gn P w0 G.tab λb z=>x (.loop b z)) {f:Nat} {i:Func} {K:List GV} {H:GH} {d:MK} (T:Fs f=some i) (h:UP G.tab (Dh G x) (λb z=>x (.loop b z)) i K H=some d) (S:d.e = .ret) {u:dX} {w:World} {t:List Value} (R:fP w0 u H w) (I:oQ u K t):
  aQ P f∧Calls P f t.toArray w λe y=>∃v a,e = .returned v∧u.le a∧fP w0 a d.H y∧Rl a (SY d.vs) v:=by
 obtain⟨M,N,O,Q⟩:=(p w0).fns T;refine⟨N,?_⟩
 obtain⟨k,E,h⟩:=aF.1 (show ob i.body _=some d from h);obtain⟨L,m,h⟩:=qP h;rw[List.range_eq_range']at m;have s:=IE m;have U:t.length<=i.ntmps:=by rw[<-I.len,s];exact Q
 refine sW M E ?_;have F:kZ u i.ntmps L {tmps:=t.toArray++Array.replicate (i.ntmps - t.toArray.size) undef,defers:=[]}:=by
  refine Lm Z (by simp;omega) I (λj v q=> ?_) m;have C:=bG q;rw[Nat.zero_add,Array.getElem?_append_left (by simpa using C)];simpa using q
 refine Cq (p w0).tab (p w0).mixed (λw0=>IP (p w0) (B w0)) l k _ _ _ ⟨L,H⟩ d u _ w _ (O k E) h F R ⟨λJ a D y r c n o=> ?_,λid J a D y r c n o=> ?_,λJ a D y r c n o=> ?_⟩
 ·obtain⟨A,v,q,g⟩:=FU (fn:=i) (p w0).tab Z n o r;exact Sx.body_end (.inr Z) n.defers g ⟨v,a,rfl,c,by rw[A];exact o,q⟩
 ·have:=Az r;rw[S]at this;cases this
 ·obtain⟨A,v,q,g⟩:=FU (fn:=i) (p w0).tab Z n o r;exact Sx.body_end (.inl Z) n.defers g ⟨v,a,rfl,c,by rw[A];exact o,q⟩
theorem abg (B:∀w0:eN gs,Qb P G Fs w0):∀(c:Nat) (w0:eN gs),Tt P w0 (run G Fs c)∧Gn P w0 G.tab λb d=>run G Fs c (.loop b d):=by
 intro c
 induction c with
 |zero=>exact λw0=>⟨λf us H i h=>(by cases h),λb d K H i h=>(by cases h)⟩
 | succ c ih =>
  have z:∀w0:eN gs,Tt P w0 (run G Fs c):=λw0=>(ih w0).1;intro w0;have q:=(ih w0).2;refine⟨λf us H i h he V w K R hr=> ?_,λb d K H i h n O V a w Q T I F R U k=> ?_⟩
  ·obtain⟨fn,E,h⟩:=aF.1 (show ob (Fs f) _=some i from h);exact aaE B z q E h he R hr
  ·have D:jT (lF (live (.loop b) 0 d)) K (λO=>ob (Yh G.tab (Dh G (run G Fs c)) (λb d=>run G Fs c (.loop b d)) b (live (.loop b) 0 d) d (FS (lF (live (.loop b) 0 d))) ⟨O,H⟩) λo=>Ex.casesOn (motive:=λ_=>RS) o.e (run G Fs c (.loop b d) o.vs o.H) (λ_=>some o) (some o))=some i:=h;obtain⟨aa,l,D⟩:=qP D;rw[I]at l;cases l;obtain⟨o,Y,s⟩:=aF.1 D;refine C_.round (Cq (B w0).tab (B w0).mixed (λw0=>IP (B w0) (z w0)) q b _ d _ ⟨O,H⟩ o V a w _ T Y F R ⟨λt j x A p g u v=> ?_,λid t j x A p g u v=> ?_,λt j x A p g u v=> ?_⟩)
   ·obtain⟨y,W,X⟩:=PL p;rw[y,W,X]at s;obtain⟨S,m⟩:=L_ t.σ (lF (live (.loop b) 0 d));exact q b d _ t.H i s n S j x A Q T m (Ii u m) v (λid J r C L M N=>U id J r C L M (dX.le_trans g N)) (λJ r C L M N=>k J r C L M (dX.le_trans g N))
   ·have y:=Az p;rw[y]at s;cases s;exact U id t j x A p g u v
   ·have y:=Mb p;rw[y]at s;cases s;exact k t j x A p g u v
theorem FA (e:∀w0:eN gs,Qb P G Fs w0) {a f:Nat} {c:List GV} {H H':GH} {g:GV} (h:QE G Fs a f c H=some (g,H')) {b:dX} {w:World} {d:List Value} (R:fP w0 b H w) (i:oQ b c d):kB P w0 b f d w g H':=
 IP (e w0) (abg e a w0).1 f c H g H' h b w d R i
theorem fP.start (b:eN gs) (c:gs.env=[]):fP b (λ_=>none) H0 b.w:=⟨BM.refl _,λh o a=>(by cases a),λh g o k l j a=>(by cases a),λ_ _=>rfl,λh d=>absurd d (Nat.not_lt_zero h),λh v l f=>(by cases f),λi v e=>by rw[c]at e;simp at e⟩
end
end Go.Gx
namespace Go.Gx
open Go Go.Sx
noncomputable section
def oN (a:List GV) (H:GH):RS:=some ⟨.normal,a,H⟩
def oX (id:Nat) (a:List GV) (H:GH):RS:=some ⟨.exit id,a,H⟩
def oR (a:List GV) (H:GH):RS:=some ⟨.ret,a,H⟩
def jn (r:RS) (k:List GV->GH->RS):RS:=ob r λo=>Ex.casesOn (motive:=λ_=>RS) o.e (k o.vs o.H) (λ_=>some o) (some o)
def rG (v:GV) (b:Bool) (H:GH) (X:OR):OR:=GV.casesOn (motive_1:=λ_=>OR) v (λ_ _=>none) (λq=>Bool.casesOn (motive:=λ_=>OR) (QM q b) (some (.un,H)) X) (λ_ _=>none) (λ_ _=>none) none (λ_ _ _ _=>none) none (λ_=>none) (λ_ _ _=>none) none none (λ_=>none) (λ_=>none) (some (.un,H)) none (λ_=>none)
def U0 {R:Type} (a:List GV) (f:Option R):Option R:=List.casesOn (motive:=λ_=>Option R) a (f) λ_ _=>none
def U1 {R:Type} (b:List GV) (f:GV->Option R):Option R:=List.casesOn (motive:=λ_=>Option R) b none λa c=>List.casesOn (motive:=λ_=>Option R) c (f a) λ_ _=>none
def U2 {R:Type} (c:List GV) (f:GV->GV->Option R):Option R:=List.casesOn (motive:=λ_=>Option R) c none λa d=>List.casesOn (motive:=λ_=>Option R) d none λb e=>List.casesOn (motive:=λ_=>Option R) e (f a b) λ_ _=>none
def U3 {R:Type} (d:List GV) (f:GV->GV->GV->Option R):Option R:=List.casesOn (motive:=λ_=>Option R) d none λa e=>List.casesOn (motive:=λ_=>Option R) e none λb g=>List.casesOn (motive:=λ_=>Option R) g none λc h=>List.casesOn (motive:=λ_=>Option R) h (f a b c) λ_ _=>none
def U4 {R:Type} (e:List GV) (f:GV->GV->GV->GV->Option R):Option R:=List.casesOn (motive:=λ_=>Option R) e none λa g=>List.casesOn (motive:=λ_=>Option R) g none λb h=>List.casesOn (motive:=λ_=>Option R) h none λc i=>List.casesOn (motive:=λ_=>Option R) i none λd j=>List.casesOn (motive:=λ_=>Option R) j (f a b c d) λ_ _=>none
def U5 {R:Type} (g:List GV) (f:GV->GV->GV->GV->GV->Option R):Option R:=List.casesOn (motive:=λ_=>Option R) g none λa h=>List.casesOn (motive:=λ_=>Option R) h none λb i=>List.casesOn (motive:=λ_=>Option R) i none λc j=>List.casesOn (motive:=λ_=>Option R) j none λd k=>List.casesOn (motive:=λ_=>Option R) k none λe l=>List.casesOn (motive:=λ_=>Option R) l (f a b c d e) λ_ _=>none
def U6 {R:Type} (h:List GV) (f:GV->GV->GV->GV->GV->GV->Option R):Option R:=List.casesOn (motive:=λ_=>Option R) h none λa i=>List.casesOn (motive:=λ_=>Option R) i none λb j=>List.casesOn (motive:=λ_=>Option R) j none λc k=>List.casesOn (motive:=λ_=>Option R) k none λd l=>List.casesOn (motive:=λ_=>Option R) l none λe m=>List.casesOn (motive:=λ_=>Option R) m none λg n=>List.casesOn (motive:=λ_=>Option R) n (f a b c d e g) λ_ _=>none
def U7 {R:Type} (i:List GV) (f:GV->GV->GV->GV->GV->GV->GV->Option R):Option R:=List.casesOn (motive:=λ_=>Option R) i none λa j=>List.casesOn (motive:=λ_=>Option R) j none λb k=>List.casesOn (motive:=λ_=>Option R) k none λc l=>List.casesOn (motive:=λ_=>Option R) l none λd m=>List.casesOn (motive:=λ_=>Option R) m none λe n=>List.casesOn (motive:=λ_=>Option R) n none λg o=>List.casesOn (motive:=λ_=>Option R) o none λh p=>List.casesOn (motive:=λ_=>Option R) p (f a b c d e g h) λ_ _=>none
def U8 {R:Type} (j:List GV) (f:GV->GV->GV->GV->GV->GV->GV->GV->Option R):Option R:=List.casesOn (motive:=λ_=>Option R) j none λa k=>List.casesOn (motive:=λ_=>Option R) k none λb l=>List.casesOn (motive:=λ_=>Option R) l none λc m=>List.casesOn (motive:=λ_=>Option R) m none λd n=>List.casesOn (motive:=λ_=>Option R) n none λe o=>List.casesOn (motive:=λ_=>Option R) o none λg p=>List.casesOn (motive:=λ_=>Option R) p none λh q=>List.casesOn (motive:=λ_=>Option R) q none λi r=>List.casesOn (motive:=λ_=>Option R) r (f a b c d e g h i) λ_ _=>none
def U9 {R:Type} (k:List GV) (f:GV->GV->GV->GV->GV->GV->GV->GV->GV->Option R):Option R:=List.casesOn (motive:=λ_=>Option R) k none λa l=>List.casesOn (motive:=λ_=>Option R) l none λb m=>List.casesOn (motive:=λ_=>Option R) m none λc n=>List.casesOn (motive:=λ_=>Option R) n none λd o=>List.casesOn (motive:=λ_=>Option R) o none λe p=>List.casesOn (motive:=λ_=>Option R) p none λg q=>List.casesOn (motive:=λ_=>Option R) q none λh r=>List.casesOn (motive:=λ_=>Option R) r none λi s=>List.casesOn (motive:=λ_=>Option R) s none λj t=>List.casesOn (motive:=λ_=>Option R) t (f a b c d e g h i j) λ_ _=>none
def PP:pY->Code->Code
 | [],c=>c
 |0::p,.seq a _=>PP p a
 |1::p,.seq _ b=>PP p b
 |0::p,.cond _ a _=>PP p a
 |1::p,.cond _ _ b=>PP p b
 |0::p,.block _ b=>PP p b
 |0::p,.loop b=>PP p b
 |_,c=>c
def cI (a:Func) (p:pY):Code:=match a.body with
 |some c=>PP p c
 |none=> .skip
def iN (b:Func) (a:List (Nat×Nat)):Cx:=⟨b.results.toList,Ik b.results.toList,a⟩
abbrev fZ:=CH->QH->List GV->GH->RS
structure Fw where
 fn:Nat->Option (Func×fZ)
 lp:Nat->Option ((Code×Cx)×fZ)
def Fw.fns (T:Fw) (f:Nat):Option Func:=ob (T.fn f) λe=>some e.1
def Fw.loop (T:Fw) (a:LH):QH:=λi vs H=>ob (T.lp i) λe=>a e.1.1 e.1.2 vs H
def rr (T:Fw) (G:GP) (n:Nat):Bool->QH:=Nat.rec (motive:=λ_=>Bool->QH) (λ_ _ _ _=>none) (λ_ a b t c H=>Bool.casesOn (motive:=λ_=>RS) b (ob (T.fn t) λe=>e.2 (callQ G (a false)) (a true) c H) (ob (T.lp t) λe=>e.2 (callQ G (a false)) (a true) c H)) n
structure IB (T:Fw) (tb:TB):Prop where
 fn:∀{f e},T.fn f=some e->∀(c:CH) (lp:LH) us H,e.2 c (T.loop lp) us H=UP tb c lp e.1 us H
 lp:∀{i e},T.lp i=some e->∀(c:CH) (lp:LH) us H,e.2 c (T.loop lp) us H=evL tb c lp e.1.1 e.1.2 us H
theorem adF {T:Fw} {G:GP} (h:IB T G.tab):∀n,rr T G n false=(λf c H=>run G T.fns n (.fn f) c H)∧rr T G n true=T.loop (λb a=>run G T.fns n (.loop b a)):=by
 intro n
 induction n with
 |zero=>
  refine⟨rfl,?_⟩
  funext i vs H;show none=ob (T.lp i) λe=>none;cases T.lp i<;>rfl
 | succ n ih =>
  obtain⟨d,g⟩:=ih;constructor
  ·funext f c H;show ob (T.fn f) (λe=>e.2 (callQ G (rr T G n false)) (rr T G n true) c H)=ob (T.fns f) λk=>UP G.tab (Dh G (run G T.fns n)) (λb a=>run G T.fns n (.loop b a)) k c H;unfold Fw.fns;cases j:T.fn f with
   |none=>rfl
   |some e=>
    show e.2 (callQ G (rr T G n false)) (rr T G n true) c H=UP G.tab (Dh G (run G T.fns n)) (λb a=>run G T.fns n (.loop b a)) e.1 c H;rw[d,g];exact h.fn j _ _ c H
  ·funext i vs H;show ob (T.lp i) (λe=>e.2 (callQ G (rr T G n false)) (rr T G n true) vs H)=ob (T.lp i) λe=>run G T.fns (n+1) (.loop e.1.1 e.1.2) vs H;cases j:T.lp i with
   |none=>rfl
   |some e=>
    show e.2 (callQ G (rr T G n false)) (rr T G n true) vs H=evL G.tab (Dh G (run G T.fns n)) (λb a=>run G T.fns n (.loop b a)) e.1.1 e.1.2 vs H;rw[d,g];exact h.lp j _ _ vs H
def okF (a:TB) (fn:Func):Bool:=match fn.body with
 |some c=>Gk a fn.ntmps c&&Nat.ble (fn.params.size+fn.nfree) fn.ntmps
 |none=>false
theorem NJ {tb:TB} {fn:Func} (h:okF tb fn=true):(∀c,fn.body=some c->Gk tb fn.ntmps c=true)∧fn.params.size+fn.nfree<=fn.ntmps:=by
 unfold okF at h;cases a:fn.body with
 |none=>rw[a]at h;cases h
 |some c=>
  rw[a]at h;simp only[Bool.and_eq_true]at h;exact⟨λd b=>by cases b;exact h.1,by simpa using h.2⟩
def IQ (T:Fw) (G:GP) (b:Nat) (f:FuncId) (a:List GV) (H:GH):OR:=callQ G (rr T G b false) f a H
theorem FB {T:Fw} {G:GP} (h:IB T G.tab) (fuel:Nat) (f:FuncId) (a:List GV) (H:GH):IQ T G fuel f a H=QE G T.fns fuel f a H:=by
 unfold IQ QE Dh;rw[(adF h fuel).1]
end
end Go.Gx
section
set_option maxRecDepth 100000
namespace Go.Gx
open Go Go.Sx Go.Proofs
noncomputable section
abbrev y:=uM
def gB (f:Func) (c:CH) (_:QH) (a:List GV) (H:GH):RS:=UP y c (λ_ _ _ _=>none) f a H
def tM (f:Func) (i:Nat) (c:CH) (q:QH) (a:List GV) (H:GH):RS:=UP y c (λ_ _ b H=>q i b H) f a H
def gL (e:Code×Cx) (i:Nat) (c:CH) (q:QH) (a:List GV) (H:GH):RS:=evL y c (λ_ _ b H=>q i b H) e.1 e.2 a H
def gL1 (e:Code×Cx) (n i j:Nat) (c:CH) (q:QH) (d:List GV) (H:GH):RS:=evL y c (λ_ b a H=>bif Nat.beq b.env.length n then q i a H else q j a H) e.1 e.2 d H
def gD (e:Code×Cx) (i:Nat):(Code×Cx)×fZ:=(e,gL e i)
def gD1 (e:Code×Cx) (n i j:Nat):(Code×Cx)×fZ:=(e,gL1 e n i j)
def i (n:Nat):GV:= .int .i64 (.ofNat n)
def bC (q:Bool) (f t:RS):RS:=Bool.casesOn (motive:=λ_=>RS) q f t
def K (c:CH) (f:Nat) (a:List GV) (H:GH) (k:GV->GH->RS):RS:=dN (c f a H) k
def bn (a:BinOp) (T:Nat) (v u:GV) (k:GV->RS):RS:=ob (wM y a T v u) k
def ld (T:Nat) (v:GV) (H:GH) (k:GV->RS):RS:=ob (pZ y T v H) k
def fd (T n:Nat) (v:GV) (k:GV->RS):RS:=ob (BI y T n v) k
def pt (T n:Nat) (v:GV) (k:GV->RS):RS:=ob (WB y T n v) k
def ix (T:Nat) (v u:GV) (k:GV->RS):RS:=ob (PX y T v u) k
def ln (T:Nat) (v:GV) (k:GV->RS):RS:=ob (Kd y T v) k
def ex (n:Nat) (v:GV) (k:GV->RS):RS:=ob (abo n v) k
def bd (T:Nat) (l:List (Nat×GV)) (k:GV->RS):RS:=ob (PV y T l) k
theorem rN {a:Type} {f n:Nat} {x y:Option a} {e:a} {R:Prop} (b:x=some e->R) (c:y=some e->R):tN f n x y=some e->R:=by
 unfold tN;cases Nat.blt f n
 ·exact c
 ·exact b
theorem rL {c:Type} {f n:Nat} {x e:c} {R:Nat->c->Prop} (h:R n x):tL f n x=some e->R f e:=by
 intro a;unfold tL at a;cases b:Nat.beq f n with
 |false=>rw[b]at a;cases a
 |true=>rw[b]at a;cases a;rw[Nat.eq_of_beq_eq_true b];exact h
def abC (c:CH) (l:QH) (p:List GV) (H:GH):RS:=U1 p λg=>
 ln 9 g λm=>
 bn .gtr 3 m (i 16384) λn=>
 ob (GV.asB n) λk=>jn (bC k (oN [g] H) (oR [.snil,(i 0),(i 3)] H)) λe h=>U1 e λf=>K c 171 [f,(i 0)] h λo j=>
 jn (nB 0 (l 13 [f,.snil,o] j)) λa d=>U1 a λb=>oR [b,(i 0),(i 0)] d
def L13 (c:CH) (ql:QH) (us:List GV) (H:GH):RS:=U3 us λa b d=>jn (ln 9 a λO=>
 bn .lss 3 d O λP=>
 ob (GV.asB P) λL=>jn (bC L (oX 0 [b] H) (oN [a,b,d] H)) λs l=>U3 s λw e f=>jn (nB 1 (ln 123 e λQ=>
 bn .eql 3 Q (i 4096) λR=>
 ob (GV.asB R) λM=>jn (bC M (oN [w,e,f] l) (oR [.snil,f,(i 3)] l)) λt D=>U3 t λg x h=>K c 172 [g,h] D λp E=>
 ex 0 p λS=>
 ex 1 p λq=>
 dN (nM y 178 E) λr F=>
 dN (jU y 178 r S F) λab m=>
 bn .neq 36 q (i 0) λT=>
 ob (GV.asB T) λN=>jn (bC N (oN [g,x,r] m) (oR [.snil,h,q] m)) λu n=>U3 u λj z k=>ld 178 k n λU=>
 dN (rZ y 123 1 [(0,U)] n) λV G=>
 dN (PU y 123 123 z V G) λW o=>
 fd 178 2 k λX=>
 ld 3 X o λY=>
 K c 171 [j,Y] o λaa I=>
 oN [j,W,aa] I)) λv J=>U3 v λA B C=>oN [A,B,C] J) (ql 13)
def abD (c:CH) (T:QH) (us:List GV) (H:GH):RS:=U1 us λx1=>
 dN (Gg x1 H) λF P=>
 fd 42 1 F λt4=>
 ld 39 t4 P λt5=>
 ln 39 t5 λt6=>
 bn .eql 3 t6 (i 0) λz=>
 dN (rG z false P (ob (BI y 42 1 F) λg8=>some (g8,P))) λt9 b=>
 dN (rG z false b (ob (pZ y 39 t9 b) λG=>some (G,b))) λU j=>
 dN (rG z false j (ob (Kd y 39 U) λI=>some (I,j))) λV k=>
 dN (rG z false k (ob (wM y .gtr 3 V (i 6)) λJ=>some (J,k))) λW l=>
 ob (kY z (.bool true) W) λa=>
 dN (rG a false l (ob (BI y 42 2 F) λL=>some (L,l))) λX d=>
 dN (rG a false d (ob (pZ y 40 X d) λM=>some (M,d))) λY m=>
 dN (rG a false m (ob (Kd y 40 Y) λN=>some (N,m))) λaa n=>
 dN (rG a false n (ob (wM y .gtr 3 aa (i 12)) λO=>some (O,n))) λab o=>
 ob (kY a (.bool true) ab) λac=>
 ob (GV.asB ac) λR=>jn (bC R (oN [F] o) (oR [(i 3)] o)) λA p=>U1 A λe=>ld 42 e p λad=>
 K c 182 [ad] p λae q=>
 ob (OC .not ae) λaf=>
 ob (GV.asB af) λS=>jn (bC S (oN [e] q) (oR [(i 5)] q)) λB r=>U1 B λf=>fd 42 1 f λag=>
 ld 39 ag r λv=>
 ln 39 v λah=>
 jn (nB 0 (T 14 [f,v,ah,(i 0)] r)) λC s=>U1 C λg=>fd 42 2 g λai=>
 ld 40 ai s λw=>
 ln 40 w λaj=>
 jn (nB 2 (T 15 [g,w,aj,(i 0)] s)) λD t=>U1 D λh=>ld 42 h t λak=>
 K c 185 [ak] t λal u=>
 fd 42 2 h λam=>
 ld 40 am u λx=>
 ln 40 x λan=>
 jn (nB 4 (T 16 [al,x,an,(i 0)] u)) λE Q=>U0 E (oR [(i 0)] Q)
def L14 (c:CH) (O:QH) (Q:List GV) (H:GH):RS:=U4 Q λb q d e=>jn (bn .lss 3 e d λG=>
 ob (GV.asB G) λE=>jn (bC E (oX 0 [b] H) (oN [b,q,d,e] H)) λn h=>U4 n λr f s g=>jn (nB 1 (ix 39 f g λI=>
 ld 85 I h λJ=>
 dN (nM y 85 h) λm B=>
 dN (jU y 85 m J B) λP j=>
 ld 85 m j λL=>
 K c 183 [L] j λM k=>
 ob (OC .not M) λN=>
 ob (GV.asB N) λF=>jn (bC F (oN [r,f,s,g] k) (oR [(i 2)] k)) λo C=>U4 o λt u v w=>oN [t,u,v,w] C)) λp D=>U4 p λx z A a=>bn .add 3 a (i 1) λl=>
 oN [x,z,A,l] D) (O 14)
def L15 (c:CH) (S:QH) (T:List GV) (H:GH):RS:=U4 T λb p d e=>jn (bn .lss 3 e d λF=>
 ob (GV.asB F) λD=>jn (bC D (oX 2 [b] H) (oN [b,p,d,e] H)) λm j=>U4 m λf g q h=>jn (nB 3 (ix 40 g h λG=>
 ld 194 G j λI=>
 dN (nM y 194 j) λl A=>
 dN (jU y 194 l I A) λR a=>
 ld 194 l a λJ=>
 fd 42 1 f λL=>
 ld 39 L a λM=>
 ln 39 M λN=>
 K c 184 [J,N] a λO k=>
 ob (OC .not O) λP=>
 ob (GV.asB P) λE=>jn (bC E (oN [f,g,q,h] k) (oR [(i 7)] k)) λn B=>U4 n λr s t u=>oN [r,s,t,u] B)) λo C=>U4 o λv w x z=>bn .add 3 z (i 1) λQ=>
 oN [v,w,x,Q] C) (S 15)
def L16 (c:CH) (P:QH) (Q:List GV) (H:GH):RS:=U4 Q λo p a b=>jn (bn .lss 3 b a λF=>
 ob (GV.asB F) λD=>jn (bC D (oX 4 [] H) (oN [o,p,a,b] H)) λl g=>U4 l λd e q f=>jn (nB 5 (ix 40 e f λG=>
 ld 194 G g λI=>
 dN (nM y 194 g) λk A=>
 dN (jU y 194 k I A) λO h=>
 ld 194 k h λJ=>
 K c 186 [J,d] h λL j=>
 ob (OC .not L) λM=>
 ob (GV.asB M) λE=>jn (bC E (oN [d,e,q,f] j) (oR [(i 6)] j)) λm B=>U4 m λr s t u=>oN [r,s,t,u] B)) λn C=>U4 n λv w x z=>bn .add 3 z (i 1) λN=>
 oN [v,w,x,N] C) (P 16)
def abE (c:CH) (q:QH) (z:List GV) (H:GH):RS:=U2 z λA B=>
 dN (Gg A H) λr p=>
 fd 27 1 r λw=>
 ld 25 w p λx=>
 ln 25 x λs=>
 dN (Wx y 22 s s p) λt u=>
 ln 22 t λm=>
 jn (nB 0 (q 18 [B,r,t,m,(i 0)] u)) λd h=>U3 d λa f b=>ix 22 b a λn=>
 dN (jU y 3 n (i 0) h) λv j=>
 dN (rZ y 22 1 [(0,a)] j) λo k=>
 jn (nB 2 (q 19 [f,b,o] k)) λe l=>U1 e λg=>oR [g] l
def L18 (c:CH) (B:QH) (D:List GV) (H:GH):RS:=U5 D λa b d e f=>jn (bn .lss 3 f e λx=>
 ob (GV.asB x) λw=>jn (bC w (oX 0 [a,b,d] H) (oN [a,b,d,e,f] H)) λj t=>U5 j λl m g n h=>jn (nB 1 (ix 22 g h λz=>
 dN (jU y 3 z (.int .i64 (.negSucc 0)) t) λC u=>
 oN [l,m,g,n,h] u)) λk v=>U5 k λo p q r s=>bn .add 3 s (i 1) λA=>
 oN [o,p,q,r,A] v) (B 18)
def L19 (c:CH) (G:QH) (I:List GV) (H:GH):RS:=U3 I λm b d=>jn (ln 22 d λx=>
 bn .gtr 3 x (i 0) λz=>
 ob (GV.asB z) λw=>jn (bC w (oX 2 [b] H) (oN [m,b,d] H)) λj a=>U3 j λe n f=>jn (nB 3 (ix 22 f (i 0) λA=>
 ld 3 A a λg=>
 ob (yX y 22 f (some (i 1)) none a) λB=>
 fd 27 1 e λC=>
 ld 25 C a λD=>
 ix 25 D g λE=>
 ld 70 E a λh=>
 ln 70 h λF=>
 jn (nB 4 (G 20 [e,n,B,g,h,F,(i 0)] a)) λk u=>U3 k λo p q=>oN [o,p,q] u)) λl v=>U3 l λr s t=>oN [r,s,t] v) (G 19)
def L20 (c:CH) (ql:QH) (us:List GV) (H:GH):RS:=U7 us λA B C ah ai D E=>jn (bn .lss 3 E D λal=>
 ob (GV.asB al) λak=>jn (bC ak (oX 4 [A,B,C] H) (oN [A,B,C,ah,ai,D,E] H)) λag N=>U7 ag λF b G f g I h=>jn (nB 5 (ix 70 g h λam=>
 ld 97 am N λan=>
 dN (nM y 97 N) λd aj=>
 dN (jU y 97 d an aj) λao a=>
 fd 97 0 d λP=>
 ld 3 P a λQ=>
 ix 22 b Q λR=>
 ld 3 R a λS=>
 bn .lss 3 S (i 0) λT=>
 ob (GV.asB T) λO=>jn (bC O (oN [F,b,G,f,g,I,h] a) (fd 97 0 d λU=>
 ld 3 U a λV=>
 ix 22 b f λW=>
 ld 3 W a λX=>
 bn .add 3 X (i 1) λY=>
 ix 22 b V λaa=>
 dN (jU y 3 aa Y a) λap e=>
 fd 97 0 d λab=>
 ld 3 ab e λac=>
 dN (rZ y 22 1 [(0,ac)] e) λad J=>
 dN (PU y 22 22 G ad J) λae K=>
 oN [F,b,ae,f,g,I,h] K)) λj L=>U7 j λl m n o p q r=>oN [l,m,n,o,p,q,r] L)) λk M=>U7 k λs t u v w x z=>bn .add 3 z (i 1) λaf=>
 oN [s,t,u,v,w,x,af] M) (ql 20)
def abF (c:CH) (e:QH) (f:List GV) (H:GH):RS:=U2 f λg h=>
 jn (nB 0 (e 27 [g,h] H)) λa d=>U1 a λb=>oR [b] d
def L27 (c:CH) (ql:QH) (us:List GV) (H:GH):RS:=U2 us λa6 R=>jn (ln 9 a6 λt8=>
 bn .lss 3 R t8 λt9=>
 ob (GV.asB t9) λaa=>jn (bC aa (oX 0 [R] H) (oN [a6,R] H)) λm e=>U2 m λb d=>jn (nB 1 (ob (Wq y 9 b d) λa=>
 jn (nB 2 (bn .eql 5 a (.int .u8 (.ofNat 32)) λj=>
 ob (GV.asB j) λab=>jn (bC ab (bn .eql 5 a (.int .u8 (.ofNat 9)) λk=>
 ob (GV.asB k) λac=>jn (bC ac (bn .eql 5 a (.int .u8 (.ofNat 10)) λl=>
 ob (GV.asB l) λad=>jn (bC ad (bn .eql 5 a (.int .u8 (.ofNat 13)) λag=>
 oN [b,d,a,ag] e) (oN [b,d,a,l] e)) λn S=>U4 n λv w x z=>oN [v,w,x,z] S) (oN [b,d,a,k] e)) λo T=>U4 o λA B C D=>oN [A,B,C,D] T) (oN [b,d,a,j] e)) λp g=>U4 p λh f E F=>ob (GV.asB F) λae=>jn (bC ae (bn .eql 5 E (.int .u8 (.ofNat 35)) λai=>
 ob (GV.asB ai) λaf=>jn (bC af (oR [f] g) (jn (nB 3 (ql 28 [h,f] g)) λq U=>U2 q λG I=>oN [G,I] U)) λr V=>U2 r λJ K=>oN [J,K] V) (bn .add 3 f (i 1) λah=>
 oN [h,ah] g)) λs W=>U2 s λL M=>oN [L,M] W)) λt X=>U2 t λN O=>oN [N,O] X)) λu Y=>U2 u λP Q=>oN [P,Q] Y) (ql 27)
def L28 (c:CH) (C:QH) (D:List GV) (H:GH):RS:=U2 D λb d=>jn (ln 9 b λu=>
 bn .lss 3 d u λa=>
 dN (rG a true H (some (b,H))) λv e=>
 dN (rG a true e (some (d,e))) λw f=>
 dN (rG a true f (ob (Wq y 9 v w) λp=>some (p,f))) λx g=>
 dN (rG a true g (ob (wM y .neq 5 x (.int .u8 (.ofNat 10))) λq=>some (q,g))) λz h=>
 ob (kY a z (.bool false)) λA=>
 ob (GV.asB A) λt=>jn (bC t (oX 3 [b,d] h) (oN [b,d] h)) λj r=>U2 j λl m=>jn (nB 4 (bn .add 3 m (i 1) λB=>
 oN [l,B] r)) λk s=>U2 k λn o=>oN [n,o] s) (C 28)
def abG (c:CH) (ql:QH) (us:List GV) (H:GH):RS:=U2 us λx1 x2=>
 dN (Gg x1 H) λO h4=>
 dN (Gg x2 h4) λf h6=>
 dN (nM y 178 h6) λm h8=>
 ld 9 O h8 λt9=>
 ld 3 f h8 λaE=>
 ob (Wq y 9 t9 aE) λM=>
 jn (nB 0 (K c 230 [M] h8 λaF t=>
 ob (GV.asB aF) λau=>jn (bC au (K c 232 [M] t λaM x=>
 ob (GV.asB aM) λaw=>jn (bC aw (oN [O,f,m] x) (ob (GV.asF (.fn 229 [] [f,O])) λl=>dN (c l.1 (l.2.1++[(.fn 232 [] [])]++l.2.2) x) λP a=>
 ld 9 O a λaN=>
 ld 3 f a λaO=>
 ob (yX y 9 aN (some aO) (some P) a) λaP=>
 K c 233 [aP] a λQ z=>
 ex 0 Q λaQ=>
 ex 1 Q λaR=>
 ob (OC .not aR) λaS=>
 ob (GV.asB aS) λax=>jn (bC ax (oN [f,m,P,aQ] z) (bd 178 [] λaT=>
 dN (jU y 178 m aT z) λa5 A=>
 ob (ob (pZ y 178 m A) λaB=>some [aB,(i 2)]) λV=>oR V A)) λW B=>U4 W λag q ah ai=>ld 3 ag B λaU=>
 bd 178 [(0,(i 2)),(1,aU),(2,ah),(3,ai)] λaV=>
 dN (jU y 178 q aV B) λa6 C=>
 ob (ob (pZ y 178 q C) λaC=>some [aC,(i 0)]) λX=>oR X C)) λY aq=>U3 Y λaj ak al=>oN [aj,ak,al] aq) (ob (GV.asF (.fn 229 [] [f,O])) λk=>dN (c k.1 (k.2.1++[(.fn 231 [] [])]++k.2.2) t) λN h=>
 ld 3 f h λaG=>
 bn .sub 3 N aG λaH=>
 bn .gtr 3 aH (i 24) λaI=>
 ob (GV.asB aI) λav=>jn (bC av (oN [f,m,N] h) (bd 178 [] λaJ=>
 dN (jU y 178 m aJ h) λa3 u=>
 ob (ob (pZ y 178 m u) λaz=>some [az,(i 5)]) λS=>oR S u)) λT v=>U3 T λae p af=>ld 3 ae v λaK=>
 bd 178 [(0,(i 1)),(1,aK),(2,af)] λaL=>
 dN (jU y 178 p aL v) λa4 w=>
 ob (ob (pZ y 178 p w) λaA=>some [aA,(i 0)]) λU=>oR U w)) λaa ar=>U3 aa λam an ao=>oN [am,an,ao] ar)) λab b=>U3 ab λap r g=>ld 9 ap b λaW=>
 ld 3 r b λaX=>
 ob (yX y 9 aW (some aX) none b) λaY=>
 K c 234 [aY] b λR D=>
 bn .eql 3 R (i 0) λa0=>
 ob (GV.asB a0) λay=>jn (bC ay (oN [r,g,R] D) (bd 178 [] λa1=>
 dN (jU y 178 g a1 D) λa7 E=>
 ob (ob (pZ y 178 g E) λaD=>some [aD,(i 4)]) λac=>oR ac E)) λad j=>U3 ad λs d o=>ld 3 s j λG=>
 ld 3 s j λI=>
 bn .add 3 I o λJ=>
 bd 178 [(0,(i 3)),(1,G),(2,J)] λL=>
 dN (jU y 178 d L j) λa2 e=>
 ob (ob (pZ y 178 d e) λF=>some [F,(i 0)]) λn=>oR n e
def abH (c:CH) (w:QH) (D:List GV) (H:GH):RS:=U1 D λE=>
 dN (Gg E H) λx u=>
 fd 42 0 x λz=>
 ld 9 z u λA=>
 K c 238 [A] u λB v=>
 ob (OC .not B) λC=>
 ob (GV.asB C) λy=>jn (bC y (oN [x] v) (oR [(.bool false)] v)) λg l=>U1 g λa=>dN (Cc l) λo b=>
 fd 42 1 a λp=>
 ld 39 p b λe=>
 ln 39 e λq=>
 jn (nB 0 (w 32 [a,o,e,q,(i 0)] b)) λh m=>U1 h λk=>dN (Cc m) λr d=>
 fd 42 2 k λs=>
 ld 40 s d λf=>
 ln 40 f λt=>
 jn (nB 2 (w 33 [r,f,t,(i 0)] d)) λj n=>U0 j (oR [(.bool true)] n)
def L32 (c:CH) (ql:QH) (us:List GV) (H:GH):RS:=U5 us λf w x g h=>jn (bn .lss 3 h g λV=>
 ob (GV.asB V) λT=>jn (bC T (oX 0 [f] H) (oN [f,w,x,g,h] H)) λt n=>U5 t λz j k A l=>jn (nB 1 (ix 39 k l λW=>
 ld 85 W n λX=>
 dN (nM y 85 n) λb Q=>
 dN (jU y 85 b X Q) λak o=>
 fd 85 0 b λY=>
 ld 9 Y o λaa=>
 K c 238 [aa] o λab p=>
 ob (OC .not ab) λa=>
 dN (rG a false p (some (j,p))) λac q=>
 dN (rG a false q (ob (BI y 85 0 b) λN=>some (N,q))) λad d=>
 dN (rG a false d (ob (pZ y 9 ad d) λO=>some (O,d))) λae e=>
 dN (rG a false e (ob (RD y 232 false ac ae e) λP=>some (P,e))) λaf r=>
 ob (kY a (.bool true) af) λag=>
 ob (GV.asB ag) λU=>jn (bC U (oN [z,j,b,k,A,l] r) (oR [(.bool false)] r)) λu s=>U6 u λB m C D E F=>fd 85 0 C λah=>
 ld 9 ah s λai=>
 dN (Mt y 232 m ai (.bool true) s) λal R=>
 oN [B,m,D,E,F] R)) λv S=>U5 v λG I J L M=>bn .add 3 M (i 1) λaj=>
 oN [G,I,J,L,aj] S) (ql 32)
def L33 (c:CH) (ql:QH) (us:List GV) (H:GH):RS:=U4 us λY aa w x=>jn (bn .lss 3 x w λad=>
 ob (GV.asB ad) λac=>jn (bC ac (oX 2 [] H) (oN [Y,aa,w,x] H)) λX J=>U4 X λz A ab B=>jn (nB 3 (ix 40 A B λae=>
 ld 194 ae J λaf=>
 dN (nM y 194 J) λb F=>
 dN (jU y 194 b af F) λag g=>
 fd 194 0 b λM=>
 ld 9 M g λN=>
 K c 238 [N] g λO h=>
 ob (OC .not O) λa=>
 dN (rG a false h (some (z,h))) λP j=>
 dN (rG a false j (ob (BI y 194 0 b) λC=>some (C,j))) λQ d=>
 dN (rG a false d (ob (pZ y 9 Q d) λD=>some (D,d))) λR e=>
 dN (rG a false e (ob (RD y 232 false P R e) λE=>some (E,e))) λS k=>
 ob (kY a (.bool true) S) λT=>
 ob (GV.asB T) λL=>jn (bC L (oN [z,b,A,ab,B] k) (oR [(.bool false)] k)) λm l=>U5 m λf o p q r=>fd 194 0 o λU=>
 ld 9 U l λV=>
 dN (Mt y 232 f V (.bool true) l) λah G=>
 oN [f,p,q,r] G)) λn I=>U4 n λs t u v=>bn .add 3 v (i 1) λW=>
 oN [s,t,u,W] I) (ql 33)
def abI (c:CH) (e:QH) (g:List GV) (H:GH):RS:=U3 g λh i j=>
 ld 3 i H λf=>
 jn (nB 0 (e 44 [h,j,f] H)) λa d=>U1 a λb=>oR [b] d
def L44 (c:CH) (K:QH) (L:List GV) (H:GH):RS:=U3 L λJ s b=>jn (ld 9 s H λz=>
 ln 9 z λA=>
 bn .lss 3 b A λa=>
 dN (rG a true H (some (J,H))) λB d=>
 dN (rG a true d (ob (pZ y 9 s d) λt=>some (t,d))) λC f=>
 dN (rG a true f (some (b,f))) λD g=>
 dN (rG a true g (ob (Wq y 9 C D) λu=>some (u,g))) λE h=>
 dN (rG a true h (ob (GV.asF B) λe=>dN (c e.1 (e.2.1++[E]++e.2.2) h) EA)) λF j=>
 ob (kY a F (.bool false)) λG=>
 ob (GV.asB G) λx=>jn (bC x (oX 0 [b] j) (oN [J,s,b] j)) λk v=>U3 k λm n o=>jn (nB 1 (bn .add 3 o (i 1) λI=>
 oN [m,n,I] v)) λl w=>U3 l λp q r=>oN [p,q,r] w) (K 44)
def abJ (c:CH) (B:QH) (A:List GV) (H:GH):RS:=U1 A λi=>
 bn .geq 5 i (.int .u8 (.ofNat 97)) λq=>
 dN (rG q true H (some (i,H))) λw t=>
 dN (rG q true t (ob (wM y .leq 5 w (.int .u8 (.ofNat 122))) λv=>some (v,t))) λx u=>
 ob (kY q x (.bool false)) λh=>
 dN (rG h false u (some (i,u))) λz b=>
 dN (rG h false b (ob (wM y .geq 5 z (.int .u8 (.ofNat 65))) λj=>some (j,b))) λn d=>
 dN (rG h false d (some (n,d))) λa e=>
 dN (rG a true e (some (i,e))) λo f=>
 dN (rG a true f (ob (wM y .leq 5 o (.int .u8 (.ofNat 90))) λk=>some (k,f))) λp g=>
 dN (rG h false g (ob (kY a p (.bool false)) λl=>some (l,g))) λr m=>
 ob (kY h (.bool true) r) λs=>
 oR [s] m
def abK (c:CH) (q:QH) (p:List GV) (H:GH):RS:=U1 p λi=>
 K c 230 [i] H λg j=>
 dN (rG g false j (some (i,j))) λm k=>
 dN (rG g false k (dN (c 232 [m] k) EA)) λn l=>
 ob (kY g (.bool true) n) λh=>
 dN (rG h false l (some (i,l))) λo a=>
 dN (rG h false a (ob (wM y .eql 5 o (.int .u8 (.ofNat 95))) λb=>some (b,a))) λe d=>
 ob (kY h (.bool true) e) λf=>
 oR [f] d
def abL (c:CH) (k:QH) (j:List GV) (H:GH):RS:=U1 j λd=>
 bn .geq 5 d (.int .u8 (.ofNat 48)) λa=>
 dN (rG a true H (some (d,H))) λg b=>
 dN (rG a true b (ob (wM y .leq 5 g (.int .u8 (.ofNat 57))) λe=>some (e,b))) λh f=>
 ob (kY a h (.bool false)) λi=>
 oR [i] f
def abM (c:CH) (t:QH) (x:List GV) (H:GH):RS:=U1 x λo=>
 ob (Wq y 9 o (i 0)) λu=>
 bn .eql 5 u (.int .u8 (.ofNat 48)) λf=>
 dN (rG f true H (some (o,H))) λv p=>
 dN (rG f true p (ob (Kd y 9 v) λr=>some (r,p))) λw q=>
 dN (rG f true q (ob (wM y .gtr 3 w (i 1)) λs=>some (s,q))) λl b=>
 ob (kY f l (.bool false)) λm=>
 ob (GV.asB m) λk=>jn (bC k (oN [o] b) (oR [(i 0),(.bool false)] b)) λd h=>U1 d λa=>ln 9 a λn=>
 jn (nB 0 (t 45 [a,(i 0),n,(i 0)] h)) λe j=>U1 e λg=>oR [g,(.bool true)] j
def L45 (c:CH) (K:QH) (L:List GV) (H:GH):RS:=U4 L λm a b d=>jn (bn .lss 3 d b λC=>
 ob (GV.asB C) λA=>jn (bC A (oX 0 [a] H) (oN [m,a,b,d] H)) λj g=>U4 j λe n o f=>jn (nB 1 (bn .mul 3 (i 10) n λD=>
 ob (Wq y 9 e f) λE=>
 bn .sub 5 E (.int .u8 (.ofNat 48)) λF=>
 ob (Wu y 5 3 F) λG=>
 bn .add 3 D G λh=>
 bn .gtr 3 h (i 1073741824) λI=>
 ob (GV.asB I) λB=>jn (bC B (oN [e,h,o,f] g) (oR [(i 0),(.bool false)] g)) λk x=>U4 k λp q r s=>oN [p,q,r,s] x)) λl z=>U4 l λt u v w=>bn .add 3 w (i 1) λJ=>
 oN [t,u,v,J] z) (K 45)
def abN (c:CH) (m:QH) (q:List GV) (H:GH):RS:=U1 q λr=>
 dN (rZ y 127 9 [(0,(.str 11822 2)),(1,(.str 15917 2)),(2,(.str 15674 2)),(3,(.str 9766 2)),(4,(.str 31868 2)),(5,(.str 15677 2)),(6,(.str 15649 2)),(7,(.str 15676 2)),(8,(.str 15678 2))] H) λh k=>
 ln 127 h λn=>
 jn (nB 0 (m 46 [r,h,n,(i 0)] k)) λg l=>U1 g λj=>ob (Wq y 9 j (i 0)) λo=>
 K c 253 [(.str 172099982263598878148345807877454395 15),o] l λp a=>
 bn .geq 3 p (i 0) λf=>
 ob (GV.asB f) λe=>jn (bC e (oN [] a) (oR [(i 1)] a)) λb d=>U0 b (oR [(i 0)] d)
def L46 (c:CH) (G:QH) (I:List GV) (H:GH):RS:=U4 I λa n b d=>jn (bn .lss 3 d b λB=>
 ob (GV.asB B) λz=>jn (bC z (oX 0 [a] H) (oN [a,n,b,d] H)) λk h=>U4 k λe f o g=>jn (nB 1 (ix 127 f g λC=>
 ld 9 C h λD=>
 K c 252 [e,D] h λE j=>
 ob (GV.asB E) λA=>jn (bC A (oN [e,f,o,g] j) (oR [(i 2)] j)) λl x=>U4 l λp q r s=>oN [p,q,r,s] x)) λm y=>U4 m λt u v w=>bn .add 3 w (i 1) λF=>
 oN [t,u,v,F] y) (G 46)
def abO (c:CH) (n:QH) (l:List GV) (H:GH):RS:=U2 l λe m=>
 K c 236 [e] H λj d=>
 bn .neq 9 j m λk=>
 ob (GV.asB k) λh=>jn (bC h (oN [e] d) (oR [(.bool false)] d)) λb g=>U1 b λf=>K c 239 [f] g λi a=>
 oR [(.bool true)] a
def abP (c:CH) (E:QH) (D:List GV) (H:GH):RS:=U1 D λv=>
 ob (GV.nilck v) λx=>
 fd 129 1 x λz=>
 ld 123 z H λA=>
 ln 123 A λB=>
 bn .eql 3 B (i 0) λC=>
 ob (GV.asB C) λw=>jn (bC w (oN [v] H) (oR [(.str 0 0)] H)) λu b=>U1 u λa=>ob (GV.nilck a) λd=>
 fd 129 0 d λe=>
 ld 9 e b λf=>
 ob (GV.nilck a) λg=>
 fd 129 1 g λh=>
 ld 123 h b λj=>
 ix 123 j (i 0) λk=>
 fd 178 1 k λl=>
 ld 3 l b λm=>
 ob (GV.nilck a) λn=>
 fd 129 1 n λo=>
 ld 123 o b λp=>
 ix 123 p (i 0) λq=>
 fd 178 2 q λr=>
 ld 3 r b λs=>
 ob (yX y 9 f (some m) (some s) b) λt=>
 oR [t] b
def abQ (c:CH) (t:QH) (s:List GV) (H:GH):RS:=U1 s λl=>
 ob (GV.nilck l) λn=>
 fd 129 1 n λo=>
 ld 123 o H λp=>
 ln 123 p λq=>
 bn .eql 3 q (i 0) λr=>
 ob (GV.asB r) λm=>jn (bC m (oN [l] H) (oR [(i 0)] H)) λk b=>U1 k λa=>ob (GV.nilck a) λd=>
 fd 129 1 d λe=>
 ld 123 e b λf=>
 ix 123 f (i 0) λg=>
 fd 178 0 g λh=>
 ld 3 h b λj=>
 oR [j] b
def abR (c:CH) (J:QH) (O:List GV) (H:GH):RS:=U1 O λm=>
 ln 9 m λL=>
 bn .lss 3 L (i 1) λl=>
 dN (rG l false H (some (m,H))) λM E=>
 dN (rG l false E (ob (Kd y 9 M) λG=>some (G,E))) λN F=>
 dN (rG l false F (ob (wM y .gtr 3 N (i 24)) λI=>some (I,F))) λu d=>
 ob (kY l (.bool true) u) λa=>
 dN (rG a false d (some (m,d))) λv e=>
 dN (rG a false e (ob (Wq y 9 v (i 0)) λo=>some (o,e))) λw f=>
 dN (rG a false f (dN (c 230 [w] f) EA)) λx g=>
 dN (rG a false g (ob (OC .not x) λp=>some (p,g))) λz h=>
 ob (kY a (.bool true) z) λA=>
 ob (GV.asB A) λt=>jn (bC t (oN [m] h) (oR [(.bool false)] h)) λj q=>U1 j λb=>ln 9 b λB=>
 jn (nB 0 (J 47 [b,B,(i 0)] q)) λk r=>U1 k λn=>K c 254 [n] r λC s=>
 ob (OC .not C) λD=>
 oR [D] s
def L47 (c:CH) (D:QH) (E:List GV) (H:GH):RS:=U3 E λa b d=>jn (bn .lss 3 d b λx=>
 ob (GV.asB x) λv=>jn (bC v (oX 0 [a] H) (oN [a,b,d] H)) λh s=>U3 h λe l f=>jn (nB 1 (ob (Wq y 9 e f) λz=>
 K c 231 [z] s λA g=>
 ob (OC .not A) λB=>
 ob (GV.asB B) λw=>jn (bC w (oN [e,l,f] g) (oR [(.bool false)] g)) λj t=>U3 j λm n o=>oN [m,n,o] t)) λk u=>U3 k λp q r=>bn .add 3 r (i 1) λC=>
 oN [p,q,C] u) (D 47)
def abS (c:CH) (R:QH) (Q:List GV) (H:GH):RS:=U1 Q λl=>
 dN (nM y 178 H) λD o=>
 ob (GV.nilck l) λL=>
 fd 129 1 L λM=>
 ld 123 M o λN=>
 ln 123 N λO=>
 bn .eql 3 O (i 0) λP=>
 ob (GV.asB P) λE=>jn (bC E (oN [l,D] o) (K c 181 [l,(i 4)] o λF m=>
 oN [l,D] m)) λj b=>U2 j λa e=>ob (GV.nilck a) λq=>
 fd 129 1 q λr=>
 ld 123 r b λs=>
 ix 123 s (i 0) λt=>
 ld 178 t b λu=>
 dN (nM y 178 b) λh n=>
 dN (jU y 178 h u n) λG d=>
 ob (GV.nilck a) λv=>
 fd 129 1 v λw=>
 ld 123 w d λx=>
 ob (yX y 123 x (some (i 1)) none d) λz=>
 ob (GV.nilck a) λA=>
 fd 129 1 A λB=>
 dN (jU y 123 B z d) λI f=>
 ld 178 h f λC=>
 dN (jU y 178 e C f) λJ g=>
 ob (ob (pZ y 178 e g) λp=>some [p]) λk=>oR k g
def abT (c:CH) (P:QH) (O:List GV) (H:GH):RS:=U1 O λk=>
 K c 236 [k] H λy F=>
 K c 237 [k] F λL D=>
 bn .neq 3 L (i 1) λl=>
 dN (rG l false D (some (y,D))) λM E=>
 dN (rG l false E (dN (c 238 [M] E) EA)) λN d=>
 dN (rG l false d (ob (OC .not N) λp=>some (p,d))) λw e=>
 ob (kY l (.bool true) w) λx=>
 ob (GV.asB x) λu=>jn (bC u (oN [k,y] e) (K c 181 [k,(i 4)] e λG q=>
 oN [k,y] q)) λh f=>U2 h λa m=>ob (GV.nilck a) λz=>
 fd 129 2 z λA=>
 ld 127 A f λB=>
 K c 258 [B,m] f λb g=>
 bn .lss 3 b (i 0) λC=>
 ob (GV.asB C) λv=>jn (bC v (oN [a,b] g) (K c 181 [a,(i 5)] g λI r=>
 oN [a,b] r)) λj s=>U2 j λn o=>K c 239 [n] s λJ t=>
 oR [o] t
def abU (c:CH) (r:QH) (q:List GV) (H:GH):RS:=U1 q λj=>
 bn .eql 3 j (i 1) λg=>
 dN (rG g false H (some (j,H))) λn k=>
 dN (rG g false k (ob (wM y .eql 3 n (i 2)) λm=>some (m,k))) λo l=>
 ob (kY g (.bool true) o) λh=>
 dN (rG h false l (some (j,l))) λp a=>
 dN (rG h false a (ob (wM y .eql 3 p (i 3)) λb=>some (b,a))) λe d=>
 ob (kY h (.bool true) e) λf=>
 oR [f] d
def abV (c:CH) (L:QH) (Q:List GV) (H:GH):RS:=U2 Q λo R=>
 ln 191 o λM=>
 bn .gtr 3 M (i 200) λd=>
 dN (rG d false H (some (o,H))) λN I=>
 dN (rG d false I (dN (c 259 [N,(i 0)] I) EA)) λO J=>
 dN (rG d false J (some (o,J))) λP f=>
 dN (rG d false f (ob (Kd y 191 P) λq=>some (q,f))) λx g=>
 dN (rG d false g (ob (wM y .neq 3 O x) λr=>some (r,g))) λz h=>
 ob (kY d (.bool true) z) λA=>
 ob (GV.asB A) λw=>jn (bC w (oN [o,R] h) (oR [(.bool false)] h)) λm t=>U2 m λb p=>ln 191 b λB=>
 jn (nB 0 (L 48 [b,p,b,B,(i 0)] t)) λn u=>U1 n λe=>K c 261 [e] u λC j=>
 bn .leq 3 C (i 24) λa=>
 dN (rG a true j (some (e,j))) λD k=>
 dN (rG a true k (dN (c 262 [D] k) EA)) λE l=>
 dN (rG a true l (ob (wM y .leq 3 E (i 2)) λs=>some (s,l))) λF v=>
 ob (kY a F (.bool false)) λG=>
 oR [G] v
def L48 (c:CH) (S:QH) (U:List GV) (H:GH):RS:=U5 U λa p q b d=>jn (bn .lss 3 d b λL=>
 ob (GV.asB L) λI=>jn (bC I (oX 0 [a] H) (oN [a,p,q,b,d] H)) λm h=>U5 m λr e f s g=>jn (nB 1 (ix 191 f g λM=>
 ld 248 M h λN=>
 dN (nM y 248 h) λl E=>
 dN (jU y 248 l N E) λT j=>
 ld 248 l j λO=>
 K c 260 [O,e] j λP k=>
 ob (OC .not P) λQ=>
 ob (GV.asB Q) λJ=>jn (bC J (oN [r,e,f,s,g] k) (oR [(.bool false)] k)) λn F=>U5 n λt u v w x=>oN [t,u,v,w,x] F)) λo G=>U5 o λz A B C D=>bn .add 3 D (i 1) λR=>
 oN [z,A,B,C,R] G) (S 48)
def abW (c:CH) (g:QH) (d:List GV) (H:GH):RS:=U2 d λe f=>
 K c 265 [e,f] H λb a=>
 oR [b] a
def abX (c:CH) (g:QH) (d:List GV) (H:GH):RS:=U2 d λe f=>
 K c 266 [e,f] H λb a=>
 oR [b] a
def abY (c:CH) (q:QH) (t:List GV) (H:GH):RS:=U2 t λl m=>
 bn .eql 3 m (i 6) λr=>
 ob (GV.asB r) λp=>jn (bC p (oN [l,m] H) (K c 268 [l] H λs n=>
 oR [s] n)) λj o=>U2 j λk a=>bn .add 3 a (i 1) λg=>
 K c 256 [k,g] o λh e=>
 jn (nB 0 (q 50 [k,a,h] e)) λb f=>U1 b λd=>oR [d] f
def L50 (c:CH) (Y:QH) (us:List GV) (H:GH):RS:=U3 us λf g h=>jn (jn (nB 1 (K c 236 [f] H λO D=>
 K c 269 [O] D λe j=>
 bn .eql 3 e (i 0) λa=>
 dN (rG a false j (some (e,j))) λP k=>
 dN (rG a false k (dN (c 270 [P] k) EA)) λQ l=>
 dN (rG a false l (some (g,l))) λR m=>
 dN (rG a false m (ob (wM y .neq 3 Q R) λC=>some (C,m))) λS n=>
 ob (kY a (.bool true) S) λT=>
 ob (GV.asB T) λM=>jn (bC M (oN [f,g,h,e] n) (oR [h] n)) λq E=>U4 q λb d t u=>K c 239 [b] E λaa F=>
 bn .add 3 d (i 1) λU=>
 K c 256 [b,U] F λV G=>
 dN (rZ y 257 2 [(0,t),(1,V)] G) λW I=>
 K c 257 [u,W] I λp o=>
 bn .eql 3 d (i 3) λX=>
 ob (GV.asB X) λN=>jn (bC N (oN [b,d,p] o) (oR [p] o)) λr J=>U3 r λv w x=>oN [v,w,x] J)) λs L=>U3 s λz A B=>oN [z,A,B] L) (Y 50)
def abZ (c:CH) (g:QH) (k:List GV) (H:GH):RS:=U2 k λl b=>
 K c 271 [l,(i 0)] H λh e=>
 ln 257 b λj=>
 jn (nB 0 (g 51 [h,b,j,(i 0)] e)) λa f=>U1 a λd=>oR [d] f
def L51 (c:CH) (A:QH) (B:List GV) (H:GH):RS:=U4 B λz j a b=>jn (bn .lss 3 b a λt=>
 ob (GV.asB t) λs=>jn (bC s (oX 0 [z] H) (oN [z,j,a,b] H)) λg f=>U4 g λk d l e=>jn (nB 1 (ix 257 d e λu=>
 ld 191 u f λv=>
 dN (PU y 191 191 k v f) λw q=>
 oN [w,d,l,e] q)) λh r=>U4 h λm n o p=>bn .add 3 p (i 1) λx=>
 oN [m,n,o,x] r) (A 51)
def ab_ (c:CH) (e:QH) (g:List GV) (H:GH):RS:=U2 g λb h=>
 ln 127 b λf=>
 jn (nB 0 (e 52 [b,h,f,(i 0)] H)) λa d=>U0 a (oR [(.int .i64 (.negSucc 0))] d)
def L52 (c:CH) (F:QH) (G:List GV) (H:GH):RS:=U4 G λD E B C=>jn (bn .lss 3 C B λw=>
 ob (GV.asB w) λu=>jn (bC u (oX 0 [] H) (oN [D,E,B,C] H)) λf b=>U4 f λd e j a=>jn (nB 1 (ix 127 d a λx=>
 ld 9 x b λy=>
 bn .eql 9 e y λz=>
 ob (GV.asB z) λv=>jn (bC v (oN [d,e,j,a] b) (oR [a] b)) λg s=>U4 g λk l m n=>oN [k,l,m,n] s)) λh t=>U4 h λo p q r=>bn .add 3 r (i 1) λA=>
 oN [o,p,q,A] t) (F 52)
def aca (c:CH) (u:QH) (z:List GV) (H:GH):RS:=U2 z λs p=>
 bn .lss 3 p (i 0) λd=>
 dN (rG d false H (some (p,H))) λv q=>
 dN (rG d false q (some (s,q))) λw r=>
 dN (rG d false r (ob (Kd y 191 w) λt=>some (t,r))) λx a=>
 dN (rG d false a (ob (wM y .geq 3 v x) λj=>some (j,a))) λn b=>
 ob (kY d (.bool true) n) λo=>
 ob (GV.asB o) λm=>jn (bC m (oN [s,p] b) (oR [(.int .i64 (.negSucc 0))] b)) λe k=>U2 e λg h=>jn (nB 0 (u 53 [g,h,(i 1)] k)) λf l=>U0 f (oR [(.int .i64 (.negSucc 0))] l)
def L53 (c:CH) (S:QH) (T:List GV) (H:GH):RS:=U3 T λa b q=>jn (ln 191 a λG=>
 bn .lss 3 b G λI=>
 ob (GV.asB I) λD=>jn (bC D (oX 0 [] H) (oN [a,b,q] H)) λm g=>U3 m λd e r=>jn (nB 1 (ix 191 d e λJ=>
 fd 248 0 J λL=>
 ld 3 L g λM=>
 K c 272 [M] g λk h=>
 bn .lss 3 k (i 0) λN=>
 ob (GV.asB N) λE=>jn (bC E (oN [d,e,r,k] h) (oR [(.int .i64 (.negSucc 0))] h)) λn j=>U4 n λs f t u=>bn .sub 3 u (i 1) λO=>
 bn .add 3 t O λl=>
 bn .eql 3 l (i 0) λP=>
 ob (GV.asB P) λF=>jn (bC F (oN [s,f,l] j) (bn .add 3 f (i 1) λQ=>
 oR [Q] j)) λo B=>U3 o λv w x=>oN [v,w,x] B)) λp C=>U3 p λy z A=>bn .add 3 z (i 1) λR=>
 oN [y,R,A] C) (S 53)
def acb (c:CH) (ql:QH) (us:List GV) (H:GH):RS:=U2 us λx1 x2=>
 dN (Gg x1 H) λo h=>
 fd 248 0 o λt5=>
 ld 3 t5 h λt6=>
 jn (nB 0 (bn .eql 3 t6 (i 1) λt7=>
 ob (GV.asB t7) λq8=>jn (bC q8 (bn .eql 3 t6 (i 5) λn=>
 ob (GV.asB n) λK=>jn (bC K (bn .eql 3 t6 (i 12) λR=>
 oN [x2,o,R] h) (oN [x2,o,n] h)) λp b=>U3 p λt e u=>ob (GV.asB u) λL=>jn (bC L (oN [e] b) (fd 248 1 e λS=>
 ld 3 S b λT=>
 bn .geq 3 T (i 0) λa=>
 dN (rG a true b (ob (BI y 248 1 e) λC=>some (C,b))) λU g=>
 dN (rG a true g (ob (pZ y 3 U g) λD=>some (D,g))) λV k=>
 dN (rG a true k (some (t,k))) λW l=>
 dN (rG a true l (ob (wM y .lss 3 V W) λE=>some (E,l))) λX G=>
 ob (kY a X (.bool false)) λY=>
 oR [Y] G)) λq I=>U1 q λv=>oN [v] I) (fd 248 1 o λt9=>
 ld 3 t9 h λM=>
 bn .geq 3 M (i 0) λd=>
 dN (rG d true h (ob (BI y 248 1 o) λz=>some (z,h))) λN f=>
 dN (rG d true f (ob (pZ y 3 N f) λA=>some (A,f))) λO j=>
 dN (rG d true j (ob (wM y .leq 3 O (i 1073741824)) λB=>some (B,j))) λP F=>
 ob (kY d P (.bool false)) λQ=>
 oR [Q] F)) λr J=>U1 r λw=>oN [w] J)) λs m=>U1 s λx=>fd 248 1 x λaa=>
 ld 3 aa m λab=>
 bn .eql 3 ab (i 0) λac=>
 oR [ac] m
def acd (c:CH) (g:QH) (e:List GV) (H:GH):RS:=U1 e λf=>
 K c 273 [f,(.fn 274 [] [])] H λa b=>
 ex 0 a λd=>
 ex 1 a λh=>
 oR [d] b
def ace (c:CH) (g:QH) (e:List GV) (H:GH):RS:=U1 e λf=>
 K c 273 [f,(.fn 275 [] [])] H λa b=>
 ex 0 a λd=>
 ex 1 a λh=>
 oR [d] b
def acf (c:CH) (ql:QH) (us:List GV) (H:GH):RS:=U3 us λx1 x2 x3=>
 dN (Gg x1 H) λt4 L=>
 fd 252 0 t4 λt6=>
 ld 191 t6 L λt7=>
 ix 191 t7 x2 λt8=>
 ld 248 t8 L λt9=>
 dN (nM y 248 L) λa I=>
 dN (jU y 248 a t9 I) λaq l=>
 bn .add 3 x2 (i 1) λj=>
 fd 248 0 a λR=>
 ld 3 R l λS=>
 K c 272 [S] l λT e=>
 bn .eql 3 T (i 0) λU=>
 ob (GV.asB U) λP=>jn (bC P (oN [x3,t4,j,a] e) (fd 248 0 a λV=>
 ld 3 V e λW=>
 K c 277 [W] e λk m=>
 dN (rG k true m (some (x3,m))) λX n=>
 dN (rG k true n (ob (OC .not X) λE=>some (E,n))) λY o=>
 ob (kY k Y (.bool false)) λaa=>
 ob (GV.asB aa) λQ=>jn (bC Q (oN [t4,j,a] o) (oR [(i 0),j] o)) λs f=>U3 s λv w x=>ld 252 v f λab=>
 ld 248 x f λac=>
 K c 278 [ab,ac] f λad J=>
 oR [ad,w] J)) λt p=>U4 t λb z A d=>dN (rG b false p (ob (BI y 248 0 d) λF=>some (F,p))) λae g=>
 dN (rG b false g (ob (pZ y 3 ae g) λG=>some (G,g))) λaf q=>
 dN (rG b false q (dN (c 276 [af] q) EA)) λag M=>
 ob (kY b (.bool true) ag) λah=>
 dN (nM y 261 M) λai r=>
 fd 248 0 d λaj=>
 ld 3 aj r λak=>
 K c 272 [ak] r λal N=>
 jn (nB 0 (ql 54 [z,A,d,ah,ai,al,(i 0)] N)) λu h=>U3 u λB C D=>fd 248 0 C λam=>
 ld 3 am h λan=>
 ld 261 D h λao=>
 K c 279 [an,ao] h λap O=>
 oR [ap,B] O
def L54 (c:CH) (O:QH) (Q:List GV) (H:GH):RS:=U7 Q λx j k z l m n=>jn (bn .lss 3 n m λI=>
 ob (GV.asB I) λG=>jn (bC G (oX 0 [j,k,l] H) (oN [x,j,k,z,l,m,n] H)) λv s=>U7 v λo A B p q C r=>jn (nB 1 (ld 252 o s λJ=>
 K c 263 [J,A,p] s λu D=>
 ex 0 u λL=>
 ex 1 u λM=>
 ix 261 q r λN=>
 dN (jU y 3 N L D) λP E=>
 oN [o,M,B,p,q,C,r] E)) λw F=>U7 w λa b d e f g h=>bn .add 3 h (i 1) λt=>
 oN [a,b,d,e,f,g,t] F) (O 54)
def acg (c:CH) (ql:QH) (us:List GV) (H:GH):RS:=U3 us λg h E=>
 ob (GV.nilck g) λt4=>
 fd 255 3 t4 λt5=>
 ld 191 t5 H λt6=>
 ix 191 t6 h λt7=>
 ld 248 t7 H λt8=>
 dN (nM y 248 H) λb U=>
 dN (jU y 248 b t8 U) λa3 a=>
 jn (nB 0 (fd 248 0 b λam=>
 ld 3 am a λan=>
 bn .leq 3 an (i 17) λao=>
 ob (GV.asB ao) λai=>jn (bC ai (fd 248 0 b λau=>
 ld 3 au a λav=>
 bn .leq 3 av (i 19) λaw=>
 ob (GV.asB aw) λaj=>jn (bC aj (fd 248 0 b λaD=>
 ld 3 aD a λaE=>
 bn .leq 3 aE (i 29) λaF=>
 ob (GV.asB aF) λak=>jn (bC ak (fd 248 0 b λaK=>
 ld 3 aK a λaL=>
 bn .leq 3 aL (i 42) λaM=>
 ob (GV.asB aM) λal=>jn (bC al (oN [g,h,E] a) (bn .add 3 h (i 1) λaN=>
 K c 264 [g,aN,E] a λs Y=>
 ex 0 s λaO=>
 ex 1 s λaP=>
 K c 264 [g,aP,E] Y λt n=>
 ex 0 t λaQ=>
 ex 1 t λaR=>
 fd 248 0 b λaS=>
 ld 3 aS n λaT=>
 K c 283 [aT,aO,aQ] n λaU aa=>
 oR [aU,aR] aa)) λz ab=>U3 z λF G I=>oN [F,G,I] ab) (fd 248 0 b λaG=>
 ld 3 aG a λaH=>
 K c 282 [g,aH,h] a λr X=>
 ex 0 r λaI=>
 ex 1 r λaJ=>
 oR [aI,aJ] X)) λA ac=>U3 A λJ L M=>oN [J,L,M] ac) (bn .add 3 h (i 1) λax=>
 K c 264 [g,ax,E] a λq m=>
 ex 0 q λay=>
 ex 1 q λaz=>
 fd 248 0 b λaA=>
 ld 3 aA m λaB=>
 K c 281 [aB,ay] m λaC W=>
 oR [aC,az] W)) λB ad=>U3 B λN O P=>oN [N,O,P] ad) (ld 248 b a λap=>
 K c 280 [g,ap,E] a λaq V=>
 bn .add 3 h (i 1) λar=>
 oR [aq,ar] V)) λC ae=>U3 C λQ R S=>oN [Q,R,S] ae)) λD af=>U3 D λd T e=>bn .add 3 T (i 1) λaV=>
 K c 264 [d,aV,e] af λu ag=>
 ex 0 u λaW=>
 ex 1 u λaX=>
 K c 264 [d,aX,e] ag λv ah=>
 ex 0 v λaY=>
 ex 1 v λa0=>
 K c 264 [d,a0,e] ah λw o=>
 ex 0 w λa1=>
 ex 1 w λx=>
 bn .neq 3 aW (i 0) λa2=>
 ob (GV.asB a2) λp=>jn (bC p (oN [x,a1] o) (oR [aY,x] o)) λf l=>U2 f λj k=>oR [k,j] l
def ach (c:CH) (x:QH) (w:List GV) (H:GH):RS:=U2 w λr o=>
 ln 9 r λs=>
 ln 9 o λt=>
 bn .geq 3 s t λb=>
 dN (rG b true H (some (r,H))) λu p=>
 dN (rG b true p (some (o,p))) λv q=>
 dN (rG b true q (ob (Kd y 9 v) λf=>some (f,q))) λj a=>
 dN (rG b true a (ob (yX y 9 u none (some j) a) λg=>some (g,a))) λk d=>
 dN (rG b true d (some (o,d))) λl e=>
 dN (rG b true e (ob (wM y .eql 9 k l) λh=>some (h,e))) λm i=>
 ob (kY b m (.bool false)) λn=>
 oR [n] i
def aci (c:CH) (g:QH) (d:List GV) (H:GH):RS:=U2 d λe f=>
 K c 284 [e,f] H λb a=>
 oR [b] a
def acj (c:CH) (J:QH) (I:List GV) (H:GH):RS:=U1 I λf=>
 jn (nB 0 (K c 235 [f,(.str 45 1)] H λD z=>
 ob (GV.asB D) λC=>jn (bC C (K c 235 [f,(.str 33 1)] z λt a=>
 ob (GV.asB t) λs=>jn (bC s (oN [f] a) (K c 268 [f] a λu l=>
 dN (rZ y 257 1 [(0,u)] l) λv m=>
 K c 257 [(i 19),v] m λw n=>
 oR [w] n)) λb o=>U1 b λg=>oN [g] o) (K c 268 [f] z λE A=>
 dN (rZ y 257 1 [(0,E)] A) λF B=>
 K c 257 [(i 18),F] B λG k=>
 oR [G] k)) λd p=>U1 d λh=>oN [h] p)) λe q=>U1 e λj=>K c 285 [j] q λx r=>
 oR [x] r
def ack (c:CH) (h:QH) (f:List GV) (H:GH):RS:=U1 f λg=>
 K c 287 [] H λd a=>
 K c 286 [g,(i 30),d] a λe b=>
 oR [e] b
def acl (c:CH) (ql:QH) (us:List GV) (H:GH):RS:=U1 us λa=>
 jn (nB 0 (bn .eql 3 a (i 43) λt2=>
 ob (GV.asB t2) λq3=>jn (bC q3 (bn .eql 3 a (i 42) λt4=>
 ob (GV.asB t4) λq5=>jn (bC q5 (bn .eql 3 a (i 41) λt6=>
 ob (GV.asB t6) λq7=>jn (bC q7 (bn .eql 3 a (i 35) λt8=>
 ob (GV.asB t8) λq9=>jn (bC q9 (bn .eql 3 a (i 36) λk=>
 ob (GV.asB k) λam=>jn (bC am (bn .eql 3 a (i 37) λl=>
 ob (GV.asB l) λan=>jn (bC an (bn .eql 3 a (i 38) λm=>
 ob (GV.asB m) λao=>jn (bC ao (bn .eql 3 a (i 39) λn=>
 ob (GV.asB n) λap=>jn (bC ap (bn .eql 3 a (i 40) λaA=>
 oN [a,aA] H) (oN [a,n] H)) λs Y=>U2 s λK L=>oN [K,L] Y) (oN [a,m] H)) λt aa=>U2 t λM N=>oN [M,N] aa) (oN [a,l] H)) λu ab=>U2 u λO P=>oN [O,P] ab) (oN [a,k] H)) λv ac=>U2 v λQ R=>oN [Q,R] ac) (oN [a,t8] H)) λw f=>U2 w λd S=>ob (GV.asB S) λaq=>jn (bC aq (bn .eql 3 d (i 33) λo=>
 ob (GV.asB o) λar=>jn (bC ar (bn .eql 3 d (i 34) λaB=>
 oN [d,aB] f) (oN [d,o] f)) λx e=>U2 x λb T=>ob (GV.asB T) λau=>jn (bC au (bn .eql 3 b (i 30) λp=>
 ob (GV.asB p) λav=>jn (bC av (bn .eql 3 b (i 31) λq=>
 ob (GV.asB q) λaw=>jn (bC aw (bn .eql 3 b (i 32) λaC=>
 oN [b,aC] e) (oN [b,q] e)) λy ad=>U2 y λU V=>oN [U,V] ad) (oN [b,p] e)) λz g=>U2 z λh W=>ob (GV.asB W) λax=>jn (bC ax (bn .eql 3 h (i 18) λr=>
 ob (GV.asB r) λay=>jn (bC ay (bn .eql 3 h (i 19) λaD=>
 oN [aD] g) (oN [r] g)) λA j=>U1 A λX=>ob (GV.asB X) λaz=>jn (bC az (oN [] j) (oR [(i 6)] j)) λB ae=>U0 B (oN [] ae)) (oR [(i 5)] g)) λC af=>U0 C (oN [] af)) (oR [(i 4)] e)) λD ag=>U0 D (oN [] ag)) (oR [(i 3)] f)) λE ah=>U0 E (oN [] ah)) (oR [(i 2)] H)) λF ai=>U0 F (oN [] ai)) (oR [(i 1)] H)) λG aj=>U0 G (oN [] aj)) (oR [(i 0)] H)) λI ak=>U0 I (oN [] ak))) λJ al=>U0 J (oR [(i 7)] al)
def acm (c:CH) (h:QH) (e:List GV) (H:GH):RS:=U2 e λf g=>
 bd 248 [(0,f),(1,g)] λb=>
 dN (rZ y 191 1 [(0,b)] H) λd a=>
 oR [d] a
def acn (c:CH) (D:QH) (C:List GV) (H:GH):RS:=U1 C λh=>
 jn (nB 0 (bn .lss 3 h (i 1) λu=>
 dN (rG u false H (some (h,H))) λz v=>
 dN (rG u false v (ob (wM y .gtr 3 z (i 43)) λw=>some (w,v))) λA a=>
 ob (kY u (.bool true) A) λB=>
 ob (GV.asB B) λx=>jn (bC x (bn .leq 3 h (i 17) λr=>
 ob (GV.asB r) λo=>jn (bC o (bn .leq 3 h (i 29) λs=>
 ob (GV.asB s) λp=>jn (bC p (bn .leq 3 h (i 42) λt=>
 ob (GV.asB t) λq=>jn (bC q (oN [] a) (oR [(i 2)] a)) λb j=>U0 b (oN [] j)) (oR [(i 1)] a)) λd k=>U0 d (oN [] k)) (oR [(i 0)] a)) λe l=>U0 e (oN [] l)) (oR [(.int .i64 (.negSucc 0))] a)) λf m=>U0 f (oN [] m))) λg n=>U0 g (oR [(i 3)] n)
def aco (c:CH) (q:QH) (u:List GV) (H:GH):RS:=U2 u λm v=>
 K c 259 [m,(i 0)] H λr n=>
 ln 191 m λs=>
 bn .neq 3 r s λt=>
 ob (GV.asB t) λp=>jn (bC p (oN [m,v] n) (oR [(i 0),(.bool false)] n)) λl o=>U2 l λa e=>ln 191 a λg=>
 bn .sub 3 g (i 1) λh=>
 jn (nB 0 (q 55 [a,e,.snil,h] o)) λd b=>U1 d λf=>ix 22 f (i 0) λj=>
 ld 3 j b λk=>
 oR [k,(.bool true)] b
def L55 (c:CH) (ql:QH) (us:List GV) (H:GH):RS:=U4 us λt u e f=>jn (bn .geq 3 f (i 0) λL=>
 ob (GV.asB L) λJ=>jn (bC J (oX 0 [e] H) (oN [t,u,e,f] H)) λq m=>U4 q λg v a h=>jn (nB 1 (ln 22 a λM=>
 ix 191 g h λN=>
 fd 248 0 N λO=>
 ld 3 O m λP=>
 K c 272 [P] m λQ n=>
 bn .sub 3 M Q λo=>
 ob (yX y 22 a (some o) none n) λp=>
 ln 22 p λR=>
 jn (nB 2 (ql 56 [g,v,a,h,o,(i 0),p,R,(i 0)] n)) λr b=>U6 r λj k w l x z=>ob (yX y 22 w none (some x) b) λS=>
 ix 191 j l λT=>
 fd 248 0 T λU=>
 ld 3 U b λV=>
 ob (GV.asF k) λd=>dN (c d.1 (d.2.1++[V,z]++d.2.2) b) λW E=>
 dN (rZ y 22 1 [(0,W)] E) λX F=>
 dN (PU y 22 22 S X F) λY G=>
 oN [j,k,Y,l] G)) λs I=>U4 s λA B C D=>bn .sub 3 D (i 1) λaa=>
 oN [A,B,C,aa] I) (ql 55)
def L56 (c:CH) (O:QH) (P:List GV) (H:GH):RS:=U9 P λd e f g h j s k l=>jn (bn .lss 3 l k λK=>
 ob (GV.asB K) λJ=>jn (bC J (oX 2 [d,e,f,g,h,j] H) (oN [d,e,f,g,h,j,s,k,l] H)) λq o=>U9 q λt u v w x y m z n=>jn (nB 3 (ix 22 m n λL=>
 ld 3 L o λM=>
 ob (Wz y M) λN=>
 oN [t,u,v,w,x,N,m,z,n] o)) λr I=>U9 r λA B C D E F G a b=>bn .add 3 b (i 1) λp=>
 oN [A,B,C,D,E,F,G,a,p] I) (O 56)
def acp (c:CH) (e:QH) (b:List GV) (H:GH):RS:=U2 b λf d=>
 bn .add 3 d (i 1) λa=>
 oR [a] H
def acq (c:CH) (m:QH) (k:List GV) (H:GH):RS:=U2 k λl d=>
 K c 276 [l] H λh b=>
 ob (GV.asB h) λg=>jn (bC g (oN [d] b) (bn .add 3 d (i 1) λj=>
 oR [j] b)) λa f=>U1 a λe=>oR [e] f
def acr (c:CH) (l:QH) (k:List GV) (H:GH):RS:=U1 k λd=>
 bn .geq 3 d (i 20) λa=>
 dN (rG a true H (some (d,H))) λg b=>
 dN (rG a true b (ob (wM y .leq 3 g (i 29)) λe=>some (e,b))) λh f=>
 ob (kY a h (.bool false)) λj=>
 oR [j] f
def acs (c:CH) (l:QH) (k:List GV) (H:GH):RS:=U1 k λd=>
 bn .geq 3 d (i 11) λa=>
 dN (rG a true H (some (d,H))) λg b=>
 dN (rG a true b (ob (wM y .leq 3 g (i 17)) λe=>some (e,b))) λh f=>
 ob (kY a h (.bool false)) λj=>
 oR [j] f
def acu (c:CH) (ql:QH) (us:List GV) (H:GH):RS:=U2 us λx1 x2=>
 dN (Gg x1 H) λD h4=>
 dN (Gg x2 h4) λr m=>
 fd 248 0 r λt7=>
 ld 3 t7 m λe=>
 jn (nB 0 (bn .eql 3 e (i 2) λt9=>
 ob (GV.asB t9) λae=>jn (bC ae (bn .eql 3 e (i 3) λn=>
 ob (GV.asB n) λaf=>jn (bC af (bn .eql 3 e (i 10) λo=>
 ob (GV.asB o) λag=>jn (bC ag (bn .eql 3 e (i 15) λan=>
 oN [D,r,e,an] m) (oN [D,r,e,o] m)) λt W=>U4 t λE F G I=>oN [E,F,G,I] W) (oN [D,r,e,n] m)) λu X=>U4 u λJ K L M=>oN [J,K,L,M] X) (oN [D,r,e,t9] m)) λv d=>U4 v λf g a N=>ob (GV.asB N) λah=>jn (bC ah (bn .eql 3 a (i 4) λp=>
 ob (GV.asB p) λai=>jn (bC ai (bn .eql 3 a (i 11) λq=>
 ob (GV.asB q) λaj=>jn (bC aj (bn .eql 3 a (i 17) λao=>
 oN [f,g,a,ao] d) (oN [f,g,a,q] d)) λw Y=>U4 w λO P Q R=>oN [O,P,Q,R] Y) (oN [f,g,a,p] d)) λx h=>U4 x λj k l S=>ob (GV.asB S) λak=>jn (bC ak (bn .eql 3 l (i 5) λs=>
 ob (GV.asB s) λal=>jn (bC al (bn .eql 3 l (i 12) λap=>
 oN [j,k,ap] h) (oN [j,k,s] h)) λy b=>U3 y λT U V=>ob (GV.asB V) λam=>jn (bC am (oN [] b) (fd 252 1 T λaq=>
 ld 22 aq b λar=>
 fd 248 1 U λau=>
 ld 3 au b λav=>
 ix 22 ar av λaw=>
 ld 3 aw b λax=>
 oR [ax] b)) λz aa=>U0 z (oN [] aa)) (oR [(i 3)] h)) λA ab=>U0 A (oN [] ab)) (oR [(i 2)] d)) λB ac=>U0 B (oN [] ac))) λC ad=>U0 C (oR [(i 1)] ad)
def acv (c:CH) (ql:QH) (us:List GV) (H:GH):RS:=U2 us λp x2=>
 dN (Gg x2 H) λt3 D=>
 ix 261 t3 (i 0) λt5=>
 ld 3 t5 D λt6=>
 ix 261 t3 (i 1) λt7=>
 ld 3 t7 D λt8=>
 ix 261 t3 (i 2) λt9=>
 ld 3 t9 D λj=>
 jn (nB 0 (bn .eql 3 p (i 18) λcj=>
 ob (GV.asB cj) λdF=>jn (bC dF (bn .eql 3 p (i 24) λcl=>
 ob (GV.asB cl) λdG=>jn (bC dG (bn .eql 3 p (i 25) λcq=>
 ob (GV.asB cq) λdH=>jn (bC dH (bn .eql 3 p (i 26) λcw=>
 ob (GV.asB cw) λdI=>jn (bC dI (bn .eql 3 p (i 27) λcy=>
 ob (GV.asB cy) λdJ=>jn (bC dJ (bn .eql 3 p (i 28) λcD=>
 ob (GV.asB cD) λdK=>jn (bC dK (bn .eql 3 p (i 29) λdS=>
 oN [t6,t8,j,p,dS] D) (oN [t6,t8,j,p,cD] D)) λcQ dw=>U5 cQ λcY c0 c1 c2 c3=>oN [cY,c0,c1,c2,c3] dw) (oN [t6,t8,j,p,cy] D)) λcR dx=>U5 cR λc4 c5 c6 c7 c8=>oN [c4,c5,c6,c7,c8] dx) (oN [t6,t8,j,p,cw] D)) λcS dy=>U5 cS λc9 da db dc dd=>oN [c9,da,db,dc,dd] dy) (oN [t6,t8,j,p,cq] D)) λcT dz=>U5 cT λde df dg dh di=>oN [de,df,dg,dh,di] dz) (oN [t6,t8,j,p,cl] D)) λcU dA=>U5 cU λdj dk dl dm dn=>oN [dj,dk,dl,dm,dn] dA) (oN [t6,t8,j,p,cj] D)) λcV F=>U5 cV λE af ag q dp=>ob (GV.asB dp) λdL=>jn (bC dL (bn .eql 3 q (i 19) λcO=>
 ob (GV.asB cO) λdM=>jn (bC dM (bn .eql 3 q (i 20) λcP=>
 ob (GV.asB cP) λdO=>jn (bC dO (bn .eql 3 q (i 21) λdV=>
 oN [E,af,ag,q,dV] F) (oN [E,af,ag,q,cP] F)) λcW dC=>U5 cW λdq dr ds dt du=>oN [dq,dr,ds,dt,du] dC) (oN [E,af,ag,q,cO] F)) λcX h=>U5 cX λg v w b dv=>ob (GV.asB dv) λdP=>jn (bC dP (bn .eql 3 b (i 22) λdY=>
 ob (GV.asB dY) λdQ=>jn (bC dQ (bn .eql 3 b (i 23) λd2=>
 ob (GV.asB d2) λdR=>jn (bC dR (bn .eql 3 b (i 30) λV=>
 ob (GV.asB V) λb4=>jn (bC b4 (bn .eql 3 b (i 31) λW=>
 ob (GV.asB W) λb5=>jn (bC b5 (bn .eql 3 b (i 32) λX=>
 ob (GV.asB X) λb6=>jn (bC b6 (bn .eql 3 b (i 33) λY=>
 ob (GV.asB Y) λb7=>jn (bC b7 (bn .eql 3 b (i 34) λck=>
 oN [g,v,w,b,ck] h) (oN [g,v,w,b,Y] h)) λah bG=>U5 ah λaB aC aD aE aF=>oN [aB,aC,aD,aE,aF] bG) (oN [g,v,w,b,X] h)) λai bH=>U5 ai λaG aH aI aJ aK=>oN [aG,aH,aI,aJ,aK] bH) (oN [g,v,w,b,W] h)) λaj bI=>U5 aj λaL aM aN aO aP=>oN [aL,aM,aN,aO,aP] bI) (oN [g,v,w,b,V] h)) λak m=>U5 ak λr s G k aQ=>ob (GV.asB aQ) λb8=>jn (bC b8 (bn .eql 3 k (i 35) λaa=>
 ob (GV.asB aa) λb9=>jn (bC b9 (bn .eql 3 k (i 36) λcr=>
 oN [r,s,G,k,cr] m) (oN [r,s,G,k,aa] m)) λal e=>U5 al λd f l a aR=>ob (GV.asB aR) λca=>jn (bC ca (bn .eql 3 a (i 37) λab=>
 ob (GV.asB ab) λcb=>jn (bC cb (bn .eql 3 a (i 38) λac=>
 ob (GV.asB ac) λcc=>jn (bC cc (bn .eql 3 a (i 39) λad=>
 ob (GV.asB ad) λcd=>jn (bC cd (bn .eql 3 a (i 40) λcx=>
 oN [d,f,l,a,cx] e) (oN [d,f,l,a,ad] e)) λam bN=>U5 am λaS aT aU aV aW=>oN [aS,aT,aU,aV,aW] bN) (oN [d,f,l,a,ac] e)) λan bO=>U5 an λaX aY a0 a1 a2=>oN [aX,aY,a0,a1,a2] bO) (oN [d,f,l,a,ab] e)) λao n=>U5 ao λt u I J a3=>ob (GV.asB a3) λce=>jn (bC ce (bn .eql 3 J (i 41) λae=>
 ob (GV.asB ae) λcf=>jn (bC cf (bn .eql 3 J (i 42) λcE=>
 oN [t,u,I,cE] n) (oN [t,u,I,ae] n)) λap x=>U4 ap λL M a4 a5=>ob (GV.asB a5) λcg=>jn (bC cg (oN [L,M,a4] x) (bn .eql 3 L (i 2) λC=>
 dN (rG C true x (some (M,x))) λcF R=>
 dN (rG C true R (ob (wM y .eql 3 cF (i 2)) λbD=>some (bD,R))) λcG bR=>
 ob (kY C cG (.bool false)) λcH=>
 K c 288 [cH,(i 2)] bR λcI bS=>
 oR [cI] bS)) λaq bT=>U3 aq λa6 a7 a8=>oN [a6,a7,a8] bT) (bn .eql 3 t (i 1) λB=>
 dN (rG B true n (some (u,n))) λcz Q=>
 dN (rG B true Q (ob (wM y .eql 3 cz (i 1)) λbB=>some (bB,Q))) λcA bP=>
 ob (kY B cA (.bool false)) λcB=>
 K c 288 [cB,(i 2)] bP λcC bQ=>
 oR [cC] bQ)) λar bU=>U3 ar λa9 ba bb=>oN [a9,ba,bb] bU) (bn .eql 3 d f λA=>
 dN (rG A true e (some (d,e))) λcs P=>
 dN (rG A true P (ob (wM y .neq 3 cs (i 0)) λbA=>some (bA,P))) λct bL=>
 ob (kY A ct (.bool false)) λcu=>
 K c 288 [cu,(i 2)] bL λcv bM=>
 oR [cv] bM)) λau bV=>U3 au λbc bd be=>oN [bc,bd,be] bV) (bn .eql 3 r (i 1) λz=>
 dN (rG z true m (some (s,m))) λcm O=>
 dN (rG z true O (ob (wM y .eql 3 cm (i 1)) λbz=>some (bz,O))) λcn bJ=>
 ob (kY z cn (.bool false)) λco=>
 K c 288 [co,(i 1)] bJ λcp bK=>
 oR [cp] bK)) λav bW=>U3 av λbf bg bh=>oN [bf,bg,bh] bW) (bn .eql 3 g (i 2) λch=>
 K c 288 [ch,(i 3)] h λci bF=>
 oR [ci] bF)) λaw bX=>U3 aw λbi bj bk=>oN [bi,bj,bk] bX) (bn .eql 3 g (i 2) λd0=>
 K c 288 [d0,(i 1)] h λd1 dE=>
 oR [d1] dE)) λax bY=>U3 ax λbl bm bo=>oN [bl,bm,bo] bY) (bn .eql 3 g (i 2) λdW=>
 K c 288 [dW,(i 2)] h λdX dD=>
 oR [dX] dD)) λay b0=>U3 ay λbp bq br=>oN [bp,bq,br] b0) (bn .eql 3 E (i 1) λdT=>
 K c 288 [dT,(i 1)] F λdU dB=>
 oR [dU] dB)) λaz b1=>U3 az λbs bt bu=>oN [bs,bt,bu] b1)) λaA S=>U3 aA λbw N bx=>bn .eql 3 bw (i 2) λo=>
 dN (rG o true S (some (N,S))) λcJ T=>
 dN (rG o true T (some (bx,T))) λcK U=>
 dN (rG o true U (ob (wM y .eql 3 cJ cK) λbE=>some (bE,U))) λcL b2=>
 ob (kY o cL (.bool false)) λcM=>
 K c 288 [cM,N] b2 λcN b3=>
 oR [cN] b3
def acw (c:CH) (ql:QH) (us:List GV) (H:GH):RS:=U3 us λe x2 x3=>
 dN (Gg x2 H) λk a=>
 fd 248 0 k λt6=>
 ld 3 t6 a λd=>
 jn (nB 0 (bn .eql 3 d (i 1) λt8=>
 ob (GV.asB t8) λq9=>jn (bC q9 (bn .eql 3 d (i 2) λac=>
 ob (GV.asB ac) λU=>jn (bC U (bn .eql 3 d (i 3) λad=>
 ob (GV.asB ad) λV=>jn (bC V (bn .eql 3 d (i 4) λae=>
 ob (GV.asB ae) λW=>jn (bC W (bn .eql 3 d (i 5) λaf=>
 ob (GV.asB af) λX=>jn (bC X (bn .eql 3 d (i 12) λau=>
 ob (GV.asB au) λY=>jn (bC Y (oN [e,x3,k] a) (ob (GV.nilck e) λav=>
 fd 255 1 av λaw=>
 ld 30 aw a λax=>
 ob (GV.nilck e) λay=>
 fd 255 0 ay λaz=>
 ld 162 az a λaA=>
 ob (GV.nilck aA) λaB=>
 fd 212 1 aB λaC=>
 fd 27 1 aC λaD=>
 ld 25 aD a λaE=>
 ob (GV.nilck e) λaF=>
 fd 255 2 aF λaG=>
 ld 3 aG a λaH=>
 ix 25 aE aH λaI=>
 ld 70 aI a λaJ=>
 ix 70 aJ x3 λaK=>
 fd 97 0 aK λaL=>
 ld 3 aL a λaM=>
 ix 30 ax aM λaN=>
 ld 22 aN a λaO=>
 fd 248 1 k λaP=>
 ld 3 aP a λaQ=>
 ix 22 aO aQ λaR=>
 ld 3 aR a λaS=>
 oR [aS] a)) λl O=>U3 l λs t u=>oN [s,t,u] O) (ob (GV.nilck e) λag=>
 fd 255 1 ag λah=>
 ld 30 ah a λai=>
 ob (GV.nilck e) λaj=>
 fd 255 2 aj λak=>
 ld 3 ak a λal=>
 ix 30 ai al λam=>
 ld 22 am a λan=>
 fd 248 1 k λao=>
 ld 3 ao a λap=>
 ix 22 an ap λaq=>
 ld 3 aq a λar=>
 oR [ar] a)) λm P=>U3 m λv w x=>oN [v,w,x] P) (oR [(.int .i64 (.negSucc 0))] a)) λn Q=>U3 n λy z A=>oN [y,z,A] Q) (oR [(i 0)] a)) λo R=>U3 o λB C D=>oN [B,C,D] R) (oR [(i 1)] a)) λp S=>U3 p λE F G=>oN [E,F,G] S) (fd 248 1 k λaa=>
 ld 3 aa a λab=>
 oR [ab] a)) λq T=>U3 q λI J L=>oN [I,J,L] T)) λr b=>U3 r λf M N=>ob (GV.nilck f) λaT=>
 fd 255 0 aT λaU=>
 ld 162 aU b λaV=>
 fd 248 0 N λaW=>
 ld 3 aW b λaX=>
 ob (GV.nilck f) λaY=>
 fd 255 2 aY λa0=>
 ld 3 a0 b λh=>
 K c 289 [aV,aX,h,M] b λj g=>
 oR [j] g
def acx (c:CH) (O:QH) (U:List GV) (H:GH):RS:=U3 U λN V W=>
 dN (nM y 160 H) λP g=>
 ob (GV.nilck N) λQ=>
 fd 255 0 Q λR=>
 ld 162 R g λS=>
 ob (GV.nilck S) λT=>
 fd 212 1 T λv=>
 fd 27 1 v λw=>
 ld 25 w g λx=>
 ob (GV.nilck N) λz=>
 fd 255 2 z λA=>
 ld 3 A g λB=>
 ix 25 x B λC=>
 ld 70 C g λD=>
 ln 70 D λh=>
 jn (nB 0 (O 57 [N,V,W,(i 0),P,h,h,(i 0)] g)) λj b=>U6 j λl d m n e a=>bn .eql 3 a (i 0) λE=>
 ob (GV.asB E) λu=>jn (bC u (oN [d,n,e,a] b) (ob (GV.nilck l) λF=>
 fd 255 3 F λG=>
 ld 191 G b λI=>
 K c 259 [I,m] b λJ s=>
 oN [d,J,e,a] s)) λk f=>U4 k λo p q r=>ob (yX y 160 q none (some r) f) λL=>
 K c 291 [o,L] f λM t=>
 oR [M,p] t
def L57 (c:CH) (Q:QH) (S:List GV) (H:GH):RS:=U8 S λb d e q f g h j=>jn (bn .lss 3 j h λJ=>
 ob (GV.asB J) λI=>jn (bC I (oX 0 [b,d,e,q,f,g] H) (oN [b,d,e,f,g,h,j] H)) λo D=>U7 o λk r l m s t a=>jn (nB 1 (bn .add 3 l (i 1) λL=>
 K c 264 [k,L,a] D λn E=>
 ex 0 n λM=>
 ex 1 n λN=>
 ix 160 m a λO=>
 dN (jU y 3 O M E) λR F=>
 oN [k,r,l,N,m,s,t,a] F)) λp G=>U8 p λu v w x z A B C=>bn .add 3 C (i 1) λP=>
 oN [u,v,w,x,z,A,B,P] G) (Q 57)
def acy (c:CH) (ql:QH) (us:List GV) (H:GH):RS:=U1 us λs=>
 K c 236 [s] H λt2 h3=>
 K c 237 [s] h3 λt4 h5=>
 bn .eql 3 t4 (i 2) λt6=>
 ob (GV.asB t6) λq7=>jn (bC q7 (oN [s,t2] h5) (K c 239 [s] h5 λt8 h9=>
 pt 178 3 t8 λX=>
 K c 271 [(i 1),X] h9 λY x=>
 oR [Y] x)) λn z=>U2 n λb t=>K c 235 [b,(.str 40 1)] z λaa g=>
 ob (GV.asB aa) λT=>jn (bC T (oN [b,t] g) (K c 242 [b] g λab A=>
 K c 175 [b,(.str 41 1)] A λam B=>
 oR [ab] B)) λo C=>U2 o λd u=>K c 235 [d,(.str 113 1)] C λac h=>
 ob (GV.asB ac) λU=>jn (bC U (oN [d,u] h) (K c 295 [d] h λad D=>
 oR [ad] D)) λp E=>U2 p λe f=>K c 296 [f] E λl j=>
 bn .neq 3 l (i 0) λae=>
 ob (GV.asB ae) λV=>jn (bC V (oN [e,f] j) (K c 239 [e] j λan F=>
 K c 271 [l,(i 0)] F λaf G=>
 oR [af] G)) λq I=>U2 q λa v=>K c 297 [v] I λm k=>
 bn .neq 3 m (i 0) λag=>
 ob (GV.asB ag) λW=>jn (bC W (oN [a] k) (K c 239 [a] k λao J=>
 K c 175 [a,(.str 40 1)] J λap L=>
 K c 242 [a] L λah M=>
 K c 175 [a,(.str 41 1)] M λaq N=>
 dN (rZ y 257 1 [(0,ah)] N) λai O=>
 K c 257 [m,ai] O λaj P=>
 oR [aj] P)) λr Q=>U1 r λw=>K c 243 [w] Q λak R=>
 K c 271 [(i 5),ak] R λal S=>
 oR [al] S
def acz (c:CH) (m:QH) (o:List GV) (H:GH):RS:=U3 o λg p q=>
 bn .eql 9 g (.str 0 0) λn=>
 ob (GV.asB n) λl=>jn (bC l (oN [g,p,q] H) (oR [(i 0)] H)) λf k=>U3 f λh j a=>ln 127 a λe=>
 jn (nB 0 (m 58 [h,j,a,e,(i 0)] k)) λb d=>U0 b (oR [(i 0)] d)
def L58 (c:CH) (L:QH) (M:List GV) (H:GH):RS:=U5 M λm n o d e=>jn (bn .lss 3 e d λE=>
 ob (GV.asB E) λC=>jn (bC C (oX 0 [] H) (oN [m,n,o,d,e] H)) λj b=>U5 j λf g h p a=>jn (nB 1 (ix 127 h a λF=>
 ld 9 F b λG=>
 bn .eql 9 G f λI=>
 ob (GV.asB I) λD=>jn (bC D (oN [f,g,h,p,a] b) (bn .add 3 g a λJ=>
 oR [J] b)) λk A=>U5 k λq r s t u=>oN [q,r,s,t,u] A)) λl B=>U5 l λv w x y z=>bn .add 3 z (i 1) λK=>
 oN [v,w,x,y,K] B) (L 58)
def acA (c:CH) (e:QH) (d:List GV) (H:GH):RS:=U0 d (dN (rZ y 127 13 [(0,(.str 42 1)),(1,(.str 47 1)),(2,(.str 37 1)),(3,(.str 43 1)),(4,(.str 45 1)),(5,(.str 15677 2)),(6,(.str 15649 2)),(7,(.str 60 1)),(8,(.str 15676 2)),(9,(.str 62 1)),(10,(.str 15678 2)),(11,(.str 9766 2)),(12,(.str 31868 2))] H) λb a=>
 oR [b] a)
def acB (c:CH) (h:QH) (e:List GV) (H:GH):RS:=U2 e λf g=>
 ob (GV.asB f) λd=>jn (bC d (oN [] H) (oR [g] H)) λa b=>U0 a (oR [(i 0)] b)
def acC (c:CH) (g:QH) (e:List GV) (H:GH):RS:=U1 e λf=>
 ob (GV.asB f) λd=>jn (bC d (oN [] H) (oR [(i 1)] H)) λa b=>U0 a (oR [(i 0)] b)
def acD (c:CH) (ql:QH) (us:List GV) (H:GH):RS:=U2 us λb a=>
 jn (nB 0 (bn .eql 3 b (i 20) λt3=>
 ob (GV.asB t3) λq4=>jn (bC q4 (bn .eql 3 b (i 21) λao=>
 ob (GV.asB ao) λaf=>jn (bC af (bn .eql 3 b (i 22) λau=>
 ob (GV.asB au) λag=>jn (bC ag (bn .eql 3 b (i 23) λaw=>
 ob (GV.asB aw) λah=>jn (bC ah (bn .eql 3 b (i 24) λay=>
 ob (GV.asB ay) λai=>jn (bC ai (bn .eql 3 b (i 25) λaA=>
 ob (GV.asB aA) λaj=>jn (bC aj (bn .eql 3 b (i 26) λaC=>
 ob (GV.asB aC) λak=>jn (bC ak (bn .eql 3 b (i 27) λaF=>
 ob (GV.asB aF) λal=>jn (bC al (bn .eql 3 b (i 28) λaH=>
 ob (GV.asB aH) λam=>jn (bC am (oN [a] H) (K c 301 [a] H λh U=>
 ex 0 h λaO=>
 ex 1 h λaI=>
 oR [aI] U)) λl V=>U1 l λy=>oN [y] V) (K c 302 [a] H λaG T=>
 oR [aG] T)) λm W=>U1 m λz=>oN [z] W) (ln 22 a λaD=>
 jn (nB 3 (ql 60 [(i 0),a,aD,(i 0)] H)) λk R=>U1 k λx=>K c 292 [x] R λaE S=>
 oR [aE] S)) λn X=>U1 n λA=>oN [A] X) (K c 301 [a] H λg Q=>
 ex 0 g λaB=>
 ex 1 g λaN=>
 oR [aB] Q)) λo Y=>U1 o λB=>oN [B] Y) (ln 22 a λaz=>
 jn (nB 1 (ql 59 [(i 1073741824),a,az,(i 0)] H)) λj P=>U1 j λw=>oR [w] P)) λp aa=>U1 p λC=>oN [C] aa) (K c 299 [a,(.fn 300 [] [])] H λax O=>
 oR [ax] O)) λq ab=>U1 q λD=>oN [D] ab) (K c 298 [a] H λav N=>
 oR [av] N)) λr ac=>U1 r λE=>oN [E] ac) (K c 298 [a] H λap L=>
 bn .gtr 3 ap (i 0) λaq=>
 K c 290 [aq] L λar M=>
 oR [ar] M)) λs ad=>U1 s λF=>oN [F] ad) (K c 298 [a] H λt5 h6=>
 ln 22 a λt7=>
 bn .eql 3 t5 t7 λt8=>
 K c 290 [t8] h6 λt9 J=>
 oR [t9] J)) λt ae=>U1 t λG=>oN [G] ae)) λu e=>U1 u λd=>ln 22 d λaJ=>
 bn .eql 3 aJ (i 0) λaK=>
 ob (GV.asB aK) λan=>jn (bC an (oN [d] e) (oR [(i 0)] e)) λv f=>U1 v λI=>ix 22 I (i 0) λaL=>
 ld 3 aL f λaM=>
 oR [aM] f
def L59 (c:CH) (y:QH) (z:List GV) (H:GH):RS:=U4 z λn v o p=>jn (bn .lss 3 p o λx=>
 ob (GV.asB x) λw=>jn (bC w (oX 1 [n] H) (oN [n,v,o,p] H)) λe d=>U4 e λg a h b=>jn (nB 2 (ix 22 a b λr=>
 ld 3 r d λs=>
 ob (WA g s) λt=>
 oN [t,a,h,b] d)) λf q=>U4 f λj k l m=>bn .add 3 m (i 1) λu=>
 oN [j,k,l,u] q) (y 59)
def L60 (c:CH) (y:QH) (z:List GV) (H:GH):RS:=U4 z λa k b d=>jn (bn .lss 3 d b λt=>
 ob (GV.asB t) λs=>jn (bC s (oX 3 [a] H) (oN [a,k,b,d] H)) λh g=>U4 h λl e m f=>jn (nB 4 (ix 22 e f λu=>
 ld 3 u g λv=>
 bn .add 3 l v λw=>
 oN [w,e,m,f] g)) λj r=>U4 j λn o p q=>bn .add 3 q (i 1) λx=>
 oN [n,o,p,x] r) (y 60)
def acE (c:CH) (h:QH) (f:List GV) (H:GH):RS:=U1 f λg=>
 K c 304 [] H λd a=>
 K c 286 [g,(i 2),d] a λe b=>
 oR [e] b
def d0:(Code×Cx)×fZ:=gD1 (cI Tryz.f36 [1,1,0,1,0,0],iN Tryz.f36 [(0,0)]) 1 0 1
def d1:(Code×Cx)×fZ:=gD (cI Tryz.f36 [1,1,0,1,0,0,1,1,0,0,1,1,1,0,0],iN Tryz.f36 [(2,3670028),(1,3670028),(0,0)]) 1
def d2:(Code×Cx)×fZ:=gD (cI Tryz.f37 [1,1,1,0,1,0,0],iN Tryz.f37 [(0,8)]) 2
def d3:(Code×Cx)×fZ:=gD (cI Tryz.f40 [1,0,1,0,0],iN Tryz.f40 [(0,0)]) 3
def d4:(Code×Cx)×fZ:=gD (cI Tryz.f42 [1,1,0,1,0,0],iN Tryz.f42 [(0,0)]) 4
def d5:(Code×Cx)×fZ:=gD (cI Tryz.f43 [1,1,0,1,0,0],iN Tryz.f43 [(0,0)]) 5
def d6:(Code×Cx)×fZ:=gD (cI Tryz.f53 [1,1,1,0,1,0,0],iN Tryz.f53 [(0,0)]) 6
def d7:(Code×Cx)×fZ:=gD1 (cI Tryz.f97 [1,1,0,1,0,0],iN Tryz.f97 [(0,32)]) 1 7 8
def d8:(Code×Cx)×fZ:=gD (cI Tryz.f97 [1,1,0,1,0,0,1,1,0,0,1,1,1,0,0],iN Tryz.f97 [(2,49196),(1,49196),(0,32)]) 8
def d9:(Code×Cx)×fZ:=gD (cI Tryz.f98 [1,1,0,1,0,0],iN Tryz.f98 [(0,8)]) 9
def d10:(Code×Cx)×fZ:=gD1 (cI Tryz.f104 [1,1,0,1,0,0],iN Tryz.f104 [(0,8)]) 1 10 11
def d11:(Code×Cx)×fZ:=gD (cI Tryz.f104 [1,1,0,1,0,0,1,1,0,0,1,1,0,0],iN Tryz.f104 [(2,57352),(1,57352),(0,8)]) 11
def d12:(Code×Cx)×fZ:=gD (cI Tryz.f106 [1,1,1,1,1,1,1,0,1,0,0],iN Tryz.f106 [(0,5378)]) 12
def d13:(Code×Cx)×fZ:=((cI Tryz.f109 [1,1,1,0,1,0,0],iN Tryz.f109 [(0,32)]),L13)
def d14:(Code×Cx)×fZ:=((cI Tryz.f112 [1,1,1,0,1,0,0],iN Tryz.f112 [(0,2)]),L14)
def d15:(Code×Cx)×fZ:=((cI Tryz.f112 [1,1,1,1,0,1,0,0],iN Tryz.f112 [(2,2)]),L15)
def d16:(Code×Cx)×fZ:=((cI Tryz.f112 [1,1,1,1,1,1,0,1,0,0],iN Tryz.f112 [(4,0)]),L16)
def d17:(Code×Cx)×fZ:=gD (cI Tryz.f113 [1,0,1,0,0],iN Tryz.f113 [(0,0)]) 17
def d18:(Code×Cx)×fZ:=((cI Tryz.f115 [1,1,0,1,0,0],iN Tryz.f115 [(0,38)]),L18)
def d19:(Code×Cx)×fZ:=((cI Tryz.f115 [1,1,1,1,1,0,0,0],iN Tryz.f115 [(2,32)]),L19)
def d20:(Code×Cx)×fZ:=((cI Tryz.f115 [1,1,1,1,1,0,0,0,1,0,1,1,1,0,0],iN Tryz.f115 [(4,164),(3,164),(2,32)]),L20)
def d21:(Code×Cx)×fZ:=gD (cI Tryz.f160 [1,1,1,0,1,0,0],iN Tryz.f160 [(0,0)]) 21
def d22:(Code×Cx)×fZ:=gD (cI Tryz.f161 [1,1,0,1,0,0],iN Tryz.f161 [(0,0)]) 22
def d23:(Code×Cx)×fZ:=gD (cI Tryz.f162 [1,1,0,1,0,0],iN Tryz.f162 [(0,0)]) 23
def d24:(Code×Cx)×fZ:=gD1 (cI Tryz.f164 [1,1,0,1,0,0],iN Tryz.f164 [(0,32)]) 1 24 25
def d25:(Code×Cx)×fZ:=gD (cI Tryz.f164 [1,1,0,1,0,0,1,1,0,0,1,1,1,0,0],iN Tryz.f164 [(2,3670056),(1,3670056),(0,32)]) 25
def d26:(Code×Cx)×fZ:=gD (cI Tryz.f168 [1,1,0,1,0,0],iN Tryz.f168 [(0,128)]) 26
def d27:(Code×Cx)×fZ:=((cI Tryz.f171 [1,0,0,0],iN Tryz.f171 [(0,2)]),L27)
def d28:(Code×Cx)×fZ:=((cI Tryz.f171 [1,0,0,0,1,0,1,0,1,1,1,0,0,0],iN Tryz.f171 [(3,3),(2,3),(1,3),(0,2)]),L28)
def d29:(Code×Cx)×fZ:=gD (cI Tryz.f176 [1,1,1,0,1,0,0],iN Tryz.f176 [(0,33)]) 29
def d30:(Code×Cx)×fZ:=gD (cI Tryz.f177 [1,0,0],iN Tryz.f177 [(0,0)]) 30
def d31:(Code×Cx)×fZ:=gD (cI Tryz.f179 [1,1,1,1,1,0,0,0],iN Tryz.f179 [(0,5)]) 31
def d32:(Code×Cx)×fZ:=((cI Tryz.f182 [1,1,1,0,1,0,0],iN Tryz.f182 [(0,2)]),L32)
def d33:(Code×Cx)×fZ:=((cI Tryz.f182 [1,1,1,1,1,0,1,0,0],iN Tryz.f182 [(2,0)]),L33)
def d34:(Code×Cx)×fZ:=gD (cI Tryz.f184 [1,1,1,0,1,0,0],iN Tryz.f184 [(0,0)]) 34
def d35:(Code×Cx)×fZ:=gD (cI Tryz.f185 [1,1,0,1,0,0],iN Tryz.f185 [(0,8)]) 35
def d36:(Code×Cx)×fZ:=gD (cI Tryz.f186 [1,1,0,1,0,0],iN Tryz.f186 [(0,0)]) 36
def d37:(Code×Cx)×fZ:=gD (cI Tryz.f197 [1,0,1,0,0],iN Tryz.f197 [(0,0)]) 37
def d38:(Code×Cx)×fZ:=gD (cI Tryz.f199 [1,1,0,1,0,0],iN Tryz.f199 [(0,8)]) 38
def d39:(Code×Cx)×fZ:=gD (cI Tryz.f216 [1,1,0,1,0,0],iN Tryz.f216 [(0,0)]) 39
def d40:(Code×Cx)×fZ:=gD (cI Tryz.f220 [1,1,0,1,0,0],iN Tryz.f220 [(0,32)]) 40
def d41:(Code×Cx)×fZ:=gD (cI Tryz.f222 [1,0,1,0,0],iN Tryz.f222 [(0,0)]) 41
def d42:(Code×Cx)×fZ:=gD (cI Tryz.f224 [1,1,0,1,0,0],iN Tryz.f224 [(0,512)]) 42
def d43:(Code×Cx)×fZ:=gD (cI Tryz.f226 [1,0,1,0,0],iN Tryz.f226 [(0,0)]) 43
def d44:(Code×Cx)×fZ:=((cI Tryz.f229 [1,1,0,0,0],iN Tryz.f229 [(0,32)]),L44)
def d45:(Code×Cx)×fZ:=((cI Tryz.f233 [1,1,1,0,1,0,0],iN Tryz.f233 [(0,16)]),L45)
def d46:(Code×Cx)×fZ:=((cI Tryz.f234 [1,0,1,0,0],iN Tryz.f234 [(0,1)]),L46)
def d47:(Code×Cx)×fZ:=((cI Tryz.f238 [1,1,0,1,0,0],iN Tryz.f238 [(0,1)]),L47)
def d48:(Code×Cx)×fZ:=((cI Tryz.f246 [1,1,0,1,0,0],iN Tryz.f246 [(0,1)]),L48)
def d49:(Code×Cx)×fZ:=gD (cI Tryz.f247 [1,1,0,1,0,0],iN Tryz.f247 [(0,7)]) 49
def d50:(Code×Cx)×fZ:=((cI Tryz.f256 [1,1,1,0,0],iN Tryz.f256 [(0,16)]),L50)
def d51:(Code×Cx)×fZ:=((cI Tryz.f257 [1,1,0,1,0,0],iN Tryz.f257 [(0,32)]),L51)
def d52:(Code×Cx)×fZ:=((cI Tryz.f258 [1,0,1,0,0],iN Tryz.f258 [(0,0)]),L52)
def d53:(Code×Cx)×fZ:=((cI Tryz.f259 [1,1,0,1,0,0],iN Tryz.f259 [(0,0)]),L53)
def d54:(Code×Cx)×fZ:=((cI Tryz.f263 [1,1,1,1,1,1,0,1,0,0],iN Tryz.f263 [(0,1408)]),L54)
def d55:(Code×Cx)×fZ:=((cI Tryz.f273 [1,1,1,0,1,0,0],iN Tryz.f273 [(0,64)]),L55)
def d56:(Code×Cx)×fZ:=((cI Tryz.f273 [1,1,1,0,1,0,0,1,0,0,1,1,0,1,0,0],iN Tryz.f273 [(2,963),(1,195),(0,64)]),L56)
def d57:(Code×Cx)×fZ:=((cI Tryz.f282 [1,1,1,0,1,0,0],iN Tryz.f282 [(0,903)]),L57)
def d58:(Code×Cx)×fZ:=((cI Tryz.f286 [1,1,0,1,0,0],iN Tryz.f286 [(0,0)]),L58)
def d59:(Code×Cx)×fZ:=((cI Tryz.f291 [1,0,1,0,1,1,1,1,1,1,1,1,1,0,1,0,1,0,0],iN Tryz.f291 [(1,32),(0,2)]),L59)
def d60:(Code×Cx)×fZ:=((cI Tryz.f291 [1,0,1,0,1,1,1,1,1,1,1,1,1,1,1,1,1,0,1,0,1,0,0],iN Tryz.f291 [(3,1024),(0,2)]),L60)
def d61:(Code×Cx)×fZ:=gD (cI Tryz.f298 [1,1,0,1,0,0],iN Tryz.f298 [(0,8)]) 61
def d62:(Code×Cx)×fZ:=gD (cI Tryz.f299 [1,0,1,0,0],iN Tryz.f299 [(0,0)]) 62
def d63:(Code×Cx)×fZ:=gD (cI Tryz.f301 [1,1,0,1,0,0],iN Tryz.f301 [(0,12)]) 63
def d64:(Code×Cx)×fZ:=gD (cI Tryz.f302 [1,1,0,0,0],iN Tryz.f302 [(0,8)]) 64
def Rp (f:Nat):Option (Func×fZ):=(tN f 230 (tN f 160 (tN f 97 (tN f 37 (tN f 28 (tN f 16 (tN f 7 (tL f 6 (Tryz.f6,(gB Tryz.f6))) (tL f 7 (Tryz.f7,(gB Tryz.f7)))) (tN f 27 (tL f 16 (Tryz.f16,(gB Tryz.f16))) (tL f 27 (Tryz.f27,(gB Tryz.f27))))) (tN f 30 (tN f 29 (tL f 28 (Tryz.f28,(gB Tryz.f28))) (tL f 29 (Tryz.f29,(gB Tryz.f29)))) (tN f 31 (tL f 30 (Tryz.f30,(gB Tryz.f30))) (tN f 36 (tL f 31 (Tryz.f31,(gB Tryz.f31))) (tL f 36 (Tryz.f36,(tM Tryz.f36 0))))))) (tN f 43 (tN f 40 (tN f 39 (tL f 37 (Tryz.f37,(tM Tryz.f37 2))) (tL f 39 (Tryz.f39,(gB Tryz.f39)))) (tN f 42 (tL f 40 (Tryz.f40,(tM Tryz.f40 3))) (tL f 42 (Tryz.f42,(tM Tryz.f42 4))))) (tN f 53 (tN f 52 (tL f 43 (Tryz.f43,(tM Tryz.f43 5))) (tL f 52 (Tryz.f52,(gB Tryz.f52)))) (tN f 54 (tL f 53 (Tryz.f53,(tM Tryz.f53 6))) (tN f 96 (tL f 54 (Tryz.f54,(gB Tryz.f54))) (tL f 96 (Tryz.f96,(gB Tryz.f96)))))))) (tN f 109 (tN f 103 (tN f 99 (tN f 98 (tL f 97 (Tryz.f97,(tM Tryz.f97 7))) (tL f 98 (Tryz.f98,(tM Tryz.f98 9)))) (tN f 102 (tL f 99 (Tryz.f99,(gB Tryz.f99))) (tL f 102 (Tryz.f102,(gB Tryz.f102))))) (tN f 105 (tN f 104 (tL f 103 (Tryz.f103,(gB Tryz.f103))) (tL f 104 (Tryz.f104,(tM Tryz.f104 10)))) (tN f 106 (tL f 105 (Tryz.f105,(gB Tryz.f105))) (tN f 107 (tL f 106 (Tryz.f106,(tM Tryz.f106 12))) (tL f 107 (Tryz.f107,(gB Tryz.f107))))))) (tN f 123 (tN f 112 (tN f 111 (tL f 109 (Tryz.f109,abC)) (tL f 111 (Tryz.f111,(gB Tryz.f111)))) (tN f 113 (tL f 112 (Tryz.f112,abD)) (tN f 115 (tL f 113 (Tryz.f113,(tM Tryz.f113 17))) (tL f 115 (Tryz.f115,abE))))) (tN f 125 (tN f 124 (tL f 123 (Tryz.f123,(gB Tryz.f123))) (tL f 124 (Tryz.f124,(gB Tryz.f124)))) (tN f 126 (tL f 125 (Tryz.f125,(gB Tryz.f125))) (tN f 140 (tL f 126 (Tryz.f126,(gB Tryz.f126))) (tL f 140 (Tryz.f140,(gB Tryz.f140))))))))) (tN f 183 (tN f 172 (tN f 165 (tN f 162 (tN f 161 (tL f 160 (Tryz.f160,(tM Tryz.f160 21))) (tL f 161 (Tryz.f161,(tM Tryz.f161 22)))) (tN f 164 (tL f 162 (Tryz.f162,(tM Tryz.f162 23))) (tL f 164 (Tryz.f164,(tM Tryz.f164 24))))) (tN f 168 (tN f 166 (tL f 165 (Tryz.f165,(gB Tryz.f165))) (tL f 166 (Tryz.f166,(gB Tryz.f166)))) (tN f 169 (tL f 168 (Tryz.f168,(tM Tryz.f168 26))) (tN f 171 (tL f 169 (Tryz.f169,(gB Tryz.f169))) (tL f 171 (Tryz.f171,abF)))))) (tN f 178 (tN f 176 (tN f 175 (tL f 172 (Tryz.f172,abG)) (tL f 175 (Tryz.f175,(gB Tryz.f175)))) (tN f 177 (tL f 176 (Tryz.f176,(tM Tryz.f176 29))) (tL f 177 (Tryz.f177,(tM Tryz.f177 30))))) (tN f 180 (tN f 179 (tL f 178 (Tryz.f178,(gB Tryz.f178))) (tL f 179 (Tryz.f179,(tM Tryz.f179 31)))) (tN f 181 (tL f 180 (Tryz.f180,(gB Tryz.f180))) (tN f 182 (tL f 181 (Tryz.f181,(gB Tryz.f181))) (tL f 182 (Tryz.f182,abH))))))) (tN f 217 (tN f 197 (tN f 185 (tN f 184 (tL f 183 (Tryz.f183,(gB Tryz.f183))) (tL f 184 (Tryz.f184,(tM Tryz.f184 34)))) (tN f 186 (tL f 185 (Tryz.f185,(tM Tryz.f185 35))) (tL f 186 (Tryz.f186,(tM Tryz.f186 36))))) (tN f 199 (tN f 198 (tL f 197 (Tryz.f197,(tM Tryz.f197 37))) (tL f 198 (Tryz.f198,(gB Tryz.f198)))) (tN f 215 (tL f 199 (Tryz.f199,(tM Tryz.f199 38))) (tN f 216 (tL f 215 (Tryz.f215,(gB Tryz.f215))) (tL f 216 (Tryz.f216,(tM Tryz.f216 39))))))) (tN f 222 (tN f 219 (tN f 218 (tL f 217 (Tryz.f217,(gB Tryz.f217))) (tL f 218 (Tryz.f218,(gB Tryz.f218)))) (tN f 220 (tL f 219 (Tryz.f219,(gB Tryz.f219))) (tN f 221 (tL f 220 (Tryz.f220,(tM Tryz.f220 40))) (tL f 221 (Tryz.f221,(gB Tryz.f221)))))) (tN f 225 (tN f 224 (tL f 222 (Tryz.f222,(tM Tryz.f222 41))) (tL f 224 (Tryz.f224,(tM Tryz.f224 42)))) (tN f 226 (tL f 225 (Tryz.f225,(gB Tryz.f225))) (tN f 229 (tL f 226 (Tryz.f226,(tM Tryz.f226 43))) (tL f 229 (Tryz.f229,abI))))))))) (tN f 269 (tN f 250 (tN f 239 (tN f 234 (tN f 232 (tN f 231 (tL f 230 (Tryz.f230,abJ)) (tL f 231 (Tryz.f231,abK))) (tN f 233 (tL f 232 (Tryz.f232,abL)) (tL f 233 (Tryz.f233,abM)))) (tN f 236 (tN f 235 (tL f 234 (Tryz.f234,abN)) (tL f 235 (Tryz.f235,abO))) (tN f 237 (tL f 236 (Tryz.f236,abP)) (tN f 238 (tL f 237 (Tryz.f237,abQ)) (tL f 238 (Tryz.f238,abR)))))) (tN f 243 (tN f 241 (tN f 240 (tL f 239 (Tryz.f239,abS)) (tL f 240 (Tryz.f240,(gB Tryz.f240)))) (tN f 242 (tL f 241 (Tryz.f241,(gB Tryz.f241))) (tL f 242 (Tryz.f242,(gB Tryz.f242))))) (tN f 245 (tN f 244 (tL f 243 (Tryz.f243,abT)) (tL f 244 (Tryz.f244,abU))) (tN f 246 (tL f 245 (Tryz.f245,(gB Tryz.f245))) (tN f 247 (tL f 246 (Tryz.f246,abV)) (tL f 247 (Tryz.f247,(tM Tryz.f247 49)))))))) (tN f 259 (tN f 254 (tN f 252 (tN f 251 (tL f 250 (Tryz.f250,(gB Tryz.f250))) (tL f 251 (Tryz.f251,(gB Tryz.f251)))) (tN f 253 (tL f 252 (Tryz.f252,abW)) (tL f 253 (Tryz.f253,abX)))) (tN f 256 (tN f 255 (tL f 254 (Tryz.f254,(gB Tryz.f254))) (tL f 255 (Tryz.f255,(gB Tryz.f255)))) (tN f 257 (tL f 256 (Tryz.f256,abY)) (tN f 258 (tL f 257 (Tryz.f257,abZ)) (tL f 258 (Tryz.f258,ab_)))))) (tN f 264 (tN f 261 (tN f 260 (tL f 259 (Tryz.f259,aca)) (tL f 260 (Tryz.f260,acb))) (tN f 262 (tL f 261 (Tryz.f261,acd)) (tN f 263 (tL f 262 (Tryz.f262,ace)) (tL f 263 (Tryz.f263,acf))))) (tN f 266 (tN f 265 (tL f 264 (Tryz.f264,acg)) (tL f 265 (Tryz.f265,ach))) (tN f 267 (tL f 266 (Tryz.f266,aci)) (tN f 268 (tL f 267 (Tryz.f267,(gB Tryz.f267))) (tL f 268 (Tryz.f268,acj)))))))) (tN f 289 (tN f 278 (tN f 273 (tN f 271 (tN f 270 (tL f 269 (Tryz.f269,ack)) (tL f 270 (Tryz.f270,acl))) (tN f 272 (tL f 271 (Tryz.f271,acm)) (tL f 272 (Tryz.f272,acn)))) (tN f 275 (tN f 274 (tL f 273 (Tryz.f273,aco)) (tL f 274 (Tryz.f274,acp))) (tN f 276 (tL f 275 (Tryz.f275,acq)) (tN f 277 (tL f 276 (Tryz.f276,acr)) (tL f 277 (Tryz.f277,acs)))))) (tN f 283 (tN f 280 (tN f 279 (tL f 278 (Tryz.f278,acu)) (tL f 279 (Tryz.f279,acv))) (tN f 281 (tL f 280 (Tryz.f280,acw)) (tN f 282 (tL f 281 (Tryz.f281,(gB Tryz.f281))) (tL f 282 (Tryz.f282,acx))))) (tN f 286 (tN f 285 (tL f 283 (Tryz.f283,(gB Tryz.f283))) (tL f 285 (Tryz.f285,acy))) (tN f 287 (tL f 286 (Tryz.f286,acz)) (tN f 288 (tL f 287 (Tryz.f287,acA)) (tL f 288 (Tryz.f288,acB))))))) (tN f 298 (tN f 293 (tN f 291 (tN f 290 (tL f 289 (Tryz.f289,(gB Tryz.f289))) (tL f 290 (Tryz.f290,acC))) (tN f 292 (tL f 291 (Tryz.f291,acD)) (tL f 292 (Tryz.f292,(gB Tryz.f292))))) (tN f 295 (tN f 294 (tL f 293 (Tryz.f293,(gB Tryz.f293))) (tL f 294 (Tryz.f294,(gB Tryz.f294)))) (tN f 296 (tL f 295 (Tryz.f295,(gB Tryz.f295))) (tN f 297 (tL f 296 (Tryz.f296,acE)) (tL f 297 (Tryz.f297,(gB Tryz.f297))))))) (tN f 303 (tN f 300 (tN f 299 (tL f 298 (Tryz.f298,(tM Tryz.f298 61))) (tL f 299 (Tryz.f299,(tM Tryz.f299 62)))) (tN f 301 (tL f 300 (Tryz.f300,(gB Tryz.f300))) (tN f 302 (tL f 301 (Tryz.f301,(tM Tryz.f301 63))) (tL f 302 (Tryz.f302,(tM Tryz.f302 64)))))) (tN f 305 (tN f 304 (tL f 303 (Tryz.f303,(gB Tryz.f303))) (tL f 304 (Tryz.f304,(gB Tryz.f304)))) (tN f 306 (tL f 305 (Tryz.f305,(gB Tryz.f305))) (tN f 307 (tL f 306 (Tryz.f306,(gB Tryz.f306))) (tL f 307 (Tryz.f307,(gB Tryz.f307)))))))))))
def Zy (f:Nat):Option ((Code×Cx)×fZ):=(tN f 32 (tN f 16 (tN f 8 (tN f 4 (tN f 2 (tN f 1 (tL f 0 d0) (tL f 1 d1)) (tN f 3 (tL f 2 d2) (tL f 3 d3))) (tN f 6 (tN f 5 (tL f 4 d4) (tL f 5 d5)) (tN f 7 (tL f 6 d6) (tL f 7 d7)))) (tN f 12 (tN f 10 (tN f 9 (tL f 8 d8) (tL f 9 d9)) (tN f 11 (tL f 10 d10) (tL f 11 d11))) (tN f 14 (tN f 13 (tL f 12 d12) (tL f 13 d13)) (tN f 15 (tL f 14 d14) (tL f 15 d15))))) (tN f 24 (tN f 20 (tN f 18 (tN f 17 (tL f 16 d16) (tL f 17 d17)) (tN f 19 (tL f 18 d18) (tL f 19 d19))) (tN f 22 (tN f 21 (tL f 20 d20) (tL f 21 d21)) (tN f 23 (tL f 22 d22) (tL f 23 d23)))) (tN f 28 (tN f 26 (tN f 25 (tL f 24 d24) (tL f 25 d25)) (tN f 27 (tL f 26 d26) (tL f 27 d27))) (tN f 30 (tN f 29 (tL f 28 d28) (tL f 29 d29)) (tN f 31 (tL f 30 d30) (tL f 31 d31)))))) (tN f 48 (tN f 40 (tN f 36 (tN f 34 (tN f 33 (tL f 32 d32) (tL f 33 d33)) (tN f 35 (tL f 34 d34) (tL f 35 d35))) (tN f 38 (tN f 37 (tL f 36 d36) (tL f 37 d37)) (tN f 39 (tL f 38 d38) (tL f 39 d39)))) (tN f 44 (tN f 42 (tN f 41 (tL f 40 d40) (tL f 41 d41)) (tN f 43 (tL f 42 d42) (tL f 43 d43))) (tN f 46 (tN f 45 (tL f 44 d44) (tL f 45 d45)) (tN f 47 (tL f 46 d46) (tL f 47 d47))))) (tN f 56 (tN f 52 (tN f 50 (tN f 49 (tL f 48 d48) (tL f 49 d49)) (tN f 51 (tL f 50 d50) (tL f 51 d51))) (tN f 54 (tN f 53 (tL f 52 d52) (tL f 53 d53)) (tN f 55 (tL f 54 d54) (tL f 55 d55)))) (tN f 60 (tN f 58 (tN f 57 (tL f 56 d56) (tL f 57 d57)) (tN f 59 (tL f 58 d58) (tL f 59 d59))) (tN f 62 (tN f 61 (tL f 60 d60) (tL f 61 d61)) (tN f 63 (tL f 62 d62) (tN f 64 (tL f 63 d63) (tL f 64 d64))))))))
def Fb:Fw:=⟨Rp,Zy⟩
def FO (f:Nat) (e:Func×fZ):Prop:=(∀(c:CH) (a:LH) us H,e.2 c (Fb.loop a) us H=UP uM c a e.1 us H)∧Tryz.prog.funcs[f]? = some e.1∧aQ Tryz.prog f∧okF y e.1=true
def LO (e:(Code×Cx)×fZ):Prop:=∀(c:CH) (a:LH) us H,e.2 c (Fb.loop a) us H=evL uM c a e.1.1 e.1.2 us H
theorem e6:FO 6 (Tryz.f6,(gB Tryz.f6)):=⟨λ_ _ _ _=>by kernel_rfl,Tryz.func6,Tryz.call6,by kernel_rfl⟩
theorem e7:FO 7 (Tryz.f7,(gB Tryz.f7)):=⟨λ_ _ _ _=>by kernel_rfl,Tryz.func7,Tryz.call7,by kernel_rfl⟩
theorem e16:FO 16 (Tryz.f16,(gB Tryz.f16)):=⟨λ_ _ _ _=>by kernel_rfl,Tryz.func16,Tryz.call16,by kernel_rfl⟩
theorem e27:FO 27 (Tryz.f27,(gB Tryz.f27)):=⟨λ_ _ _ _=>by kernel_rfl,Tryz.func27,Tryz.call27,by kernel_rfl⟩
theorem e28:FO 28 (Tryz.f28,(gB Tryz.f28)):=⟨λ_ _ _ _=>by kernel_rfl,Tryz.func28,Tryz.call28,by kernel_rfl⟩
theorem e29:FO 29 (Tryz.f29,(gB Tryz.f29)):=⟨λ_ _ _ _=>by kernel_rfl,Tryz.func29,Tryz.call29,by kernel_rfl⟩
theorem e30:FO 30 (Tryz.f30,(gB Tryz.f30)):=⟨λ_ _ _ _=>by kernel_rfl,Tryz.func30,Tryz.call30,by kernel_rfl⟩
theorem e31:FO 31 (Tryz.f31,(gB Tryz.f31)):=⟨λ_ _ _ _=>by kernel_rfl,Tryz.func31,Tryz.call31,by kernel_rfl⟩
theorem e36:FO 36 (Tryz.f36,(tM Tryz.f36 0)):=⟨λ_ _ _ _=>by kernel_rfl,Tryz.func36,Tryz.call36,by kernel_rfl⟩
theorem e37:FO 37 (Tryz.f37,(tM Tryz.f37 2)):=⟨λ_ _ _ _=>by kernel_rfl,Tryz.func37,Tryz.call37,by kernel_rfl⟩
theorem e39:FO 39 (Tryz.f39,(gB Tryz.f39)):=⟨λ_ _ _ _=>by kernel_rfl,Tryz.func39,Tryz.call39,by kernel_rfl⟩
theorem e40:FO 40 (Tryz.f40,(tM Tryz.f40 3)):=⟨λ_ _ _ _=>by kernel_rfl,Tryz.func40,Tryz.call40,by kernel_rfl⟩
theorem e42:FO 42 (Tryz.f42,(tM Tryz.f42 4)):=⟨λ_ _ _ _=>by kernel_rfl,Tryz.func42,Tryz.call42,by kernel_rfl⟩
theorem e43:FO 43 (Tryz.f43,(tM Tryz.f43 5)):=⟨λ_ _ _ _=>by kernel_rfl,Tryz.func43,Tryz.call43,by kernel_rfl⟩
theorem e52:FO 52 (Tryz.f52,(gB Tryz.f52)):=⟨λ_ _ _ _=>by kernel_rfl,Tryz.func52,Tryz.call52,by kernel_rfl⟩
theorem e53:FO 53 (Tryz.f53,(tM Tryz.f53 6)):=⟨λ_ _ _ _=>by kernel_rfl,Tryz.func53,Tryz.call53,by kernel_rfl⟩
theorem e54:FO 54 (Tryz.f54,(gB Tryz.f54)):=⟨λ_ _ _ _=>by kernel_rfl,Tryz.func54,Tryz.call54,by kernel_rfl⟩
theorem e96:FO 96 (Tryz.f96,(gB Tryz.f96)):=⟨λ_ _ _ _=>by kernel_rfl,Tryz.func96,Tryz.call96,by kernel_rfl⟩
theorem e97:FO 97 (Tryz.f97,(tM Tryz.f97 7)):=⟨λ_ _ _ _=>by kernel_rfl,Tryz.func97,Tryz.call97,by kernel_rfl⟩
theorem e98:FO 98 (Tryz.f98,(tM Tryz.f98 9)):=⟨λ_ _ _ _=>by kernel_rfl,Tryz.func98,Tryz.call98,by kernel_rfl⟩
theorem e99:FO 99 (Tryz.f99,(gB Tryz.f99)):=⟨λ_ _ _ _=>by kernel_rfl,Tryz.func99,Tryz.call99,by kernel_rfl⟩
theorem aei:FO 102 (Tryz.f102,(gB Tryz.f102)):=⟨λ_ _ _ _=>by kernel_rfl,Tryz.func102,Tryz.call102,by kernel_rfl⟩
theorem aej:FO 103 (Tryz.f103,(gB Tryz.f103)):=⟨λ_ _ _ _=>by kernel_rfl,Tryz.func103,Tryz.call103,by kernel_rfl⟩
theorem aek:FO 104 (Tryz.f104,(tM Tryz.f104 10)):=⟨λ_ _ _ _=>by kernel_rfl,Tryz.func104,Tryz.call104,by kernel_rfl⟩
theorem ael:FO 105 (Tryz.f105,(gB Tryz.f105)):=⟨λ_ _ _ _=>by kernel_rfl,Tryz.func105,Tryz.call105,by kernel_rfl⟩
theorem aem:FO 106 (Tryz.f106,(tM Tryz.f106 12)):=⟨λ_ _ _ _=>by kernel_rfl,Tryz.func106,Tryz.call106,by kernel_rfl⟩
theorem aen:FO 107 (Tryz.f107,(gB Tryz.f107)):=⟨λ_ _ _ _=>by kernel_rfl,Tryz.func107,Tryz.call107,by kernel_rfl⟩
theorem aeo:FO 109 (Tryz.f109,abC):=⟨λ_ _ _ _=>by kernel_rfl,Tryz.func109,Tryz.call109,by kernel_rfl⟩
theorem aep:FO 111 (Tryz.f111,(gB Tryz.f111)):=⟨λ_ _ _ _=>by kernel_rfl,Tryz.func111,Tryz.call111,by kernel_rfl⟩
theorem aeq:FO 112 (Tryz.f112,abD):=⟨λ_ _ _ _=>by kernel_rfl,Tryz.func112,Tryz.call112,by kernel_rfl⟩
theorem aer:FO 113 (Tryz.f113,(tM Tryz.f113 17)):=⟨λ_ _ _ _=>by kernel_rfl,Tryz.func113,Tryz.call113,by kernel_rfl⟩
theorem aes:FO 115 (Tryz.f115,abE):=⟨λ_ _ _ _=>by kernel_rfl,Tryz.func115,Tryz.call115,by kernel_rfl⟩
theorem aet:FO 123 (Tryz.f123,(gB Tryz.f123)):=⟨λ_ _ _ _=>by kernel_rfl,Tryz.func123,Tryz.call123,by kernel_rfl⟩
theorem aeu:FO 124 (Tryz.f124,(gB Tryz.f124)):=⟨λ_ _ _ _=>by kernel_rfl,Tryz.func124,Tryz.call124,by kernel_rfl⟩
theorem aev:FO 125 (Tryz.f125,(gB Tryz.f125)):=⟨λ_ _ _ _=>by kernel_rfl,Tryz.func125,Tryz.call125,by kernel_rfl⟩
theorem aew:FO 126 (Tryz.f126,(gB Tryz.f126)):=⟨λ_ _ _ _=>by kernel_rfl,Tryz.func126,Tryz.call126,by kernel_rfl⟩
theorem aex:FO 140 (Tryz.f140,(gB Tryz.f140)):=⟨λ_ _ _ _=>by kernel_rfl,Tryz.func140,Tryz.call140,by kernel_rfl⟩
theorem aey:FO 160 (Tryz.f160,(tM Tryz.f160 21)):=⟨λ_ _ _ _=>by kernel_rfl,Tryz.func160,Tryz.call160,by kernel_rfl⟩
theorem aez:FO 161 (Tryz.f161,(tM Tryz.f161 22)):=⟨λ_ _ _ _=>by kernel_rfl,Tryz.func161,Tryz.call161,by kernel_rfl⟩
theorem aeA:FO 162 (Tryz.f162,(tM Tryz.f162 23)):=⟨λ_ _ _ _=>by kernel_rfl,Tryz.func162,Tryz.call162,by kernel_rfl⟩
theorem aeB:FO 164 (Tryz.f164,(tM Tryz.f164 24)):=⟨λ_ _ _ _=>by kernel_rfl,Tryz.func164,Tryz.call164,by kernel_rfl⟩
theorem aeC:FO 165 (Tryz.f165,(gB Tryz.f165)):=⟨λ_ _ _ _=>by kernel_rfl,Tryz.func165,Tryz.call165,by kernel_rfl⟩
theorem aeD:FO 166 (Tryz.f166,(gB Tryz.f166)):=⟨λ_ _ _ _=>by kernel_rfl,Tryz.func166,Tryz.call166,by kernel_rfl⟩
theorem aeE:FO 168 (Tryz.f168,(tM Tryz.f168 26)):=⟨λ_ _ _ _=>by kernel_rfl,Tryz.func168,Tryz.call168,by kernel_rfl⟩
theorem aeF:FO 169 (Tryz.f169,(gB Tryz.f169)):=⟨λ_ _ _ _=>by kernel_rfl,Tryz.func169,Tryz.call169,by kernel_rfl⟩
theorem aeG:FO 171 (Tryz.f171,abF):=⟨λ_ _ _ _=>by kernel_rfl,Tryz.func171,Tryz.call171,by kernel_rfl⟩
theorem aeH:FO 172 (Tryz.f172,abG):=⟨λ_ _ _ _=>by kernel_rfl,Tryz.func172,Tryz.call172,by kernel_rfl⟩
theorem aeI:FO 175 (Tryz.f175,(gB Tryz.f175)):=⟨λ_ _ _ _=>by kernel_rfl,Tryz.func175,Tryz.call175,by kernel_rfl⟩
theorem aeJ:FO 176 (Tryz.f176,(tM Tryz.f176 29)):=⟨λ_ _ _ _=>by kernel_rfl,Tryz.func176,Tryz.call176,by kernel_rfl⟩
theorem aeK:FO 177 (Tryz.f177,(tM Tryz.f177 30)):=⟨λ_ _ _ _=>by kernel_rfl,Tryz.func177,Tryz.call177,by kernel_rfl⟩
theorem aeL:FO 178 (Tryz.f178,(gB Tryz.f178)):=⟨λ_ _ _ _=>by kernel_rfl,Tryz.func178,Tryz.call178,by kernel_rfl⟩
theorem aeM:FO 179 (Tryz.f179,(tM Tryz.f179 31)):=⟨λ_ _ _ _=>by kernel_rfl,Tryz.func179,Tryz.call179,by kernel_rfl⟩
theorem aeN:FO 180 (Tryz.f180,(gB Tryz.f180)):=⟨λ_ _ _ _=>by kernel_rfl,Tryz.func180,Tryz.call180,by kernel_rfl⟩
theorem aeO:FO 181 (Tryz.f181,(gB Tryz.f181)):=⟨λ_ _ _ _=>by kernel_rfl,Tryz.func181,Tryz.call181,by kernel_rfl⟩
theorem aeP:FO 182 (Tryz.f182,abH):=⟨λ_ _ _ _=>by kernel_rfl,Tryz.func182,Tryz.call182,by kernel_rfl⟩
theorem aeQ:FO 183 (Tryz.f183,(gB Tryz.f183)):=⟨λ_ _ _ _=>by kernel_rfl,Tryz.func183,Tryz.call183,by kernel_rfl⟩
theorem aeR:FO 184 (Tryz.f184,(tM Tryz.f184 34)):=⟨λ_ _ _ _=>by kernel_rfl,Tryz.func184,Tryz.call184,by kernel_rfl⟩
theorem aeS:FO 185 (Tryz.f185,(tM Tryz.f185 35)):=⟨λ_ _ _ _=>by kernel_rfl,Tryz.func185,Tryz.call185,by kernel_rfl⟩
theorem aeT:FO 186 (Tryz.f186,(tM Tryz.f186 36)):=⟨λ_ _ _ _=>by kernel_rfl,Tryz.func186,Tryz.call186,by kernel_rfl⟩
theorem aeU:FO 197 (Tryz.f197,(tM Tryz.f197 37)):=⟨λ_ _ _ _=>by kernel_rfl,Tryz.func197,Tryz.call197,by kernel_rfl⟩
theorem aeV:FO 198 (Tryz.f198,(gB Tryz.f198)):=⟨λ_ _ _ _=>by kernel_rfl,Tryz.func198,Tryz.call198,by kernel_rfl⟩
theorem aeW:FO 199 (Tryz.f199,(tM Tryz.f199 38)):=⟨λ_ _ _ _=>by kernel_rfl,Tryz.func199,Tryz.call199,by kernel_rfl⟩
theorem aeX:FO 215 (Tryz.f215,(gB Tryz.f215)):=⟨λ_ _ _ _=>by kernel_rfl,Tryz.func215,Tryz.call215,by kernel_rfl⟩
theorem aeY:FO 216 (Tryz.f216,(tM Tryz.f216 39)):=⟨λ_ _ _ _=>by kernel_rfl,Tryz.func216,Tryz.call216,by kernel_rfl⟩
theorem aeZ:FO 217 (Tryz.f217,(gB Tryz.f217)):=⟨λ_ _ _ _=>by kernel_rfl,Tryz.func217,Tryz.call217,by kernel_rfl⟩
theorem ae_:FO 218 (Tryz.f218,(gB Tryz.f218)):=⟨λ_ _ _ _=>by kernel_rfl,Tryz.func218,Tryz.call218,by kernel_rfl⟩
theorem afa:FO 219 (Tryz.f219,(gB Tryz.f219)):=⟨λ_ _ _ _=>by kernel_rfl,Tryz.func219,Tryz.call219,by kernel_rfl⟩
theorem afb:FO 220 (Tryz.f220,(tM Tryz.f220 40)):=⟨λ_ _ _ _=>by kernel_rfl,Tryz.func220,Tryz.call220,by kernel_rfl⟩
theorem afc:FO 221 (Tryz.f221,(gB Tryz.f221)):=⟨λ_ _ _ _=>by kernel_rfl,Tryz.func221,Tryz.call221,by kernel_rfl⟩
theorem afd:FO 222 (Tryz.f222,(tM Tryz.f222 41)):=⟨λ_ _ _ _=>by kernel_rfl,Tryz.func222,Tryz.call222,by kernel_rfl⟩
theorem afe:FO 224 (Tryz.f224,(tM Tryz.f224 42)):=⟨λ_ _ _ _=>by kernel_rfl,Tryz.func224,Tryz.call224,by kernel_rfl⟩
theorem aff:FO 225 (Tryz.f225,(gB Tryz.f225)):=⟨λ_ _ _ _=>by kernel_rfl,Tryz.func225,Tryz.call225,by kernel_rfl⟩
theorem afg:FO 226 (Tryz.f226,(tM Tryz.f226 43)):=⟨λ_ _ _ _=>by kernel_rfl,Tryz.func226,Tryz.call226,by kernel_rfl⟩
theorem afh:FO 229 (Tryz.f229,abI):=⟨λ_ _ _ _=>by kernel_rfl,Tryz.func229,Tryz.call229,by kernel_rfl⟩
theorem afi:FO 230 (Tryz.f230,abJ):=⟨λ_ _ _ _=>by kernel_rfl,Tryz.func230,Tryz.call230,by kernel_rfl⟩
theorem afj:FO 231 (Tryz.f231,abK):=⟨λ_ _ _ _=>by kernel_rfl,Tryz.func231,Tryz.call231,by kernel_rfl⟩
theorem afk:FO 232 (Tryz.f232,abL):=⟨λ_ _ _ _=>by kernel_rfl,Tryz.func232,Tryz.call232,by kernel_rfl⟩
theorem afl:FO 233 (Tryz.f233,abM):=⟨λ_ _ _ _=>by kernel_rfl,Tryz.func233,Tryz.call233,by kernel_rfl⟩
theorem afm:FO 234 (Tryz.f234,abN):=⟨λ_ _ _ _=>by kernel_rfl,Tryz.func234,Tryz.call234,by kernel_rfl⟩
theorem afn:FO 235 (Tryz.f235,abO):=⟨λ_ _ _ _=>by kernel_rfl,Tryz.func235,Tryz.call235,by kernel_rfl⟩
theorem afo:FO 236 (Tryz.f236,abP):=⟨λ_ _ _ _=>by kernel_rfl,Tryz.func236,Tryz.call236,by kernel_rfl⟩
theorem afp:FO 237 (Tryz.f237,abQ):=⟨λ_ _ _ _=>by kernel_rfl,Tryz.func237,Tryz.call237,by kernel_rfl⟩
theorem afq:FO 238 (Tryz.f238,abR):=⟨λ_ _ _ _=>by kernel_rfl,Tryz.func238,Tryz.call238,by kernel_rfl⟩
theorem afr:FO 239 (Tryz.f239,abS):=⟨λ_ _ _ _=>by kernel_rfl,Tryz.func239,Tryz.call239,by kernel_rfl⟩
theorem afs:FO 240 (Tryz.f240,(gB Tryz.f240)):=⟨λ_ _ _ _=>by kernel_rfl,Tryz.func240,Tryz.call240,by kernel_rfl⟩
theorem afu:FO 241 (Tryz.f241,(gB Tryz.f241)):=⟨λ_ _ _ _=>by kernel_rfl,Tryz.func241,Tryz.call241,by kernel_rfl⟩
theorem afv:FO 242 (Tryz.f242,(gB Tryz.f242)):=⟨λ_ _ _ _=>by kernel_rfl,Tryz.func242,Tryz.call242,by kernel_rfl⟩
theorem afw:FO 243 (Tryz.f243,abT):=⟨λ_ _ _ _=>by kernel_rfl,Tryz.func243,Tryz.call243,by kernel_rfl⟩
theorem afx:FO 244 (Tryz.f244,abU):=⟨λ_ _ _ _=>by kernel_rfl,Tryz.func244,Tryz.call244,by kernel_rfl⟩
theorem afy:FO 245 (Tryz.f245,(gB Tryz.f245)):=⟨λ_ _ _ _=>by kernel_rfl,Tryz.func245,Tryz.call245,by kernel_rfl⟩
theorem afz:FO 246 (Tryz.f246,abV):=⟨λ_ _ _ _=>by kernel_rfl,Tryz.func246,Tryz.call246,by kernel_rfl⟩
theorem afA:FO 247 (Tryz.f247,(tM Tryz.f247 49)):=⟨λ_ _ _ _=>by kernel_rfl,Tryz.func247,Tryz.call247,by kernel_rfl⟩
theorem afB:FO 250 (Tryz.f250,(gB Tryz.f250)):=⟨λ_ _ _ _=>by kernel_rfl,Tryz.func250,Tryz.call250,by kernel_rfl⟩
theorem afC:FO 251 (Tryz.f251,(gB Tryz.f251)):=⟨λ_ _ _ _=>by kernel_rfl,Tryz.func251,Tryz.call251,by kernel_rfl⟩
theorem afD:FO 252 (Tryz.f252,abW):=⟨λ_ _ _ _=>by kernel_rfl,Tryz.func252,Tryz.call252,by kernel_rfl⟩
theorem afE:FO 253 (Tryz.f253,abX):=⟨λ_ _ _ _=>by kernel_rfl,Tryz.func253,Tryz.call253,by kernel_rfl⟩
theorem afF:FO 254 (Tryz.f254,(gB Tryz.f254)):=⟨λ_ _ _ _=>by kernel_rfl,Tryz.func254,Tryz.call254,by kernel_rfl⟩
theorem afG:FO 255 (Tryz.f255,(gB Tryz.f255)):=⟨λ_ _ _ _=>by kernel_rfl,Tryz.func255,Tryz.call255,by kernel_rfl⟩
theorem afH:FO 256 (Tryz.f256,abY):=⟨λ_ _ _ _=>by kernel_rfl,Tryz.func256,Tryz.call256,by kernel_rfl⟩
theorem afI:FO 257 (Tryz.f257,abZ):=⟨λ_ _ _ _=>by kernel_rfl,Tryz.func257,Tryz.call257,by kernel_rfl⟩
theorem afJ:FO 258 (Tryz.f258,ab_):=⟨λ_ _ _ _=>by kernel_rfl,Tryz.func258,Tryz.call258,by kernel_rfl⟩
theorem afK:FO 259 (Tryz.f259,aca):=⟨λ_ _ _ _=>by kernel_rfl,Tryz.func259,Tryz.call259,by kernel_rfl⟩
theorem afL:FO 260 (Tryz.f260,acb):=⟨λ_ _ _ _=>by kernel_rfl,Tryz.func260,Tryz.call260,by kernel_rfl⟩
theorem afM:FO 261 (Tryz.f261,acd):=⟨λ_ _ _ _=>by kernel_rfl,Tryz.func261,Tryz.call261,by kernel_rfl⟩
theorem afN:FO 262 (Tryz.f262,ace):=⟨λ_ _ _ _=>by kernel_rfl,Tryz.func262,Tryz.call262,by kernel_rfl⟩
theorem afO:FO 263 (Tryz.f263,acf):=⟨λ_ _ _ _=>by kernel_rfl,Tryz.func263,Tryz.call263,by kernel_rfl⟩
theorem afP:FO 264 (Tryz.f264,acg):=⟨λ_ _ _ _=>by kernel_rfl,Tryz.func264,Tryz.call264,by kernel_rfl⟩
theorem afQ:FO 265 (Tryz.f265,ach):=⟨λ_ _ _ _=>by kernel_rfl,Tryz.func265,Tryz.call265,by kernel_rfl⟩
theorem afR:FO 266 (Tryz.f266,aci):=⟨λ_ _ _ _=>by kernel_rfl,Tryz.func266,Tryz.call266,by kernel_rfl⟩
theorem afS:FO 267 (Tryz.f267,(gB Tryz.f267)):=⟨λ_ _ _ _=>by kernel_rfl,Tryz.func267,Tryz.call267,by kernel_rfl⟩
theorem afT:FO 268 (Tryz.f268,acj):=⟨λ_ _ _ _=>by kernel_rfl,Tryz.func268,Tryz.call268,by kernel_rfl⟩
theorem afU:FO 269 (Tryz.f269,ack):=⟨λ_ _ _ _=>by kernel_rfl,Tryz.func269,Tryz.call269,by kernel_rfl⟩
theorem afV:FO 270 (Tryz.f270,acl):=⟨λ_ _ _ _=>by kernel_rfl,Tryz.func270,Tryz.call270,by kernel_rfl⟩
theorem afW:FO 271 (Tryz.f271,acm):=⟨λ_ _ _ _=>by kernel_rfl,Tryz.func271,Tryz.call271,by kernel_rfl⟩
theorem afX:FO 272 (Tryz.f272,acn):=⟨λ_ _ _ _=>by kernel_rfl,Tryz.func272,Tryz.call272,by kernel_rfl⟩
theorem afY:FO 273 (Tryz.f273,aco):=⟨λ_ _ _ _=>by kernel_rfl,Tryz.func273,Tryz.call273,by kernel_rfl⟩
theorem afZ:FO 274 (Tryz.f274,acp):=⟨λ_ _ _ _=>by kernel_rfl,Tryz.func274,Tryz.call274,by kernel_rfl⟩
theorem af_:FO 275 (Tryz.f275,acq):=⟨λ_ _ _ _=>by kernel_rfl,Tryz.func275,Tryz.call275,by kernel_rfl⟩
theorem aga:FO 276 (Tryz.f276,acr):=⟨λ_ _ _ _=>by kernel_rfl,Tryz.func276,Tryz.call276,by kernel_rfl⟩
theorem agb:FO 277 (Tryz.f277,acs):=⟨λ_ _ _ _=>by kernel_rfl,Tryz.func277,Tryz.call277,by kernel_rfl⟩
theorem agc:FO 278 (Tryz.f278,acu):=⟨λ_ _ _ _=>by kernel_rfl,Tryz.func278,Tryz.call278,by kernel_rfl⟩
theorem agd:FO 279 (Tryz.f279,acv):=⟨λ_ _ _ _=>by kernel_rfl,Tryz.func279,Tryz.call279,by kernel_rfl⟩
theorem age:FO 280 (Tryz.f280,acw):=⟨λ_ _ _ _=>by kernel_rfl,Tryz.func280,Tryz.call280,by kernel_rfl⟩
theorem agf:FO 281 (Tryz.f281,(gB Tryz.f281)):=⟨λ_ _ _ _=>by kernel_rfl,Tryz.func281,Tryz.call281,by kernel_rfl⟩
theorem agh:FO 282 (Tryz.f282,acx):=⟨λ_ _ _ _=>by kernel_rfl,Tryz.func282,Tryz.call282,by kernel_rfl⟩
theorem agi:FO 283 (Tryz.f283,(gB Tryz.f283)):=⟨λ_ _ _ _=>by kernel_rfl,Tryz.func283,Tryz.call283,by kernel_rfl⟩
theorem agj:FO 285 (Tryz.f285,acy):=⟨λ_ _ _ _=>by kernel_rfl,Tryz.func285,Tryz.call285,by kernel_rfl⟩
theorem agk:FO 286 (Tryz.f286,acz):=⟨λ_ _ _ _=>by kernel_rfl,Tryz.func286,Tryz.call286,by kernel_rfl⟩
theorem agl:FO 287 (Tryz.f287,acA):=⟨λ_ _ _ _=>by kernel_rfl,Tryz.func287,Tryz.call287,by kernel_rfl⟩
theorem agm:FO 288 (Tryz.f288,acB):=⟨λ_ _ _ _=>by kernel_rfl,Tryz.func288,Tryz.call288,by kernel_rfl⟩
theorem agn:FO 289 (Tryz.f289,(gB Tryz.f289)):=⟨λ_ _ _ _=>by kernel_rfl,Tryz.func289,Tryz.call289,by kernel_rfl⟩
theorem ago:FO 290 (Tryz.f290,acC):=⟨λ_ _ _ _=>by kernel_rfl,Tryz.func290,Tryz.call290,by kernel_rfl⟩
theorem agp:FO 291 (Tryz.f291,acD):=⟨λ_ _ _ _=>by kernel_rfl,Tryz.func291,Tryz.call291,by kernel_rfl⟩
theorem agq:FO 292 (Tryz.f292,(gB Tryz.f292)):=⟨λ_ _ _ _=>by kernel_rfl,Tryz.func292,Tryz.call292,by kernel_rfl⟩
theorem agr:FO 293 (Tryz.f293,(gB Tryz.f293)):=⟨λ_ _ _ _=>by kernel_rfl,Tryz.func293,Tryz.call293,by kernel_rfl⟩
theorem ags:FO 294 (Tryz.f294,(gB Tryz.f294)):=⟨λ_ _ _ _=>by kernel_rfl,Tryz.func294,Tryz.call294,by kernel_rfl⟩
theorem agt:FO 295 (Tryz.f295,(gB Tryz.f295)):=⟨λ_ _ _ _=>by kernel_rfl,Tryz.func295,Tryz.call295,by kernel_rfl⟩
theorem agu:FO 296 (Tryz.f296,acE):=⟨λ_ _ _ _=>by kernel_rfl,Tryz.func296,Tryz.call296,by kernel_rfl⟩
theorem agv:FO 297 (Tryz.f297,(gB Tryz.f297)):=⟨λ_ _ _ _=>by kernel_rfl,Tryz.func297,Tryz.call297,by kernel_rfl⟩
theorem agw:FO 298 (Tryz.f298,(tM Tryz.f298 61)):=⟨λ_ _ _ _=>by kernel_rfl,Tryz.func298,Tryz.call298,by kernel_rfl⟩
theorem agx:FO 299 (Tryz.f299,(tM Tryz.f299 62)):=⟨λ_ _ _ _=>by kernel_rfl,Tryz.func299,Tryz.call299,by kernel_rfl⟩
theorem agy:FO 300 (Tryz.f300,(gB Tryz.f300)):=⟨λ_ _ _ _=>by kernel_rfl,Tryz.func300,Tryz.call300,by kernel_rfl⟩
theorem agz:FO 301 (Tryz.f301,(tM Tryz.f301 63)):=⟨λ_ _ _ _=>by kernel_rfl,Tryz.func301,Tryz.call301,by kernel_rfl⟩
theorem agA:FO 302 (Tryz.f302,(tM Tryz.f302 64)):=⟨λ_ _ _ _=>by kernel_rfl,Tryz.func302,Tryz.call302,by kernel_rfl⟩
theorem agB:FO 303 (Tryz.f303,(gB Tryz.f303)):=⟨λ_ _ _ _=>by kernel_rfl,Tryz.func303,Tryz.call303,by kernel_rfl⟩
theorem agC:FO 304 (Tryz.f304,(gB Tryz.f304)):=⟨λ_ _ _ _=>by kernel_rfl,Tryz.func304,Tryz.call304,by kernel_rfl⟩
theorem agD:FO 305 (Tryz.f305,(gB Tryz.f305)):=⟨λ_ _ _ _=>by kernel_rfl,Tryz.func305,Tryz.call305,by kernel_rfl⟩
theorem agE:FO 306 (Tryz.f306,(gB Tryz.f306)):=⟨λ_ _ _ _=>by kernel_rfl,Tryz.func306,Tryz.call306,by kernel_rfl⟩
theorem agF:FO 307 (Tryz.f307,(gB Tryz.f307)):=⟨λ_ _ _ _=>by kernel_rfl,Tryz.func307,Tryz.call307,by kernel_rfl⟩
theorem l0:LO d0:=λ_ _ _ _=>by kernel_rfl
theorem l1:LO d1:=λ_ _ _ _=>by kernel_rfl
theorem l2:LO d2:=λ_ _ _ _=>by kernel_rfl
theorem l3:LO d3:=λ_ _ _ _=>by kernel_rfl
theorem l4:LO d4:=λ_ _ _ _=>by kernel_rfl
theorem l5:LO d5:=λ_ _ _ _=>by kernel_rfl
theorem l6:LO d6:=λ_ _ _ _=>by kernel_rfl
theorem l7:LO d7:=λ_ _ _ _=>by kernel_rfl
theorem l8:LO d8:=λ_ _ _ _=>by kernel_rfl
theorem l9:LO d9:=λ_ _ _ _=>by kernel_rfl
theorem l10:LO d10:=λ_ _ _ _=>by kernel_rfl
theorem l11:LO d11:=λ_ _ _ _=>by kernel_rfl
theorem l12:LO d12:=λ_ _ _ _=>by kernel_rfl
theorem l13:LO d13:=λ_ _ _ _=>by kernel_rfl
theorem l14:LO d14:=λ_ _ _ _=>by kernel_rfl
theorem l15:LO d15:=λ_ _ _ _=>by kernel_rfl
theorem l16:LO d16:=λ_ _ _ _=>by kernel_rfl
theorem l17:LO d17:=λ_ _ _ _=>by kernel_rfl
theorem l18:LO d18:=λ_ _ _ _=>by kernel_rfl
theorem l19:LO d19:=λ_ _ _ _=>by kernel_rfl
theorem l20:LO d20:=λ_ _ _ _=>by kernel_rfl
theorem l21:LO d21:=λ_ _ _ _=>by kernel_rfl
theorem l22:LO d22:=λ_ _ _ _=>by kernel_rfl
theorem l23:LO d23:=λ_ _ _ _=>by kernel_rfl
theorem l24:LO d24:=λ_ _ _ _=>by kernel_rfl
theorem l25:LO d25:=λ_ _ _ _=>by kernel_rfl
theorem l26:LO d26:=λ_ _ _ _=>by kernel_rfl
theorem l27:LO d27:=λ_ _ _ _=>by kernel_rfl
theorem l28:LO d28:=λ_ _ _ _=>by kernel_rfl
theorem l29:LO d29:=λ_ _ _ _=>by kernel_rfl
theorem l30:LO d30:=λ_ _ _ _=>by kernel_rfl
theorem l31:LO d31:=λ_ _ _ _=>by kernel_rfl
theorem l32:LO d32:=λ_ _ _ _=>by kernel_rfl
theorem l33:LO d33:=λ_ _ _ _=>by kernel_rfl
theorem l34:LO d34:=λ_ _ _ _=>by kernel_rfl
theorem l35:LO d35:=λ_ _ _ _=>by kernel_rfl
theorem l36:LO d36:=λ_ _ _ _=>by kernel_rfl
theorem l37:LO d37:=λ_ _ _ _=>by kernel_rfl
theorem l38:LO d38:=λ_ _ _ _=>by kernel_rfl
theorem l39:LO d39:=λ_ _ _ _=>by kernel_rfl
theorem l40:LO d40:=λ_ _ _ _=>by kernel_rfl
theorem l41:LO d41:=λ_ _ _ _=>by kernel_rfl
theorem l42:LO d42:=λ_ _ _ _=>by kernel_rfl
theorem l43:LO d43:=λ_ _ _ _=>by kernel_rfl
theorem l44:LO d44:=λ_ _ _ _=>by kernel_rfl
theorem l45:LO d45:=λ_ _ _ _=>by kernel_rfl
theorem l46:LO d46:=λ_ _ _ _=>by kernel_rfl
theorem l47:LO d47:=λ_ _ _ _=>by kernel_rfl
theorem l48:LO d48:=λ_ _ _ _=>by kernel_rfl
theorem l49:LO d49:=λ_ _ _ _=>by kernel_rfl
theorem l50:LO d50:=λ_ _ _ _=>by kernel_rfl
theorem l51:LO d51:=λ_ _ _ _=>by kernel_rfl
theorem l52:LO d52:=λ_ _ _ _=>by kernel_rfl
theorem l53:LO d53:=λ_ _ _ _=>by kernel_rfl
theorem l54:LO d54:=λ_ _ _ _=>by kernel_rfl
theorem l55:LO d55:=λ_ _ _ _=>by kernel_rfl
theorem l56:LO d56:=λ_ _ _ _=>by kernel_rfl
theorem l57:LO d57:=λ_ _ _ _=>by kernel_rfl
theorem l58:LO d58:=λ_ _ _ _=>by kernel_rfl
theorem l59:LO d59:=λ_ _ _ _=>by kernel_rfl
theorem l60:LO d60:=λ_ _ _ _=>by kernel_rfl
theorem l61:LO d61:=λ_ _ _ _=>by kernel_rfl
theorem l62:LO d62:=λ_ _ _ _=>by kernel_rfl
theorem l63:LO d63:=λ_ _ _ _=>by kernel_rfl
theorem l64:LO d64:=λ_ _ _ _=>by kernel_rfl
theorem KJ {f:Nat} {e:Func×fZ}:Rp f=some e->FO f e:=(rN (rN (rN (rN (rN (rN (rN (rL e6) (rL e7)) (rN (rL e16) (rL e27))) (rN (rN (rL e28) (rL e29)) (rN (rL e30) (rN (rL e31) (rL e36))))) (rN (rN (rN (rL e37) (rL e39)) (rN (rL e40) (rL e42))) (rN (rN (rL e43) (rL e52)) (rN (rL e53) (rN (rL e54) (rL e96)))))) (rN (rN (rN (rN (rL e97) (rL e98)) (rN (rL e99) (rL aei))) (rN (rN (rL aej) (rL aek)) (rN (rL ael) (rN (rL aem) (rL aen))))) (rN (rN (rN (rL aeo) (rL aep)) (rN (rL aeq) (rN (rL aer) (rL aes)))) (rN (rN (rL aet) (rL aeu)) (rN (rL aev) (rN (rL aew) (rL aex))))))) (rN (rN (rN (rN (rN (rL aey) (rL aez)) (rN (rL aeA) (rL aeB))) (rN (rN (rL aeC) (rL aeD)) (rN (rL aeE) (rN (rL aeF) (rL aeG))))) (rN (rN (rN (rL aeH) (rL aeI)) (rN (rL aeJ) (rL aeK))) (rN (rN (rL aeL) (rL aeM)) (rN (rL aeN) (rN (rL aeO) (rL aeP)))))) (rN (rN (rN (rN (rL aeQ) (rL aeR)) (rN (rL aeS) (rL aeT))) (rN (rN (rL aeU) (rL aeV)) (rN (rL aeW) (rN (rL aeX) (rL aeY))))) (rN (rN (rN (rL aeZ) (rL ae_)) (rN (rL afa) (rN (rL afb) (rL afc)))) (rN (rN (rL afd) (rL afe)) (rN (rL aff) (rN (rL afg) (rL afh)))))))) (rN (rN (rN (rN (rN (rN (rL afi) (rL afj)) (rN (rL afk) (rL afl))) (rN (rN (rL afm) (rL afn)) (rN (rL afo) (rN (rL afp) (rL afq))))) (rN (rN (rN (rL afr) (rL afs)) (rN (rL afu) (rL afv))) (rN (rN (rL afw) (rL afx)) (rN (rL afy) (rN (rL afz) (rL afA)))))) (rN (rN (rN (rN (rL afB) (rL afC)) (rN (rL afD) (rL afE))) (rN (rN (rL afF) (rL afG)) (rN (rL afH) (rN (rL afI) (rL afJ))))) (rN (rN (rN (rL afK) (rL afL)) (rN (rL afM) (rN (rL afN) (rL afO)))) (rN (rN (rL afP) (rL afQ)) (rN (rL afR) (rN (rL afS) (rL afT))))))) (rN (rN (rN (rN (rN (rL afU) (rL afV)) (rN (rL afW) (rL afX))) (rN (rN (rL afY) (rL afZ)) (rN (rL af_) (rN (rL aga) (rL agb))))) (rN (rN (rN (rL agc) (rL agd)) (rN (rL age) (rN (rL agf) (rL agh)))) (rN (rN (rL agi) (rL agj)) (rN (rL agk) (rN (rL agl) (rL agm)))))) (rN (rN (rN (rN (rL agn) (rL ago)) (rN (rL agp) (rL agq))) (rN (rN (rL agr) (rL ags)) (rN (rL agt) (rN (rL agu) (rL agv))))) (rN (rN (rN (rL agw) (rL agx)) (rN (rL agy) (rN (rL agz) (rL agA)))) (rN (rN (rL agB) (rL agC)) (rN (rL agD) (rN (rL agE) (rL agF)))))))))
theorem Wb {f:Nat} {e:(Code×Cx)×fZ}:Zy f=some e->LO e:=(rN (rN (rN (rN (rN (rN (rL (R:=λ_=>LO) l0) (rL (R:=λ_=>LO) l1)) (rN (rL (R:=λ_=>LO) l2) (rL (R:=λ_=>LO) l3))) (rN (rN (rL (R:=λ_=>LO) l4) (rL (R:=λ_=>LO) l5)) (rN (rL (R:=λ_=>LO) l6) (rL (R:=λ_=>LO) l7)))) (rN (rN (rN (rL (R:=λ_=>LO) l8) (rL (R:=λ_=>LO) l9)) (rN (rL (R:=λ_=>LO) l10) (rL (R:=λ_=>LO) l11))) (rN (rN (rL (R:=λ_=>LO) l12) (rL (R:=λ_=>LO) l13)) (rN (rL (R:=λ_=>LO) l14) (rL (R:=λ_=>LO) l15))))) (rN (rN (rN (rN (rL (R:=λ_=>LO) l16) (rL (R:=λ_=>LO) l17)) (rN (rL (R:=λ_=>LO) l18) (rL (R:=λ_=>LO) l19))) (rN (rN (rL (R:=λ_=>LO) l20) (rL (R:=λ_=>LO) l21)) (rN (rL (R:=λ_=>LO) l22) (rL (R:=λ_=>LO) l23)))) (rN (rN (rN (rL (R:=λ_=>LO) l24) (rL (R:=λ_=>LO) l25)) (rN (rL (R:=λ_=>LO) l26) (rL (R:=λ_=>LO) l27))) (rN (rN (rL (R:=λ_=>LO) l28) (rL (R:=λ_=>LO) l29)) (rN (rL (R:=λ_=>LO) l30) (rL (R:=λ_=>LO) l31)))))) (rN (rN (rN (rN (rN (rL (R:=λ_=>LO) l32) (rL (R:=λ_=>LO) l33)) (rN (rL (R:=λ_=>LO) l34) (rL (R:=λ_=>LO) l35))) (rN (rN (rL (R:=λ_=>LO) l36) (rL (R:=λ_=>LO) l37)) (rN (rL (R:=λ_=>LO) l38) (rL (R:=λ_=>LO) l39)))) (rN (rN (rN (rL (R:=λ_=>LO) l40) (rL (R:=λ_=>LO) l41)) (rN (rL (R:=λ_=>LO) l42) (rL (R:=λ_=>LO) l43))) (rN (rN (rL (R:=λ_=>LO) l44) (rL (R:=λ_=>LO) l45)) (rN (rL (R:=λ_=>LO) l46) (rL (R:=λ_=>LO) l47))))) (rN (rN (rN (rN (rL (R:=λ_=>LO) l48) (rL (R:=λ_=>LO) l49)) (rN (rL (R:=λ_=>LO) l50) (rL (R:=λ_=>LO) l51))) (rN (rN (rL (R:=λ_=>LO) l52) (rL (R:=λ_=>LO) l53)) (rN (rL (R:=λ_=>LO) l54) (rL (R:=λ_=>LO) l55)))) (rN (rN (rN (rL (R:=λ_=>LO) l56) (rL (R:=λ_=>LO) l57)) (rN (rL (R:=λ_=>LO) l58) (rL (R:=λ_=>LO) l59))) (rN (rN (rL (R:=λ_=>LO) l60) (rL (R:=λ_=>LO) l61)) (rN (rL (R:=λ_=>LO) l62) (rN (rL (R:=λ_=>LO) l63) (rL (R:=λ_=>LO) l64))))))))
theorem Ef:IB Fb uM:=⟨λh=>(KJ h).1,Wb⟩
theorem Wa {f:Nat} {e:Func×fZ} (h:Rp f=some e):Tryz.prog.funcs[f]? = some e.1∧aQ Tryz.prog f∧okF y e.1=true:=(KJ h).2
end
end Go.Gx
end
namespace Go.Gx
open Go Go.Sx
section
variable {P:Program} {gs:zL} {w0:eN gs} {tb:TB}
theorem Ni:r_ P w0 (λ_ _ _=>none):=λf b H g a h=>by cases h
theorem Hs:Gn P w0 tb (λ_ _ _ _=>none):=λb c d H a h=>by cases h
theorem Yi {C:CH} {G:LH} (y:fI P tb) (Q:P.follows .mixedOrders=true) (k:∀w0:eN gs,r_ P w0 C) (l:Gn P w0 tb G) {f:Nat} {d:Func} {J:List GV} {H:GH} {c:MK} (L:P.funcs[f]? = some d) (A:okF tb d=true) (h:UP tb C G d J H=some c) (O:c.e = .ret) {t:dX} {w:World} {s:List Value} (R:fP w0 t H w) (E:oQ t J s):
  Calls P f s.toArray w λe u=>∃v a,e = .returned v∧t.le a∧fP w0 a c.H u∧Rl a (SY c.vs) v:=by
 obtain⟨M,N⟩:=NJ A;obtain⟨i,D,h⟩:=aF.1 (show ob d.body _=some c from h);obtain⟨K,m,h⟩:=qP h;rw[List.range_eq_range']at m;have r:=IE m;have S:s.length<=d.ntmps:=by rw[<-E.len,r];exact N
 refine sW L D ?_;have F:kZ t d.ntmps K {tmps:=s.toArray++Array.replicate (d.ntmps - s.toArray.size) undef,defers:=[]}:=by
  refine Lm Z (by simp;omega) E (λj v p=> ?_) m;have z:=bG p;rw[Nat.zero_add,Array.getElem?_append_left (by simpa using z)];simpa using p
 refine Cq y Q k l i _ _ _ ⟨K,H⟩ c t _ w _ (M i D) h F R ⟨λI a B u q b n o=> ?_,λid I a B u q b n o=> ?_,λI a B u q b n o=> ?_⟩
 ·obtain⟨x,v,p,g⟩:=FU (fn:=d) y Z n o q;exact Sx.body_end (.inr Z) n.defers g ⟨v,a,rfl,b,by rw[x];exact o,p⟩
 ·have:=Az q;rw[O]at this;cases this
 ·obtain⟨x,v,p,g⟩:=FU (fn:=d) y Z n o q;exact Sx.body_end (.inl Z) n.defers g ⟨v,a,rfl,b,by rw[x];exact o,p⟩
noncomputable def Kp (tb:TB) (f:Nat) (a:Func):CH:=λg b H=>bif Nat.beq g f then KI (UP tb (λ_ _ _=>none) (λ_ _ _ _=>none) a b H)else none
theorem Uy (m:fI P tb) (p:P.follows .mixedOrders=true) {f:Nat} {c:Func} (k:P.funcs[f]? = some c) (n:aQ P f) (i:okF tb c=true):r_ P w0 (Kp tb f c):=λg r H x j h t w s R q=>by
 unfold Kp at h;cases b:Nat.beq g f with
 |false=>rw[b]at h;cases h
 |true=>
 rw[b]at h;have b:=Nat.eq_of_beq_eq_true b;subst b;replace h:KI (UP tb (λ_ _ _=>none) (λ_ _ _ _=>none) c r H)=some (x,j):=h;unfold KI at h;obtain⟨o,l,a⟩:=aF.1 h;cases d:o.e with
 |normal=>rw[d]at a;cases a
 |exit id=>rw[d]at a;cases a
 |ret=>
  rw[d]at a;cases a;exact .inr ⟨n _ w,Yi m p (λ_=>Ni) Hs k i l d R q⟩
theorem Tj {id:Nat} {o:Oper} {l:List Oper} {Q:Exit->Act->List Frame->World->Prop} {a:Act} {d:List Frame} {w:World} (x:l.all jJ=true) (C:o.guard=none) (r:(execOp a.eval o).run P w = .ok .recover w)
  (q:recoverD d=none) (h:Sx.wpList P (o::l).toArray (λe g t=>Q e g d t) l (a.put o.dst .nilIface) w):(Code.region id (o::l).toArray false).wpSIn (FR none) 0 P Q a d w:=by
 intro b k B f u c;have y:(o::l).toArray[0]? = some o:=by simp
 obtain⟨e,g,t,E,i⟩:=wp_opsIn (F:=FR none) (n:=0) (Q:=λe g t=>Q e g d t) (ops:=(o::l).toArray) (List.range' 1 l.length) (a.put o.dst .nilIface) w
  (by rw[wpOpsIn_eq_wpListIn l 1 (by intro j;simp[Nat.add_comm 1 j])];exact Sx.wpList_in l _ w x h) b k d f u c
 have H:Region.wanted o (yielded (o::l).toArray a.tmps)=true:=by simp[Region.wanted,C]
 have A:(lone (b.atR a (.inRegion (o::l).toArray (0::List.range' 1 l.length)::k)) d w).fenced P (FR none):=fenced_oper u c y (λ_ _=>trivial);have p:=stepGR_op (P:=P) (b:=b) (k:=k) (cs:=d) (w:=w) (rest:=List.range' 1 l.length) y H;rw[f,Oper.semAt_none]at p;have m:∀v,(b.atR a (.inRegion (o::l).toArray (0::List.range' 1 l.length)::k)).finish v=b.atR (a.put o.dst v) (.inRegion (o::l).toArray (List.range' 1 l.length)::k):=by
  intro v;rw[Frame.finish_atR,y];rfl
 have D:(b.atR a (.inRegion (o::l).toArray (0::List.range' 1 l.length)::k)).kind = .deferred:=B;have s:=tryRecover_deferred D d;have G:List.range (o::l).toArray.size=0::List.range' 1 l.length:=by simp[List.range_eq_range',List.range'_succ]
 have z:=stepR_region (P:=P) (b:=b) (a:=a) (k:=k) (cs:=d) (w:=w) (id:=id) (ops:=(o::l).toArray);rw[G]at z;refine⟨e,g,d,t,rfl,E,.of_steps (.head (fenced_calm u c Z) z (.one A (step_lone_go ?_))) i⟩
 rw[p,<-m];simp only[Frame.atR,f]at s ⊢;simp[stepG.apply,r,s,q]
theorem Si {ch:CH} {lp:LH} (I:fI P tb) (hm:P.follows .mixedOrders=true) {f:Nat} {i:Func} {id m d:Nat} {o:Oper} {l:List Oper} {b:Code} {U:Cx} {q:MK} {a:Array Value} {w:World}
  (c:∀w0:eN noG,r_ P w0 ch) (p:Gn P (eN.one w) tb lp) (X:P.funcs[f]? = some i) (V:i.body=some (.seq (.region id (o::l).toArray false) b)) (B:o.guard=none) (W:o.dst=some d) (A:d<i.ntmps)
  (u:∀ρ w,(execOp ρ o).run P w = .ok .recover w) (K:l.all (GN i.ntmps)=true) (hr:Gk tb i.ntmps b=true) (s:i.results = #[]) (aa:a.size<=i.ntmps)
  (h:Ew tb ch (o::l) (Yh tb ch lp b m U (FS [])) l ⟨[(d,.inil)],H0⟩=some q) (J:q.e = .normal):
  CallsDIn (FR none) 0 P f a .returning w λe u' E=>∃v,e = .returned v∧u' = .returning∧Lb w E:=by
 have D:l.all jJ=true:=List.all_eq_true.2 λo C=>(tH (List.all_eq_true.1 K o C)).1;refine callsDIn_of_wpSIn X V trivial λk T M=> ?_;have r:recoverD (k::T)=none:=by simp[recoverD,M]
 refine wpSIn_seq (Tj D B (u _ _) r ?_);have F:kZ (λ_=>none) i.ntmps [(d,.inil)] (({tmps:=a++Array.replicate (i.ntmps - a.size) undef,defers:=[]}:Act).put o.dst .nilIface):=by
  rw[W];refine kZ.put ⟨rfl,by simp;omega,λt g B=>(by cases B)⟩ A ?_;exact .inil
 refine FH I (c (eN.one w)) l ⟨[(d,.inil)],H0⟩ _ _ w K F (fP.start (eN.one w) Z) h λs' G S E Y L Q R=> ?_;refine wpSIn_of_wpIn Z ?_;refine Cq I hm c p b _ _ _ s' q G S E _ hr Y Q R ⟨λN x H O j n y z=> ?_,λid N x H O j n y z=> ?_,λN x H O j n y z=> ?_⟩
 ·refine⟨y.defers,k.mode,rfl,.tuple #[],?_,_,rfl,M,z.ext.ext⟩
  simp[results,s]
 ·have:=Az j;rw[J]at this;cases this
 ·have:=Mb j;rw[J]at this;cases this
theorem Ip {o:Oper} {l:List Oper} {b:Array Oper} {Q:Exit->Act->World->Prop} {a:Act} {w w':World} {v:Value} (c:o.guard=none) (d:(execOp a.eval o).run P w = .ok (.value v) w') (h:Sx.wpList P b Q l (a.put o.dst v) w'):Sx.wpList P b Q (o::l) a w:=by
 unfold Sx.wpList;rw[if_pos (by simp[Region.wanted,c])];exact .inl (by simp only[Oper.wp,d,Oper.upon];exact h)
theorem Ov {o:Oper} {l:List Oper} {b:Array Oper} {Q:Exit->Act->World->Prop} {a:Act} {w w':World} (c:o.guard=none) (d:(execOp a.eval o).run P w = .ok .skip w') (h:Sx.wpList P b Q l (a.put o.dst undef) w'):Sx.wpList P b Q (o::l) a w:=by
 unfold Sx.wpList;rw[if_pos (by simp[Region.wanted,c])];exact .inl (by simp only[Oper.wp,d,Oper.upon];exact h)
theorem Tk {o:Oper} {l:List Oper} {b:Array Oper} {Q:Exit->Act->World->Prop} {a:Act} {w:World} {f:Nat} {args:Array Value} {S:Value->World->Prop} (d:o.guard=none) (g:(execOp a.eval o).run P w = .ok (.enter f args) w)
  (c:Calls P f args w λe w'=>∃v,e = .returned v∧S v w') (h:∀v w',S v w'->Sx.wpList P b Q l (a.put o.dst v) w'):Sx.wpList P b Q (o::l) a w:=by
 unfold Sx.wpList;rw[if_pos (by simp[Region.wanted,d])];refine .inl ?_;simp only[Oper.wp,g,Oper.upon];refine c.mono ?_;rintro e w' ⟨v,rfl,i⟩;exact h v w' i
theorem aap (M:fI P tb) {c cc T1 T2 i0 i1 i2 i3 y0 y1 y2 y3 y4 y5 y6 y7:Nat} {p0 p1 p2 p3 p4 p5 p6 p7:String} {e0 e1 e2 e3 e4 e5 e6 e7:Array Edge} {z:Func} (hf:P.funcs[c]? = some z) (ag:aQ P c) (ah:aQ P cc)
  (hb:z.body=some (.seq (.region i0 #[⟨some 2,.alloc T1,y0,p0,e0,none⟩,⟨some 3,.alloc T2,y1,p1,e1,none⟩] false)
   (.seq (.region i1 #[⟨some 4,.makeFunc (.func cc) #[] #[.tmp 2,.tmp 3],y2,p2,e2,none⟩,⟨none,.defer ⟨.value (.tmp 4),#[],#[]⟩,y3,p3,e3,none⟩] false)
   (.seq (.region i2 #[⟨some 5,.move (.tmp 0),y4,p4,e4,none⟩,⟨some 6,.call ⟨.value (.tmp 5),#[],#[]⟩,y5,p5,e5,none⟩] false)
   (.seq (.region i3 #[⟨none,.store T1 (.tmp 2) (.const (.int .i64 0)),y6,p6,e6,none⟩,⟨none,.store T2 (.tmp 3) (.const (.int .i64 0)),y7,p7,e7,none⟩] false) .ret)))))
  (hn:z.ntmps=7) (Q:z.results = #[.cell 2 T1,.cell 3 T2])
  (aa:∀H,nM tb T1 H=some (.ptr H.n 0,H.new (.cells [yD]))) (ab:∀H,nM tb T2 H=some (.ptr H.n 0,H.new (.cells [yD])))
  (ae:∀H h c,GH.cells H h=some [c]->jU tb T1 (.ptr h 0) yD H=some (.un,H.set h (.cells [yD]))) (af:∀H h c,GH.cells H h=some [c]->jU tb T2 (.ptr h 0) yD H=some (.un,H.set h (.cells [yD])))
  (ac:∀H h,GH.cells H h=some [yD]->pZ tb T1 (.ptr h 0) H=some yD) (ad:∀H h,GH.cells H h=some [yD]->pZ tb T2 (.ptr h 0) H=some yD)
  (N:∀o w,o.size=2->CallsDIn (FR none) 0 P cc o .returning w λe u' l=>∃v,e = .returned v∧u' = .returning∧Lb w l)
  {G:dX} {g:Nat} {k j:List Value} {w:World} {H s:GH} {c1 c2:GV} (R:fP w0 G H w) (hc:∀i l,G.le i->fP w0 i ((H.new (.cells [yD])).new (.cells [yD])) l->∃x,kB P w0 i g (k++j) l x s) (h1:s.cells H.n=some [c1]) (J:s.cells (H.n+1)=some [c2]):
  kB P w0 G c [.func (.func g) k.toArray j.toArray] w (.tup [yD,yD]) ((((s.set H.n (.cells [yD])).set (H.n+1) (.cells [yD])).del H.n).del (H.n+1)):=by
 refine .inr ⟨ag _ w,?_⟩;refine Nj (r:=none) (n:=0) (callsIn_of_wp_defers hf hb trivial ?_);rw[hn];obtain⟨b,w1,ap,aj,C,R1,U⟩:=Hc (P:=P) M R (aa H);obtain⟨d,y,I,ak,p,R2,V⟩:=Hc (P:=P) M R1 (ab _);obtain⟨x,hx⟩:=hc I y (dX.le_trans C p) R2;refine wpIn_seq (sT Z ?_);refine Ip Z (v:=b) (w':=w1) (by simp[execOp,aj]) ?_;refine Ip Z (v:=d) (w':=y) (by simp[execOp,ak]) ?_;show Code.wpIn (FR none) 0 P _ _ (⟨#[.func (.func g) k.toArray j.toArray,undef,b,d,undef,undef,undef],[]⟩:Act) y;refine wpIn_seq (wpIn_region_lit ?_);refine wpListIn_plain Z λK hK=>⟨λ_ _=>trivial,?_⟩
 have hm:(Oper.semAt (FR none).round (⟨#[.func (.func g) k.toArray j.toArray,undef,b,d,undef,undef,undef],[]⟩:Act).eval ⟨some 4,.makeFunc (.func cc) #[] #[.tmp 2,.tmp 3],y2,p2,e2,none⟩).run P y = .ok (.value (.func (.func cc) #[] #[b,d])) y:=by
  rw[show(FR none).round=none from rfl,Oper.semAt_none];simp[execOp,Instr.makeFunc,Act.eval]
 rw[hm];refine hK _ _ ?_;show wpListIn _ _ _ _ _ _ (⟨#[.func (.func g) k.toArray j.toArray,undef,b,d,.func (.func cc) #[] #[b,d],undef,undef],[]⟩:Act) y;refine wpListIn_plain Z λK hK=>⟨λ_ _=>trivial,?_⟩
 have hm:(Oper.semAt (FR none).round (⟨#[.func (.func g) k.toArray j.toArray,undef,b,d,.func (.func cc) #[] #[b,d],undef,undef],[]⟩:Act).eval ⟨none,.defer ⟨.value (.tmp 4),#[],#[]⟩,y3,p3,e3,none⟩).run P y = .ok (.defer ⟨.fn (.func cc) #[b,d],#[]⟩) y:=by
  rw[show(FR none).round=none from rfl,Oper.semAt_none];simp[execOp,resolve,Act.eval,Deferred.ofValue]
 rw[hm];refine hK _ _ ?_;show Code.wpIn (FR none) 0 P _ _ (⟨#[.func (.func g) k.toArray j.toArray,undef,b,d,.func (.func cc) #[] #[b,d],undef,undef],[⟨.fn (.func cc) #[b,d],#[]⟩]⟩:Act) y;refine wpIn_seq (sT Z ?_);refine Ip Z (v:= .func (.func g) k.toArray j.toArray) (w':=y) (by simp[execOp,Act.eval]) ?_;show Sx.wpList _ _ _ _ (⟨#[.func (.func g) k.toArray j.toArray,undef,b,d,.func (.func cc) #[] #[b,d],.func (.func g) k.toArray j.toArray,undef],[⟨.fn (.func cc) #[b,d],#[]⟩]⟩:Act) y;have go:∀v D m,I.le m->fP w0 m s D->Code.wpIn (FR none) 0 P (.seq (.region i3 #[⟨none,.store T1 (.tmp 2) (.const (.int .i64 0)),y6,p6,e6,none⟩,⟨none,.store T2 (.tmp 3) (.const (.int .i64 0)),y7,p7,e7,none⟩] false) .ret) (bodyPostDIn (FR none) 0 P z λe l=>∃v i,e = .returned v∧G.le i∧fP w0 i ((((s.set H.n (.cells [yD])).set (H.n+1) (.cells [yD])).del H.n).del (H.n+1)) l∧Rl i (.tup [yD,yD]) v) (⟨#[.func (.func g) k.toArray j.toArray,undef,b,d,.func (.func cc) #[] #[b,d],.func (.func g) k.toArray j.toArray,v],[⟨.fn (.func cc) #[b,d],#[]⟩]⟩:Act) D:=by
  intro v D m a L;have hz:∀G,Rl G yD (.int .i64 0):=λG=> .int _ _;obtain⟨_,w4,aq,al,q,R4⟩:=He (P:=P) (T:=T1) M L ((U.le p).le a) (hz _) (ae _ _ _ h1);have Y:(s.set H.n (.cells [yD])).cells (H.n+1)=some [c2]:=by
   rw[iB]at J ⊢;rw[sA,if_neg (by omega)];exact J
  obtain⟨_,X,W,am,u,R5⟩:=He (P:=P) (T:=T2) M R4 ((V.le a).le q) (hz _) (af _ _ _ Y);refine wpIn_seq (sT Z ?_);refine Ov Z (w':=w4) (by simp[execOp,Act.eval,al]) ?_;refine Ov Z (w':=X) (by simp[execOp,Act.eval,Act.put,am]) ?_;refine wpIn_ret ?_;show LeavesIn (FR none) 0 P z #[.func (.func g) k.toArray j.toArray,undef,b,d,.func (.func cc) #[] #[b,d],.func (.func g) k.toArray j.toArray,v] _ [⟨.fn (.func cc) #[b,d],#[]⟩] .returning X;refine leavesIn_cons (f:=cc) (args:= #[b,d]) (by simp) (by simp[FR,Fence.wide]) (by simp[invoke,ah _ X]) (λ_ _=>trivial) ?_;refine(N #[b,d] X Z).mono ?_;rintro e u' w6 ⟨x6,rfl,rfl,O⟩;have R6:=R5.ext' O;have F:kZ W 7 [(2,.ptr H.n 0),(3,.ptr (H.n+1) 0)] (⟨#[.func (.func g) k.toArray j.toArray,undef,b,d,.func (.func cc) #[] #[b,d],.func (.func g) k.toArray j.toArray,v],[]⟩:Act):=by
   refine⟨rfl,rfl,λt g B=> ?_⟩
   rw[AC]at B;by_cases J:t=2
   ·rw[if_pos J]at B;cases B;rw[J];exact(((U.le p).le a).le q).le u
   ·rw[if_neg J,AC]at B;by_cases h3:t=3
    ·rw[if_pos h3]at B;cases B;rw[h3];exact((V.le a).le q).le u
    ·rw[if_neg h3]at B;cases B
  have E:PM tb ⟨z.results.toList,0,[]⟩ ⟨[(2,.ptr H.n 0),(3,.ptr (H.n+1) 0)],(s.set H.n (.cells [yD])).set (H.n+1) (.cells [yD])⟩=some ⟨.ret,[yD,yD],(s.set H.n (.cells [yD])).set (H.n+1) (.cells [yD])⟩:=by
   rw[Q];have q1:pZ tb T1 (.ptr H.n 0) ((s.set H.n (.cells [yD])).set (H.n+1) (.cells [yD]))=some yD:=ac _ _ (by rw[iB,sA,if_neg (by omega),sA,if_pos Z]);have q2:pZ tb T2 (.ptr (H.n+1) 0) ((s.set H.n (.cells [yD])).set (H.n+1) (.cells [yD]))=some yD:=ad _ _ (by rw[iB,sA,if_pos Z]);show ob (ob (pZ tb T1 (.ptr H.n 0) _) λv=>ob (ob (pZ tb T2 (.ptr (H.n+1) 0) _) λv=>ob (some []) λvs=>some (v::vs)) λvs=>some (v::vs)) _=_;rw[q1,q2];rfl
  obtain⟨_,v6,ao,an⟩:=FU (fn:=z) (P:=P) M Z F R6 E;exact⟨v6,an,v6,W,rfl,dX.le_trans C (dX.le_trans p (dX.le_trans a (dX.le_trans q u))),(R6.del _).del _,ao⟩
 rcases hx with⟨v,D,m,hr,a,L,_⟩|⟨hr,A⟩
 ·refine Ip Z (v:=v) (w':=D) (by simpa [execOp,resolve,Act.eval,Deferred.ofValue,invoke]using hr) ?_;exact go v D m a L
 ·refine Tk Z (f:=g) (args:=(k++j).toArray) (S:=λv l=>∃i,I.le i∧fP w0 i s l) (by simpa [execOp,resolve,Act.eval,Deferred.ofValue,invoke]using hr) (A.mono ?_) λv D ⟨m,a,L⟩=>go v D m a L;rintro e l ⟨v,i,rfl,ai,R',_⟩;exact⟨v,rfl,i,ai,R'⟩
end
end Go.Gx