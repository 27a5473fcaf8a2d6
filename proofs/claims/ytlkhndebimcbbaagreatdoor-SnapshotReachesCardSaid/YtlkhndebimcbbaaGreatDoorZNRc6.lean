/- Models and proofs. Conditions: none. -/
import Derived.Test.YtlkhndebimcbbaaGreatDoorZNRc5
import Derived.Test.YtlkhndebimcbbaaGreatDoorZNRc1
import Derived.RecoverIn
import Derived.DefersIn
import Derived.Lib.Bytealg
import Derived.Test.YtlkhndebimcbbaaGreatDoorZNRc2
set_option linter.unusedVariables false
set_option linter.unusedSimpArgs false
set_option maxHeartbeats 4000000
set_option maxRecDepth 20000
namespace Go.Gx
open Go Go.Sx Go.RowKit
section
variable {R α:Type}
theorem zU (r:OR) (k:GV->GH->Option R):fU r k=fU (fU r GZ) k:=by
 cases r with
 |none=>rfl
 |some p=>rfl
theorem dL (x:Option α) {f:α->Option R} {g:α->OR} {k:GV->GH->Option R} (h:∀a,f a=fU (g a) k):ob x f=fU (ob x g) k:=by
 cases x with
 |none=>rfl
 |some a=>exact h a
theorem acA {n:TB} {s:CH} {d:GF} {H:GH} (o:Op) (k:GV->GH->Option R):Po n s o d H k=fU (Po n s o d H GZ) k:=by
 have e:∀x (f:GV->Option GV),k1 x f d H k=fU (k1 x f d H GZ) k:=λx f=>dL _ λx=>dL _ λv=>dL _ λg=>rfl;have j:∀x y (f:GV->GV->Option GV),k2 x y f d H k=fU (k2 x y f d H GZ) k:=λx y f=>dL _ λx=>dL _ λv=>dL _ λu=>dL _ λg=>rfl;have B:∀x y z (f:GV->GV->GV->Option GV),k3 x y z f d H k=fU (k3 x y z f d H GZ) k:=λx y z f=>dL _ λx=>dL _ λv=>dL _ λu=>dL _ λt=>dL _ λg=>rfl;cases o with
 |move x=>exact dL _ λv=>rfl
 |assign x=>exact dL _ λv=>rfl
 |pick c x y=>exact B _ _ _ _
 |alloc T=>exact zU _ _
 |box T x=>exact dL _ λv=>zU _ _
 |build T G=>exact dL _ λJ=>dL _ λg=>rfl
 |buildSlice T m G=>exact dL _ λx=>zU _ _
 |load T x=>exact dL _ λv=>dL _ λg=>rfl
 |store T x y=>exact dL _ λv=>dL _ λu=>zU _ _
 |nilCheck x=>exact e _ _
 |binOp F T x y A=>exact j _ _ _
 |unOp F T x=>exact e _ _
 |convert S D x=>exact e _ _
 |makeFunc C first r=>
  cases C with
  |func f=>exact dL _ λI=>dL _ λJ=>rfl
  |_=>rfl
 |makeMap T q=>
  cases q with
  |none=>exact zU _ _
  |some x=>rfl
 |makeSlice T x y=>exact dL _ λv=>dL _ λu=>zU _ _
 |slice T x L K E=>
  cases E with
  |none=>exact dL _ λv=>dL _ λl=>dL _ λh=>dL _ λg=>rfl
  |some y=>rfl
 |fieldAddr T x f=>exact e _ _
 |field T x f=>exact e _ _
 |indexAddr T x y=>exact j _ _ _
 |index T x y=>exact j _ _ _
 |lookup T x y M=>exact dL _ λv=>dL _ λu=>dL _ λg=>rfl
 |mapUpdate T x y z=>exact dL _ λv=>dL _ λu=>dL _ λt=>zU _ _
 |extract x i=>exact e _ _
 | call c =>
  obtain⟨p,a,w⟩:=c;cases p with
  |value f=>exact dL _ λv=>dL _ λg=>dL _ λI=>zU _ _
  |invoke x m=>rfl
  | builtin b =>
   show Tw n a w b d H k=fU (Tw n a w b d H GZ) k;obtain⟨a⟩:=a;cases b with
   |len=>
    match a with
    | []=>rfl
    | [x]=>exact dL _ λT=>dL _ λv=>dL _ λg=>rfl
    |_::_::_=>rfl
   |max=>
    match a with
    | []=>rfl
    | [x]=>rfl
    | [x,y]=>exact j _ _ _
    |_::_::_::_=>rfl
   |min=>
    match a with
    | []=>rfl
    | [x]=>rfl
    | [x,y]=>exact j _ _ _
    |_::_::_::_=>rfl
   |append=>
    match a with
    | []=>rfl
    | [x]=>rfl
    | [x,y]=>exact dL _ λT=>dL _ λA=>dL _ λv=>dL _ λu=>zU _ _
    |_::_::_::_=>rfl
   |copy=>
    match a with
    | []=>rfl
    | [x]=>rfl
    | [x,y]=>exact dL _ λT=>dL _ λv=>dL _ λu=>zU _ _
    |_::_::_::_=>rfl
   |cap=>
    match a with
    | []=>rfl
    | [x]=>exact dL _ λT=>dL _ λv=>dL _ λg=>rfl
    |_::_::_=>rfl
   |_=>rfl
 |_=>rfl
theorem Dt {b a:GF}:∀{xs:List Operand},(∀x∈xs,kQ b x=kQ a x)->GC b xs=GC a xs
 | [],_=>rfl
 |x::xs,h=>by
  show ob (kQ b x) (λv=>ob (GC b xs) λc=>some (v::c))=ob (kQ a x) (λv=>ob (GC a xs) λc=>some (v::c));rw[h x zA7,Dt λy d=>h y (zAe _ d)]
theorem Du {b a:GF}:∀{xs:List (Nat×Operand)},(∀x∈xs,kQ b x.2=kQ a x.2)->uW b xs=uW a xs
 | [],_=>rfl
 |x::xs,h=>by
  show ob (kQ b x.2) (λv=>ob (uW b xs) λc=>some ((x.1,v)::c))=ob (kQ a x.2) (λv=>ob (uW a xs) λc=>some ((x.1,v)::c));rw[h x zA7,Du λy d=>h y (zAe _ d)]
theorem K_ {b a:GF} {o:Option Operand} (h:∀x∈o.toArray,kQ b x=kQ a x):Ix b o=Ix a o:=by
 cases o with
 |none=>rfl
 |some x=>
  show ob (kQ b x) (λv=>some (some v))=ob (kQ a x) (λv=>some (some v));rw[h x (by simp)]
theorem WG {n:TB} {G:CH} {j a:GF} {H:GH} {o:Op} {k:GV->GH->Option R} (h:∀x∈o.operands,kQ j x=kQ a x):Po n G o j H k=Po n G o a H k:=by
 have s:∀x (f:GV->Option GV),kQ j x=kQ a x->k1 x f j H k=k1 x f a H k:=λx f e=>by simp only[k1,ob,e]
 have t:∀x y (f:GV->GV->Option GV),kQ j x=kQ a x->kQ j y=kQ a y->k2 x y f j H k=k2 x y f a H k:=λx y f e w=>by simp only[k2,ob,e,w]
 have J:∀x y z (f:GV->GV->GV->Option GV),kQ j x=kQ a x->kQ j y=kQ a y->kQ j z=kQ a z->k3 x y z f j H k=k3 x y z f a H k:=λx y z f e w A=>by simp only[k3,ob,e,w,A]
 cases o with
 |move x=>show Jd x j H k=Jd x a H k;simp only[Jd,ob,h x (by simp[Op.operands])]
 |assign x=>show Jd x j H k=Jd x a H k;simp only[Jd,ob,h x (by simp[Op.operands])]
 |pick c x y=>exact J _ _ _ _ (h _ (by simp[Op.operands])) (h _ (by simp[Op.operands])) (h _ (by simp[Op.operands]))
 |alloc T=>rfl
 |box T x=>show acI x j H k=acI x a H k;simp only[acI,ob,h x (by simp[Op.operands])]
 | build T ps =>
  show ob (uW j ps.toList) _=ob (uW a ps.toList) _;rw[Du λx d=>h x.2 (by
   have:x∈ps:=by simpa using d
   simp only[Op.operands,List.mem_toArray,zAw];exact⟨x,d,rfl⟩)]
 | buildSlice T m ps =>
  show ob (uW j ps.toList) _=ob (uW a ps.toList) _;rw[Du λx d=>h x.2 (by
   simp only[Op.operands,List.mem_toArray,zAw];exact⟨x,d,rfl⟩)]
 |load T x=>show Va n T x j H k=Va n T x a H k;simp only[Va,ob,h x (by simp[Op.operands])]
 |store T x y=>show Oy n T x y j H k=Oy n T x y a H k;simp only[Oy,ob,h x (by simp[Op.operands]),h y (by simp[Op.operands])]
 |nilCheck x=>exact s _ _ (h _ (by simp[Op.operands]))
 |binOp L T x y M=>exact t _ _ _ (h _ (by simp[Op.operands])) (h _ (by simp[Op.operands]))
 |unOp L T x=>exact s _ _ (h _ (by simp[Op.operands]))
 |convert S D x=>exact s _ _ (h _ (by simp[Op.operands]))
 | makeFunc fn first caps =>
  cases fn with
  | func f =>
   show ob (GC j first.toList) _=ob (GC a first.toList) _;rw[Dt λx d=>h x (by simp only[Op.operands,Array.mem_append];exact .inl (by simpa using d)),
    Dt (xs:=caps.toList) λx d=>h x (by simp only[Op.operands,Array.mem_append];exact .inr (by simpa using d))]
  |_=>rfl
 |makeMap T q=>
  cases q with
  |none=>rfl
  |some x=>rfl
 |makeSlice T x y=>show Vd n T x y j H k=Vd n T x y a H k;simp only[Vd,ob,h x (by simp[Op.operands]),h y (by simp[Op.operands])]
 | slice T x lo hi mx =>
  cases mx with
  |none=>
   show ob (some x) (λx=>ob (kQ j x) λv=>ob (Ix j lo) λl=>ob (Ix j hi) λh=>ob (BR n T v l h H) λg=>k g H)=ob (some x) (λx=>ob (kQ a x) λv=>ob (Ix a lo) λl=>ob (Ix a hi) λh=>ob (BR n T v l h H) λg=>k g H);have C:Ix j lo=Ix a lo:=K_ λy F=>h y (by simp only[Op.operands,Array.mem_append];exact .inl (.inl (.inr F)));have B:Ix j hi=Ix a hi:=K_ λy F=>h y (by simp only[Op.operands,Array.mem_append];exact .inl (.inr F));have d:kQ j x=kQ a x:=h x (by simp only[Op.operands,Array.mem_append];exact .inl (.inl (.inl (by simp))));simp only[ob,C,B,d]
  |some y=>rfl
 |fieldAddr T x f=>exact s _ _ (h _ (by simp[Op.operands]))
 |field T x f=>exact s _ _ (h _ (by simp[Op.operands]))
 |indexAddr T x y=>exact t _ _ _ (h _ (by simp[Op.operands])) (h _ (by simp[Op.operands]))
 |index T x y=>exact t _ _ _ (h _ (by simp[Op.operands])) (h _ (by simp[Op.operands]))
 |lookup T x y I=>show Vb n T x y I j H k=Vb n T x y I a H k;simp only[Vb,ob,h x (by simp[Op.operands]),h y (by simp[Op.operands])]
 |mapUpdate T x y z=>show Ox n T x y z j H k=Ox n T x y z a H k;simp only[Ox,ob,h x (by simp[Op.operands]),h y (by simp[Op.operands]),h z (by simp[Op.operands])]
 |extract x i=>exact s _ _ (h _ (by simp[Op.operands]))
 | call c =>
  obtain⟨u,p,r⟩:=c;cases u with
  |value f=>
   have K:kQ j f=kQ a f:=h f (by simp[Op.operands,Call.operands]);have E:GC j p.toList=GC a p.toList:=Dt λx d=>h x (by simp[Op.operands,Call.operands];exact .inr (by simpa using d));show ob (kQ j f) _=ob (kQ a f) _;simp only[ob,K,E]
  |invoke x m=>rfl
  | builtin b =>
   show Tw n p r b j H k=Tw n p r b a H k;have d:∀x∈p,kQ j x=kQ a x:=λx d=>h x (by simp[Op.operands,Call.operands];exact d);obtain⟨p⟩:=p;cases b with
   |len=>
    match p,d with
    | [],_=>rfl
    | [x],d=>show WO n r.toList x j H k=WO n r.toList x a H k;simp only[WO,ob,d x (by simp)]
    |_::_::_,_=>rfl
   |max=>
    match p,d with
    | [],_=>rfl
    | [x],_=>rfl
    | [x,y],d=>exact t _ _ _ (d _ (by simp)) (d _ (by simp))
    |_::_::_::_,_=>rfl
   |min=>
    match p,d with
    | [],_=>rfl
    | [x],_=>rfl
    | [x,y],d=>exact t _ _ _ (d _ (by simp)) (d _ (by simp))
    |_::_::_::_,_=>rfl
   |append=>
    match p,d with
    | [],_=>rfl
    | [x],_=>rfl
    | [x,y],d=>show Zt n r.toList x y j H k=Zt n r.toList x y a H k;simp only[Zt,ob,d x (by simp),d y (by simp)]
    |_::_::_::_,_=>rfl
   |copy=>
    match p,d with
    | [],_=>rfl
    | [x],_=>rfl
    | [x,y],d=>show QB n r.toList x y j H k=QB n r.toList x y a H k;simp only[QB,ob,d x (by simp),d y (by simp)]
    |_::_::_::_,_=>rfl
   |cap=>
    match p,d with
    | [],_=>rfl
    | [x],d=>show WN n r.toList x j H k=WN n r.toList x a H k;simp only[WN,ob,d x (by simp)]
    |_::_::_,_=>rfl
   |_=>rfl
 |_=>rfl
end
noncomputable def FN (c:TB) (b:CH) (all:List Oper) (o:Oper) (a:GF) (H:GH):OR:=Option.casesOn (motive:=λ_=>OR) o.guard (Po c b o.op a H GZ) λg=>ob (Ie all g.1) λe=>ob e.dst λd=>ob (FP a d) λv=>evG c b o ⟨a,H⟩ g.2 v
theorem acr {b:TB} {a:CH} {all:List Oper} {o:Oper} {k:GS->RS} {s:GS}:KU b a all o k s=fU (FN b a all o s.σ s.H) (opK o.dst s k):=by
 unfold KU FN;cases o.guard with
 |none=>exact acA _ _
 |some g=>exact dL _ λd=>dL _ λc=>dL _ λv=>rfl
theorem FA {d:TB} {c:CH} {all:List Oper} {o:Oper} {k:GS->RS} {s:GS} {a:PL} (h:KU d c all o k s=some a):∃g b,FN d c all o s.σ s.H=some (g,b)∧k ⟨putD o.dst g s.σ,b⟩=some a:=by
 rw[acr]at h;obtain⟨g,b,e,f⟩:=nM h;exact⟨g,b,e,f⟩
theorem Tl {c:TB} {b:CH} {all:List Oper} {o:Oper} {d a:GF} {H:GH} (h:∀t∈o.looksAt all.toArray,FP d t=FP a t):FN c b all o d H=FN c b all o a H:=by
 have e:Po c b o.op d H GZ=Po c b o.op a H GZ:=WG λx l=>by
  cases x with
  |tmp t=>exact h t (List.mem_append_left _ (List.mem_filterMap.2 ⟨.tmp t,by simpa using l,rfl⟩))
  |_=>rfl
 unfold FN;cases j:o.guard with
 |none=>exact e
 | some g =>
  show ob (Ie all g.1) _=ob (Ie all g.1) _;cases f:Ie all g.1 with
  |none=>rfl
  | some oj =>
   show ob oj.dst _=ob oj.dst _;cases i:oj.dst with
   |none=>rfl
   | some dj =>
    have k:dj∈o.looksAt all.toArray:=by
     rw[uX]at f;simp[Oper.looksAt,j,f,i]
    show ob (FP d dj) (λv=>evG c b o ⟨d,H⟩ g.2 v)=ob (FP a dj) (λv=>evG c b o ⟨a,H⟩ g.2 v);rw[h dj k];cases FP a dj with
    |none=>rfl
    | some v =>
     show evG c b o ⟨d,H⟩ g.2 v=evG c b o ⟨a,H⟩ g.2 v;cases v with
     |bool q=>
      show Bool.casesOn (motive:=λ_=>OR) (UT q g.2) (some (.un,H)) (Po c b o.op d H GZ)=Bool.casesOn (motive:=λ_=>OR) (UT q g.2) (some (.un,H)) (Po c b o.op a H GZ);rw[e]
     |_=>rfl
section
variable {P:Program} {tb:TB} {gs:Ai} {w0:fC gs}
theorem Fz {u:CH} {all:List Oper} {n:Nat} {o:Oper} {r:GF} {H k:GH} {g:GV} {ρ:eG} {a:Act} (F:lM ρ n r a) (h:FN tb u all o r H=some (g,k)):
  (Region.wanted o (yielded all.toArray a.tmps)=true∧Po tb u o.op r H GZ=some (g,k))∨(Region.wanted o (yielded all.toArray a.tmps)=false∧g = .un∧k=H):=by
 unfold FN at h;cases l:o.guard with
 |none=>
  rw[l]at h;exact .inl ⟨by simp[Region.wanted,l],h⟩
 | some gd =>
  rw[l]at h;obtain⟨A,m,h⟩:=aF.1 (show ob (Ie all gd.1) _=some (g,k)from h);obtain⟨i,s,h⟩:=aF.1 h;obtain⟨v,y,j⟩:=aF.1 h;have e:=F.slot i v y;rw[uX]at m;have t:yielded all.toArray a.tmps gd.1=(match a.tmps[i]? with|some (.bool b)=>some b|_=>none):=by
   unfold yielded;have:(all.toArray[gd.1]?).bind (·.dst)=some i:=by simp[m,s]
   rw[this];rfl
  cases v with
  | bool q =>
   have d:=e.bool_inv;have x:a.tmps[i]? = some (.bool q):=by
    simp only[Act.eval,Array.getD_eq_getD_getElem?]at d;cases p:a.tmps[i]? with
    |none=>rw[p]at d;cases d
    |some z=>rw[p]at d;simp at d;rw[d]
   rw[x]at t;have c:Bool.casesOn (motive:=λ_=>OR) (UT q gd.2) (some (.un,H)) (Po tb u o.op r H GZ)=some (g,k):=j;rw[Gz]at c;have w:Region.wanted o (yielded all.toArray a.tmps)=(q==gd.2):=by
    simp only[Region.wanted,l];rw[t];cases q<;>cases gd.2<;>rfl
   cases f:(q==gd.2)with
   |true=>rw[f]at c;exact .inl ⟨by rw[w,f],c⟩
   |false=>rw[f]at c;cases c;exact .inr ⟨by rw[w,f],rfl,rfl⟩
  | un =>
   have d:=e.un_inv;cases j;refine .inr ⟨?_,rfl,rfl⟩;simp only[Region.wanted,l];rw[t];have:(match a.tmps[i]? with|some (.bool b)=>some b|_=>none)=(none:Option Bool):=by
    simp only[Act.eval,Array.getD_eq_getD_getElem?]at d;cases p:a.tmps[i]? with
    |none=>rfl
    |some z=>rw[p]at d;simp at d;rw[d];rfl
   rw[this];rfl
  |_=>cases j
theorem JO {f:CH} (k:fN P tb) (c:sX P w0 f) {all:List Oper} {n:Nat} {o:Oper} {e:GF} {H b:GH} {g:GV} {d:eG} {a:Act} {w:World} (p:IG n o=true) (F:lM d n e a) (R:fW w0 d H w) (h:FN tb f all o e H=some (g,b)):
  (Region.wanted o (yielded all.toArray a.tmps)=true∧CC P w0 d e a w o g H b)∨(Region.wanted o (yielded all.toArray a.tmps)=false∧g = .un∧b=H):=by
 obtain⟨_,_,j⟩:=uK p;rcases Fz F h with⟨r,l⟩|h
 ·obtain⟨s,i,m,q⟩:=Tq k c F R j l;cases m;exact .inl ⟨r,q⟩
 ·exact .inr h
def aal (tb:TB) (T:TypeId):Bool:=match tb T with
 |some t=>(match t.desc with|.array .. => false|_=>true)
 |none=>false
def pureOp (tb:TB):Op->Bool
 | .move _ | .assign _ | .pick .. | .build .. | .nilCheck _ | .binOp .. | .unOp .. | .convert .. | .makeFunc .. | .fieldAddr .. | .field .. | .indexAddr .. | .index .. | .extract .. => true
 | .slice T _ _ _ _=>aal tb T
 | .call ⟨.builtin .len,_,_⟩ | .call ⟨.builtin .max,_,_⟩ | .call ⟨.builtin .min,_,_⟩=>true
 |_=>false
def isFloat:Op->Bool
 | .buildSlice .. | .alloc .. | .box .. => true
 |_=>false
theorem h_ {b:eG} {g:GV} {s:Sem Value} {a:Act} {o:Oper} (h:Dc P b s g) (c:∀w v,s.run P w = .ok v w->(execOp a.eval o).run P w = .ok (.value v) w):∃v,Rl b g v∧∀w,(execOp a.eval o).run P w = .ok (.value v) w:=
 let ⟨v,hv,hr⟩:=h;⟨v,hv,λw=>c w v (hr w)⟩
theorem Zg {ih:CH} (E:fN P tb) {ρ:eG} {n:Nat} {s:GF} {a:Act} (F:lM ρ n s a) {o:Oper} {H r:GH} {g:GV} (R:pureOp tb o.op=true) (aa:Lu o.op=true) (h:Po tb ih o.op s H GZ=some (g,r)):
  r=H∧∃v,Rl ρ g v∧∀w,(execOp a.eval o).run P w = .ok (.value v) w:=by
 obtain⟨d,W,J,ad,ac,gd⟩:=o;cases W with
 |move x=>
  obtain⟨v,q,h⟩:=aF.1 (show ob (kQ s x) _=some (g,r)from h);cases h;exact⟨rfl,_,cI F q,λw=>by simp[execOp]⟩
 |assign x=>
  obtain⟨v,q,h⟩:=aF.1 (show ob (kQ s x) _=some (g,r)from h);cases h;exact⟨rfl,_,cI F q,λw=>by simp[execOp]⟩
 |pick c x y=>
  obtain⟨v,q,h⟩:=aF.1 (show ob (kQ s c) _=some (g,r)from h);obtain⟨u,C,h⟩:=aF.1 h;obtain⟨t,ht,h⟩:=aF.1 h;obtain⟨z,k,h⟩:=aF.1 h;cases h;obtain⟨b,hb,k⟩:=aF.1 (show ob v.asB _=some g from k);have Y:=cI F q;rw[Ck hb]at Y;cases b with
  |true=>cases k;exact⟨rfl,_,cI F C,λw=>by simp[execOp,Y.bool_inv,asBool]⟩
  |false=>cases k;exact⟨rfl,_,cI F ht,λw=>by simp[execOp,Y.bool_inv,asBool]⟩
 | build T ps =>
  obtain⟨vs,N,h⟩:=aF.1 (show ob (uW s ps.toList) _=some (g,r)from h);obtain⟨z,k,h⟩:=aF.1 h;cases h;exact⟨rfl,h_ (NB E (CK F N) k) (λw v j=>by
   have e:(ps.toList.map λp=>(p.1,a.eval p.2)).toArray=ps.map λp=>(p.1,a.eval p.2):=by apply Array.toList_inj.1;simp
   rw[e]at j;simp[execOp,j])⟩
 |nilCheck x=>
  obtain⟨v,q,h⟩:=aF.1 (show ob (kQ s x) _=some (g,r)from h);obtain⟨z,k,h⟩:=aF.1 h;cases h;obtain⟨rfl,j⟩:=QP (P:=P) (cI F q) k;exact⟨rfl,_,cI F q,λw=>j _ x a.eval Z Z w⟩
 | binOp W T x y T' =>
  obtain⟨v,q,h⟩:=aF.1 (show ob (kQ s x) _=some (g,r)from h);obtain⟨u,C,h⟩:=aF.1 h;obtain⟨z,k,h⟩:=aF.1 h;cases h;exact⟨rfl,h_ (VL E x y (cI F q) (cI F C) k) (λw v j=>by
   simp only[execOp];simp at j ⊢;cases V:Sem.run P (eqGuard W T x y (a.eval x) (a.eval y)) w with
   |ok u w1=>rw[V]at j;simp at j;simp[j]
   |halt h1 w1=>rw[V]at j;cases j)⟩
 |unOp W T x=>
  obtain⟨v,q,h⟩:=aF.1 (show ob (kQ s x) _=some (g,r)from h);obtain⟨z,k,h⟩:=aF.1 h;cases h;exact⟨rfl,h_ (aaL (cI F q) k) (λw v j=>by simp[execOp,j])⟩
 |convert S D x=>
  obtain⟨v,q,h⟩:=aF.1 (show ob (kQ s x) _=some (g,r)from h);obtain⟨z,k,h⟩:=aF.1 h;cases h;exact⟨rfl,h_ (RQ E (cI F q) k) (λw v j=>by simp[execOp,j])⟩
 | makeFunc fn first caps =>
  cases fn with
  |func f=>
   obtain⟨us,ab,h⟩:=aF.1 (show ob (GC s first.toList) _=some (g,r)from h);obtain⟨vs,N,h⟩:=aF.1 h;cases h;refine⟨rfl,_,Rl.fn' (FB F ab) (FB F N),λw=> ?_⟩
   have e1:(first.toList.map a.eval).toArray=first.map a.eval:=by apply Array.toList_inj.1;simp
   have e2:(caps.toList.map a.eval).toArray=caps.map a.eval:=by apply Array.toList_inj.1;simp
   rw[e1,e2];simp[execOp,Instr.makeFunc]
  |_=>cases h
 |fieldAddr T x f=>
  obtain⟨v,q,h⟩:=aF.1 (show ob (kQ s x) _=some (g,r)from h);obtain⟨z,k,h⟩:=aF.1 h;cases h;exact⟨rfl,h_ (NC E (cI F q) k) (λw v j=>by simp[execOp,j])⟩
 |field T x f=>
  obtain⟨v,q,h⟩:=aF.1 (show ob (kQ s x) _=some (g,r)from h);obtain⟨z,k,h⟩:=aF.1 h;cases h;exact⟨rfl,h_ (R_ E (cI F q) k) (λw v j=>by simp[execOp,j])⟩
 |indexAddr T x y=>
  obtain⟨v,q,h⟩:=aF.1 (show ob (kQ s x) _=some (g,r)from h);obtain⟨u,C,h⟩:=aF.1 h;obtain⟨z,k,h⟩:=aF.1 h;cases h;exact⟨rfl,h_ (ND E (cI F q) (cI F C) k) (λw v j=>by simp[execOp,j])⟩
 |index T x y=>
  obtain⟨v,q,h⟩:=aF.1 (show ob (kQ s x) _=some (g,r)from h);obtain⟨u,C,h⟩:=aF.1 h;obtain⟨z,k,h⟩:=aF.1 h;cases h;exact⟨rfl,h_ (aaB E (cI F q) (cI F C) k) (λw v j=>by simp[execOp,j])⟩
 | slice T x lo hi mx =>
  cases mx with
  | none =>
   obtain⟨v,q,h⟩:=aF.1 (show ob (kQ s x) _=some (g,r)from h);obtain⟨l,hl,h⟩:=aF.1 h;obtain⟨e,he,h⟩:=aF.1 h;obtain⟨z,k,h⟩:=aF.1 h;cases h;have hA:∀t,tb T=some t->tdA t.desc=none:=λt ht=>by
    have U:aal tb T=true:=R;unfold aal at U;rw[ht]at U;simp only at U;cases V:t.desc<;>rw[V]at U<;>first|rfl|cases U
   exact⟨rfl,h_ (NE (gs:=noG) E (.inr hA) (cI F q) (JU F hl) (JU F he) k) (λw v j=>by simp[execOp,j])⟩
  |some y=>cases h
 |extract x i=>
  obtain⟨v,q,h⟩:=aF.1 (show ob (kQ s x) _=some (g,r)from h);obtain⟨z,k,h⟩:=aF.1 h;cases h;exact⟨rfl,h_ (VP (cI F q) k) (λw v j=>by simp[execOp,j])⟩
 | call c =>
  obtain⟨X,Q,B⟩:=c;cases X with
  |value f=>cases R
  |invoke x m=>cases R
  | builtin b =>
   have A:B.size=Q.size:=zA4 aa;have h:Tw tb Q B b s H GZ=some (g,r):=h;cases b with
   | len =>
    obtain⟨x,O,h⟩:=Dx (show Lg Q.toList (WO tb B.toList) s H GZ=some (g,r)from h);obtain⟨T,M,h⟩:=aF.1 (show ob (Ie B.toList 0) _=some (g,r)from h);obtain⟨v,q,h⟩:=aF.1 h;obtain⟨z,k,h⟩:=aF.1 h;cases h;have L:=Ke O;subst L;have K:B = #[T]:=by
     rw[uX]at M;obtain⟨l⟩:=B
     match l,A with
     | [t],_=>simp at M;subst M;rfl
    subst K;exact⟨rfl,h_ (VQ E (ty:=J) (cI F q) k) (λw v j=>by simp[execOp,resolve,invoke,builtin,j])⟩
   | cap =>
    obtain⟨x,O,h⟩:=Dx (show Lg Q.toList (WN tb B.toList) s H GZ=some (g,r)from h);obtain⟨T,M,h⟩:=aF.1 (show ob (Ie B.toList 0) _=some (g,r)from h);obtain⟨v,q,h⟩:=aF.1 h;obtain⟨z,k,h⟩:=aF.1 h;cases h;have L:=Ke O;subst L;have K:B = #[T]:=by
     rw[uX]at M;obtain⟨l⟩:=B
     match l,A with
     | [t],_=>simp at M;subst M;rfl
    subst K;exact⟨rfl,h_ (VN E (ty:=J) (cI F q) k) (λw v j=>by simp[execOp,resolve,invoke,builtin,j])⟩
   | max =>
    obtain⟨x,y,O,h⟩:=zL (show EM Q.toList (λx y=>k2 x y aaI) s H GZ=some (g,r)from h);obtain⟨v,q,h⟩:=aF.1 (show ob (kQ s x) _=some (g,r)from h);obtain⟨u,C,h⟩:=aF.1 h;obtain⟨z,k,h⟩:=aF.1 h;cases h;have L:=FK O;subst L;obtain⟨G,I,K⟩:∃G I,B = #[G,I]:=by
     obtain⟨l⟩:=B
     match l,A with
     | [t,t'],_=>exact⟨t,t',rfl⟩
    subst K;exact⟨rfl,h_ (VS (t1:=G) (t2:=I) (ty:=J) (cI F q) (cI F C) k) (λw v j=>by simp[execOp,resolve,invoke,builtin,j])⟩
   | min =>
    obtain⟨x,y,O,h⟩:=zL (show EM Q.toList (λx y=>k2 x y aaJ) s H GZ=some (g,r)from h);obtain⟨v,q,h⟩:=aF.1 (show ob (kQ s x) _=some (g,r)from h);obtain⟨u,C,h⟩:=aF.1 h;obtain⟨z,k,h⟩:=aF.1 h;cases h;have L:=FK O;subst L;obtain⟨G,I,K⟩:∃G I,B = #[G,I]:=by
     obtain⟨l⟩:=B
     match l,A with
     | [t,t'],_=>exact⟨t,t',rfl⟩
    subst K;exact⟨rfl,h_ (VT (t1:=G) (t2:=I) (ty:=J) (cI F q) (cI F C) k) (λw v j=>by simp[execOp,resolve,invoke,builtin,j])⟩
   |_=>cases R
 |_=>cases R
theorem RP (hG:fN P tb) {T:TypeId} {n:Nat} {l:List (Nat×GV)} {parts:List (Nat×Value)} {ρ:eG} {H H':GH} {g:GV} (hp:RlP ρ l parts) (h:Bl tb T n l H=some (g,H')):
  ∃cs a' T' len sz,H'=H.new (.cells cs)∧g = .sl H.n 0 len sz∧Wg ρ cs a'∧cs.length=a'.size∧∀w:World,∃V,(Instr.buildSlice T n parts.toArray).run P w = .ok V (w.alloc (.cells a' T'))∧∀ρ':eG,ρ' H.n=some ⟨w.heap.size,0,a'.size,.cells a' T',.cells cs⟩->Rl ρ' g V:=by
 obtain⟨te,hte,h⟩:=aF.1 (show ob (By tb T) _=some (g,H')from h);obtain⟨zc,hz,h⟩:=aF.1 h;obtain⟨hlen,h⟩:=bP.1 h;obtain⟨hbig,h⟩:=bP.1 h;obtain⟨h0,h⟩:=lD.1 h;obtain⟨cs,hfill,h⟩:=aF.1 h;rw[jP]at h;cases h;obtain⟨⟨d,hd,hde⟩,hE,htab⟩:=zI hG hte;obtain⟨dz,hdz,_,hC⟩:=xL (ρ:=ρ) hG hz;rw[htab]at hdz;cases hdz;have hlen:zc.length=te.2.size:=zA4 hlen;have h0:te.2.size≠0:=λe=>by rw[e]at h0;cases h0
 have hbig:n*te.2.size<16777216:=by simpa [zAy]using hbig
 have hrep:=J_ hC (by omega) n;rw[hlen]at hrep;obtain⟨a',f1,f2⟩:=FC hp hrep hfill;have hsz0:cs.length=a'.size:=by have:=f2.r.len;simpa using this
 have hsz:a'.size=n*te.2.size:=by
  have e1:=f2.r.len;have:cs.length=(So zc n).length:=GD hfill;rw[this,HK,hlen]at e1;simp at e1;omega
 refine⟨cs,a',te.1,n,te.2.size,rfl,rfl,f2,hsz0,λw=>⟨.slice (some ⟨w.heap.size,0,none⟩) n n,?_,λρ' hρ=> .sl (l:=⟨w.heap.size,0,a'.size,.cells a' te.1,.cells cs⟩) hρ (zAf _) (.inr ⟨rfl,by simp[hsz]⟩)⟩⟩
 have hu:=hd.run_und w;rw[hde]at hu;by_cases hn:n*te.2.size=0
 ·have hz0:n=0:=by rcases Nat.mul_eq_zero.1 hn with h|h;exact h;exact absurd h h0
  subst hz0;have e0:(Array.range (0*te.2.size)).map (te.2.zero.cells[· % te.2.zero.cells.size]!)=(#[]:Array Value):=by simp
  rw[e0]at f1;have e1:(Array.range 0).map (λ_=>(default:Value)) = #[]:=by simp
  simp[Instr.buildSlice,hu,hE.run_size w,newRow];simp[e1,f1]
 ·simp[Instr.buildSlice,hu,hE.run_size w,hE.run_zero w,hn,f1,newRow,show¬(16777216<n*te.2.size) by omega]
theorem Rl.cut {t u w:eG} (x:∀h A l,t h=some A->u h=some l->w h=some l) {g:GV} {v:Value} (C:Rl u g v):∀{r:Value},Rl t g r->Rl w g v:=by
 induction C with
 |int k n=>exact λ_=> .int k n
 |bool b=>exact λ_=> .bool b
 |str s=>exact λ_=> .str s
 |ptr y q=>exact λj=>by cases j with|ptr _ m=>exact .ptr y (x _ _ _ m q)
 |pnil=>exact λ_=> .pnil
 |sl q E D=>exact λj=>by cases j with|sl m _ _=>exact .sl (x _ _ _ m q) E D
 |snil=>exact λ_=> .snil
 |map q=>exact λj=>by cases j with|map m=>exact .map (x _ _ _ m q)
 | fn f a b c d ihb ihd =>
   intro r j;cases j with
   | fn _ z p B d0 =>
    refine .fn f a (λi g v e o=> ?_) c (λi g v e o=> ?_)
    ·have:=bH e;exact ihb i g v e o (p i g _ e (zA0 (by omega)))
    ·have:=bH e;exact ihd i g v e o (d0 i g _ e (zA0 (by omega)))
 |fnil=>exact λ_=> .fnil
 |inil=>exact λ_=> .inil
 | agg a b c ihb =>
   intro r j;cases j with
   |agg z p B=>
    refine .agg a (λi g v e o=> ?_) c;have:=bH e;exact ihb i g v e o (p i g _ e (zA0 (by omega)))
 | tup a b ihb =>
   intro r j;cases j with
   |tup z p=>
    refine .tup a (λi g v e o=> ?_);have:=bH e;exact ihb i g v e o (p i g _ e (zA0 (by omega)))
 |un=>exact λ_=> .un
 |bad v=>exact λ_=> .bad v
 | opn v h hx =>
   intro r j;obtain⟨A,a,_⟩:=j.opn_inv;exact .opn v (x _ _ _ a h) hx
structure Trc (tb:TB) (ih:CH) (all l:List Oper) (S:Nat->GF) (HH:Nat->GH) (gg:Nat->GV):Prop where
 st:∀i o,l[i]? = some o->FN tb ih all o (S i) (HH i)=some (gg i,HH (i+1))
 up:∀i o,l[i]? = some o->S (i+1)=putD o.dst (gg i) (S i)
theorem MX {d:CH} {all:List Oper} {k:GS->RS} {b:PL}:∀(l:List Oper) (s:GS),Gc tb d all k l s=some b->∃S c e,S 0=s.σ∧c 0=s.H∧Trc tb d all l S c e∧k ⟨S l.length,c l.length⟩=some b
 | [],s,h=>⟨λ_=>s.σ,λ_=>s.H,λ_=> .un,rfl,rfl,⟨λi o a=>by simp at a,λi o a=>by simp at a⟩,h⟩
 | o :: l, s, h => by
  obtain⟨g,t,p,q⟩:=FA (show KU tb d all o (Gc tb d all k l) s=some b from h);obtain⟨S,c,e,m,n,j,r⟩:=MX l _ q;refine⟨λi=>Nat.casesOn i s.σ S,λi=>Nat.casesOn i s.H c,λi=>Nat.casesOn i g e,rfl,rfl,⟨λi f a=> ?_,λi f a=> ?_⟩,r⟩
  ·cases i with
   |zero=>simp at a;subst a;show FN tb d all o s.σ s.H=some (g,c 0);rw[p,n]
   |succ i=>exact j.st i f (by simpa using a)
  ·cases i with
   |zero=>simp at a;subst a;exact m
   |succ i=>exact j.up i f (by simpa using a)
theorem zM {o:Op} (h:mV o=true):eT o=false:=by
 cases o<;>first|rfl|cases h
structure Vrs (all l:List Oper) (m:List Nat) (i:Nat) (S:Nat->GF) (HH:Nat->GH) (pr:List (Nat×Option (Nat×Nat))) (hs:List (Nat×GH)):Prop where
 pr:∀q h v,(q,some (h,v))∈pr->∀j oj,l[j]? = some oj->eT oj.op=true->before m (i+j) q=false->(HH (j+1)).ver h=some v
 hs:∀k ok h,l[k]? = some ok->mV ok.op=true->ldH (S k) ok.op=some h->∃v,(HH k).ver h=some v∧∀q Hq,(q,Hq)∈hs->before m (i+k) q=false->Hq.ver h=some v
 lo:∀k ok h v,l[k]? = some ok->mV ok.op=true->ldH (S k) ok.op=some h->(HH k).ver h=some v->
  (∀j oj,j<k->l[j]? = some oj->eT oj.op=true->before m (i+k) (i+j)=false->(HH j).ver h=some v)∧(∀j oj,k<j->l[j]? = some oj->eT oj.op=true->before m (i+j) (i+k)=false->(HH (j+1)).ver h=some v)
theorem Vrs.cons {all l:List Oper} {m:List Nat} {i:Nat} {S:Nat->GF} {B:Nat->GH} {G x:List (Nat×Option (Nat×Nat))} {F u:List (Nat×GH)} {o:Oper} {L:GF} {H:GH} (V:Vrs all l m (i+1) S B x u)
  (E:∀p∈G,p∈x) (C:∀p∈F,p∈u) (I:eT o.op=true->(i,H)∈u∧∀p∈G,before m i p.1=false->∀d,p.2=some d->(B 0).ver d.1=some d.2)
  (J:mV o.op=true->∀h,ldH L o.op=some h->∃v,H.ver h=some v∧(i,some (h,v))∈x∧∀q y,(q,y)∈F->before m i q=false->y.ver h=some v):
  Vrs all (o::l) m i (λj=>Nat.casesOn j L S) (λj=>Nat.casesOn j H B) G F:=by
 have e:∀j,i+(j+1)=i+1+j:=λj=>by omega
 refine⟨λq h v z j w g s f=> ?_,λk A h n s t=> ?_,λk A h v n s t d=>⟨λj w D g r f=> ?_,λj w D g r f=> ?_⟩⟩
 ·cases j with
  |zero=>simp at g;subst g;exact(I s).2 _ z (by simpa using f) _ Z
  |succ j=>exact V.pr q h v (E _ z) j w (by simpa using g) s (by rw[<-e];exact f)
 ·cases k with
  |zero=>
   simp at n;subst n;obtain⟨v,a,_,c⟩:=J s h t;exact⟨v,a,λq y z f=>c q y z (by simpa using f)⟩
  |succ k=>
   obtain⟨v,a,b⟩:=V.hs k A h (by simpa using n) s t;exact⟨v,a,λq y z f=>b q y (C _ z) (by rw[<-e];exact f)⟩
 ·cases k with
  |zero=>omega
  | succ k =>
   have n:l[k]? = some A:=by simpa using n
   cases j with
   |zero=>
    simp at g;subst g;obtain⟨K,a,b⟩:=V.hs k A h n s t;have a:(B k).ver h=some K:=a;have d:(B k).ver h=some v:=d;rw[a]at d;cases d;exact b i H (I r).1 (by rw[<-e];simpa using f)
   |succ j=>exact(V.lo k A h v n s t d).1 j w (by omega) (by simpa using g) r (by rw[<-e,<-e];exact f)
 ·cases j with
  |zero=>omega
  | succ j =>
   have g:l[j]? = some w:=by simpa using g
   cases k with
   |zero=>
    simp at n;subst n;obtain⟨K,a,b,_⟩:=J s h t;have d:H.ver h=some v:=d;rw[a]at d;cases d;exact V.pr i h v b j w g r (by rw[<-e];simpa using f)
   |succ k=>exact(V.lo k A h v (by simpa using n) s t d).2 j w (by omega) g r (by rw[<-e,<-e];exact f)
theorem JP {x:CH} {all:List Oper} {m:List Nat} {k:GS->RS} {A:PL}:∀(l:List Oper) (i:Nat) (J:List (Nat×Option (Nat×Nat))) (D:List (Nat×GH)) (s:GS),evW tb x all m k l i J D s=some A->
  ∃S a r,S 0=s.σ∧a 0=s.H∧Trc tb x all l S a r∧Vrs all l m i S a J D∧k ⟨S l.length,a l.length⟩=some A
 | [],i,J,D,s,h=>⟨λ_=>s.σ,λ_=>s.H,λ_=> .un,rfl,rfl,⟨λi o d=>by simp at d,λi o d=>by simp at d⟩,⟨λ_ _ _ _ j Y V=>by simp at V,λk X h f=>by simp at f,λk X h v f=>by simp at f⟩,h⟩
 | o :: l, i, J, D, s, h => by
  have t:YS tb x all m o (evW tb x all m k l) i J D s=some A:=h;have B:∀{g:GV} {C:GH} {S:Nat->GF} {a:Nat->GH} {r:Nat->GV},FN tb x all o s.σ s.H=some (g,C)->S 0=putD o.dst g s.σ->a 0=C->Trc tb x all l S a r->Trc tb x all (o::l) (λj=>Nat.casesOn j s.σ S) (λj=>Nat.casesOn j s.H a) (λj=>Nat.casesOn j g r):=λ{g C S a r} z y n w=>⟨λi O d=>by
    cases i with
    |zero=>simp at d;subst d;show FN tb x all o s.σ s.H=some (g,a 0);rw[z,n]
    |succ i=>exact w.st i O (by simpa using d),λi O d=>by
    cases i with
    |zero=>simp at d;subst d;exact y
    |succ i=>exact w.up i O (by simpa using d)⟩
  unfold YS at t;cases b:eT o.op with
  |true=>
   rw[b]at t;obtain⟨g,C,z,E⟩:=FA t;obtain⟨_,u,K⟩:=aF.1 E;have u:=EG u;obtain⟨S,a,r,y,n,w,I,f⟩:=JP l _ _ _ _ K;refine⟨_,_,_,rfl,rfl,B z y n w,I.cons (λ_ h=>h) (λp G=>zAe _ G) (λ_=>⟨zA7,λp G L M U=>by rw[n];exact u p G L M U⟩) (λc=>by rw[zM c]at b;cases b),f⟩
  | false =>
   rw[b]at t;cases c:mV o.op with
   |true=>
    simp only[c]at t;obtain⟨g,C,z,E⟩:=FA t;obtain⟨e,u,K⟩:=aF.1 E;obtain⟨S,a,r,y,n,w,I,f⟩:=JP l _ _ _ _ K;refine⟨_,_,_,rfl,rfl,B z y n w,I.cons (λp G=>zAe _ G) (λ_ h=>h) (λh=>by rw[b]at h;cases h) (λ_ Q F=> ?_),f⟩
    rw[F]at u;obtain⟨v,N,u⟩:=aF.1 (show ob (s.H.ver Q) (λv=>KI m i Q v D)=some e from u);obtain⟨rfl,T⟩:=EH u;exact⟨v,N,zA7,λq R W L=>T (q,R) W L⟩
   |false=>
    simp only[c]at t;obtain⟨g,C,z,E⟩:=FA t;obtain⟨S,a,r,y,n,w,I,f⟩:=JP l _ _ _ _ E;exact⟨_,_,_,rfl,rfl,B z y n w,I.cons (λ_ h=>h) (λ_ h=>h) (λh=>by rw[b]at h;cases h) (λh=>by rw[c]at h;cases h),f⟩
theorem YR {s:CH} (t:fN P tb) (p:sX P w0 s) {all:List Oper} {n:Nat} {o:Oper} {q:GF} {H k:GH} {g:GV} {d:eG} {a:Act} {w:World} (r:IG n o=true) (F:lM d n q a) (R:fW w0 d H w) (h:FN tb s all o q H=some (g,k)):
  ∃b i e,d.le b∧fW w0 b k e∧lM b n (putD o.dst g q) i:=by
 obtain⟨_,c,_⟩:=uK r;rcases JO t p r F R h with⟨_,x⟩|⟨_,rfl,rfl⟩
 ·rcases x with⟨_,_,_,rfl,v,f,_⟩|⟨_,_,rfl,v,_,_,_,_,_,f,_⟩|⟨_,_,rfl,v,f,_⟩|⟨_,u⟩
  ·exact⟨d,_,w,eG.le_refl _,R,F.putD c f⟩
  ·exact⟨d,_,w,eG.le_refl _,R,F.putD c f⟩
  ·exact⟨d,_,w,eG.le_refl _,R,F.putD c f⟩
  ·obtain⟨i,e,b,v,j,l,m,rfl⟩:=QS (u (λi e=>∃b v,d.le b∧fW w0 b k e∧Rl b g v∧i=a.put o.dst v) λb e v j l m=>⟨b,v,j,l,m,rfl⟩);exact⟨b,_,e,j,l,(F.le j).putD c m⟩
 ·exact⟨d,_,w,eG.le_refl _,R,F.putD c .un⟩
theorem Ny {q:CH} (p:fN P tb) (f:sX P w0 q) {all:List Oper} {n:Nat} (c:all.all (IG n)=true) {S:Nat->GF} {g:Nat->GH} {u:Nat->GV} (T:Trc tb q all all S g u) {k:eG} {a:Act} {w:World} (F:lM k n (S 0) a) (R:fW w0 k (g 0) w):
    ∀m,m<=all.length->∃b:Nat->eG,(∀i,i<=m->∃a w,fW w0 (b i) (g i) w∧lM (b i) n (S i) a)∧∀i,i<m->(b i).le (b (i+1))
  | 0, _ => ⟨λ_ => k, λi h => by
      have : i = 0 := by omega
      subst this;exact⟨a,w,R,F⟩,λi h=>by omega⟩
  | m + 1, hm => by
    obtain⟨b,o,v⟩:=Ny p f c T F R m (by omega);obtain⟨A,B,s,r⟩:=o m (zAf _);have d:all[m]? = some all[m]:=zA0 (by omega);obtain⟨l,t,z,j,x,y⟩:=YR p f (zA5.1 c _ (List.getElem_mem (by omega))) r s (T.st m _ d);refine⟨λi=>if i<=m then b i else l,λi h=> ?_,λi h=> ?_⟩
    · by_cases e:i<=m
      · simp only[e,if_true];exact o i e
      · have:i=m+1:=by omega
        subst this;simp only[e,if_false];exact⟨t,z,x,by rw[T.up m _ d];exact y⟩
    · by_cases e:i+1<=m
      · simp only[e,show i<=m by omega,if_true];exact v i (by omega)
      · have:i=m:=by omega
        subst this;simp only[e,zAf,if_true,if_false];exact j
theorem RI {a:Nat->GH} {m:Nat} (b:∀i,i<m->(a i).n<=(a (i+1)).n) {i:Nat}:∀{j:Nat},i<=j->j<=m->(a i).n<=(a j).n
  | 0, h, _ => by
      have : i = 0 := by omega
      subst this;exact zAf _
  | j + 1, h, hj => by
    by_cases e:i=j+1
    · subst e;exact zAf _
    · exact zB5 (RI b (by omega) (by omega)) (b j (by omega))
theorem Mb {w:CH} {all:List Oper} {S:Nat->GF} {u:Nat->GH} {n:Nat->GV} (T:Trc tb w all all S u n) {t:Nat} {g:GV}:∀k,k<=all.length->FP (S k) t=some g->
  (∃i o,i<k∧all[i]? = some o∧o.dst=some t∧n i=g∧∀j a,i<j->j<k->all[j]? = some a->a.dst≠some t)∨((∀j a,j<k->all[j]? = some a->a.dst≠some t)∧FP (S 0) t=some g)
 |0,_,h=> .inr ⟨λj a s=>by omega,h⟩
 | k + 1, hk, h => by
  have c:all[k]? = some all[k]:=zA0 (by omega);rw[T.up k _ c]at h;have m:all[k].dst≠some t->FP (S k) t=some g->_:=λl h=>
   match Mb T k (by omega) h with
   | .inl ⟨i, o, q, p, h3, h4, h5⟩ => (.inl ⟨i, o, by omega, p, h3, h4, λj a r s b => by
     by_cases e:j=k
     ·subst e;rw[c]at b;cases b;exact l
     ·exact h5 j a r (by omega) b⟩:(∃i o,i<k+1∧all[i]? = some o∧o.dst=some t∧n i=g∧∀j a,i<j->j<k+1->all[j]? = some a->a.dst≠some t)∨((∀j a,j<k+1->all[j]? = some a->a.dst≠some t)∧FP (S 0) t=some g))
   | .inr ⟨q, p⟩ => .inr ⟨λj a s b => by
     by_cases e:j=k
     ·subst e;rw[c]at b;cases b;exact l
     ·exact q j a (by omega) b,p⟩
  cases f:all[k].dst with
  |none=>
   rw[f]at h;exact m (by rw[f];simp) h
  | some d =>
   rw[f]at h;have h:FP ((d,n k)::S k) t=some g:=h;rw[BA]at h;by_cases e:t=d
   ·subst e;rw[if_pos Z]at h;cases h;exact .inl ⟨k,_,by omega,c,f,rfl,λj a q p=>by omega⟩
   ·rw[if_neg e]at h;exact m (by rw[f];intro v;cases v;exact e Z) h
def nN (o:Op):Bool:=eT o && !isFloat o
def Jg (tb:TB) (x o:Op):Bool:=pureOp tb x||pureOp tb o||isFloat o||(!eT x && !eT o)||(mV x&&eT o)||(nN x&&mV o)
def chkF (tb:TB) (l:List Oper) (m:List Nat):Bool:=
 (List.range l.length).all λi=>match l[i]? with
  |none=>false
  |some o=>
   (uQ o).all (λe=>Nat.blt e i&&before m i e&&(List.range i).all (λk=> !before m e k||before m i k)) &&
   (List.range l.length).all (λk=> !before m i k||(Nat.blt k i&&(uQ o).any (λe=>Nat.beq e k||before m e k))) &&
   !CL o.op &&
   (List.range i).all (λx=>before m i x||(match l[x]? with|none=>false|some a=>a.apart l.toArray o&&Jg tb a.op o.op))
structure Xr (tb:TB) (l:List Oper) (m:List Nat):Prop where
 edge:∀(i:Nat) (o:Oper),l[i]? = some o->∀e∈uQ o,e<i∧before m i e=true
 trans:∀(i:Nat) (o:Oper),l[i]? = some o->∀k,before m i k=true->k<l.length->k<i∧∃e∈uQ o,e=k∨before m e k=true
 ind:∀(i x:Nat) (oi ox:Oper),l[i]? = some oi->l[x]? = some ox->x<i->before m i x=false->ox.apart l.toArray oi=true∧Jg tb ox.op oi.op=true
theorem Ir {l:List Oper} {m:List Nat} (h:chkF tb l m=true):Xr tb l m:=by
 have b:∀(i:Nat) (o:Oper),l[i]? = some o->
   ((uQ o).all (λe=>Nat.blt e i&&before m i e&&(List.range i).all (λk=> !before m e k||before m i k))=true)∧
   ((List.range l.length).all (λk=> !before m i k||(Nat.blt k i&&(uQ o).any (λe=>Nat.beq e k||before m e k)))=true)∧CL o.op=false∧
   ((List.range i).all (λx=>before m i x||(match l[x]? with|none=>false|some g=>g.apart l.toArray o&&Jg tb g.op o.op))=true):=by
  intro i o c;have:=zA5.1 h i (zAg.2 (bH c));simp only[c,zA6,Bool.not_eq_true']at this;exact⟨this.1.1.1,this.1.1.2,this.1.2,this.2⟩
 refine⟨?_,?_,?_⟩
 ·intro i o c e f;have:=zA5.1 (b i o c).1 e f;simp only[zA6,zAy]at this;exact⟨this.1.1,this.1.2⟩
 ·intro i o c k q a;have:=zA5.1 (b i o c).2.1 k (zAg.2 a);simp only[q,Bool.not_true,Bool.false_or,zA6,zAy,List.any_eq_true,zAr]at this;obtain⟨j,e,f,d⟩:=this;refine⟨j,e,f,?_⟩
  rcases d with d|d
  ·exact .inl (zA4 d)
  ·exact .inr d
 ·intro i x s g p r a n;have:=(b i s p).2.2.2;have:=zA5.1 this x (zAg.2 a);simp only[n,Bool.false_or,r,zA6]at this;exact this
theorem Na {X:CH} (I:fN P tb) {all:List Oper} {n:Nat} {o:Oper} {z:GF} {H f:GH} {g:GV} {y:eG} {a:Act} (S:isFloat o.op=true) (F:lM y n z a) (h:FN tb X all o z H=some (g,f)):
  (Region.wanted o (yielded all.toArray a.tmps)=false∧g = .un∧f=H)∨
  (Region.wanted o (yielded all.toArray a.tmps)=true∧∃k i u,f=H.new (.cells k)∧Wg y k i∧k.length=i.size∧∀w:World,∃V,(execOp a.eval o).run P w = .ok (.value V) (w.alloc (.cells i u))∧∀c:eG,c H.n=some ⟨w.heap.size,0,i.size,.cells i u,.cells k⟩->Rl c g V):=by
 rcases Fz F h with⟨U,b⟩|h
 ·refine .inr ⟨U,?_⟩;obtain⟨d,op,ty,aa,L,gd⟩:=o;cases op with
  |buildSlice T m D=>
   obtain⟨vs,C,b⟩:=aF.1 (show ob (uW z D.toList) _=some (g,f)from b);obtain⟨E,q,b,s⟩:=nM b;cases s;obtain⟨k,i,u,Y,sz,A,h2,M,N,O⟩:=RP (P:=P) I (CK F C) b;refine⟨k,i,u,A,M,N,λw=> ?_⟩
   obtain⟨V,t,B⟩:=O w;refine⟨V,?_,B⟩
   have e:(D.toList.map λp=>(p.1,a.eval p.2)).toArray=D.map λp=>(p.1,a.eval p.2):=by apply Array.toList_inj.1;simp
   rw[e]at t;simp[execOp,t]
  |alloc T=>
   obtain⟨E,q,b,s⟩:=nM (show fU (oK tb T H) GZ=some (g,f)from b);cases s;obtain⟨K,W,b⟩:=aF.1 (show ob (Cy tb T) _=some (g,f)from b);rw[jP]at b;cases b;obtain⟨d,hd,Q,G⟩:=xL (ρ:=y) I W;refine⟨K,d.zero.cells,T,rfl,G,by have:=G.r.len;simpa using this,λw=>⟨_,?_,λc j=> .ptr (l:=⟨w.heap.size,0,d.zero.cells.size,.cells d.zero.cells T,.cells K⟩) 0 j⟩⟩
   simp[execOp,IP w Q]
  |box T x=>
   obtain⟨v,B,b⟩:=aF.1 (show ob (kQ z x) (λv=>fU (Pm v H) GZ)=some (g,f)from b);obtain⟨E,q,b,s⟩:=nM b;cases s;obtain⟨J,R,b⟩:=aF.1 (show ob v.cells _=some (g,f)from b);rw[jP]at b;cases b;obtain⟨vs,e,t,A⟩:=(cI F B).cells R;refine⟨J,(a.eval x).cells,T,rfl,by rw[e];exact⟨t,A⟩,by rw[e];have:=t.len;simpa using this,λw=>⟨_,?_,λc j=> .ptr (l:=⟨w.heap.size,0,(a.eval x).cells.size,.cells (a.eval x).cells T,.cells J⟩) 0 j⟩⟩
   simp[execOp,Instr.box,newVar,newRow]
  |_=>cases S
 ·exact .inl h
end
def GY (b a:eG):eG:=λh=>match b h with
 |some l=>some l
 |none=>a h
theorem yE {a b:eG} {h:Nat} {l:MF} (e:a h=some l):GY a b h=some l:=by simp[GY,e]
theorem yD {b a:eG} {h:Nat} (e:b h=none):GY b a h=a h:=by simp[GY,e]
theorem Hy {a b:eG}:a.le (GY a b):=λ_ _ e=>yE e
def SlD (all:List Oper) (b:GF) (c:Nat->GV) (D:Nat->Bool) (t:Nat) (g:GV):Prop:=
 (∃i o,D i=true∧all[i]? = some o∧o.dst=some t∧c i=g∧∀j a,D j=true->all[j]? = some a->a.dst=some t->j<=i)∨((∀j a,D j=true->all[j]? = some a->a.dst≠some t)∧FP b t=some g)
def ins (D:Nat->Bool) (k:Nat):Nat->Bool:=λj=>j==k||D j
theorem BC (D:Nat->Bool) (k:Nat):ins D k k=true:=by simp[ins]
theorem AF {D:Nat->Bool} {k j:Nat} (h:j≠k):ins D k j=D j:=by simp[ins,h]
theorem BB {D:Nat->Bool} {k j:Nat} (h:D j=true):ins D k j=true:=by simp[ins,h]
noncomputable def Ea (σ:GF) (L:pG):GF:=L.filterMap λt=>(FP σ t).map λg=>(t,g)
theorem CJ {σ:GF} {t:Nat}:∀{L:pG},FP (Ea σ L) t=if t∈L then FP σ t else none
 | []=>rfl
 | x :: L => by
  have c:=CJ (σ:=σ) (t:=t) (L:=L);cases b:FP σ x with
  |none=>
   have e:Ea σ (x::L)=Ea σ L:=by simp[Ea,b]
   rw[e,c];by_cases a:t=x
   ·subst a;simp[b]
   ·simp[a]
  |some g=>
   have e:Ea σ (x::L)=(x,g)::Ea σ L:=by simp[Ea,b]
   rw[e,BA,c];by_cases a:t=x
   ·subst a;simp[b]
   ·simp[a]
section
variable {P:Program} {tb:TB} {gs:Ai} {w0:fC gs} {ih:CH} {all:List Oper} {n:Nat} {S:Nat->GF} {HH:Nat->GH} {gg:Nat->GV}
structure wR (P:Program) (tb:TB) {gs:Ai} (w0:fC gs) (ih:CH) (all:List Oper) (n:Nat) (S:Nat->GF) (HH:Nat->GH) (gg:Nat->GV):Prop where
 tab:fN P tb
 call:∀w0:fC gs,sX P w0 ih
 ops:all.all (IG n)=true
 chk:Xr tb all (pQ all)
 trc:Trc tb ih all all S HH gg
 vrs:∀k ok h v,all[k]? = some ok->mV ok.op=true->ldH (S k) ok.op=some h->(HH k).ver h=some v->
  (∀j oj,j<k->all[j]? = some oj->eT oj.op=true->before (pQ all) k j=false->(HH j).ver h=some v)∧(∀j oj,k<j->all[j]? = some oj->eT oj.op=true->before (pQ all) j k=false->(HH (j+1)).ver h=some v)
 chain:∃ρs:Nat->eG,(∀i,i<=all.length->∃a w,fW w0 (ρs i) (HH i) w∧lM (ρs i) n (S i) a)∧∀i,i<all.length->(ρs i).le (ρs (i+1))
theorem wR.ghost (E:wR P tb w0 ih all n S HH gg) (i:Nat) (c:i<=all.length):∃b a w,fW w0 b (HH i) w∧lM b n (S i) a:=
 let ⟨ρs,h,_⟩:=E.chain
 ⟨ρs i,h i c⟩
theorem wR.mono (E:wR P tb w0 ih all n S HH gg) (i:Nat) (a:i<all.length):(HH i).n<=(HH (i+1)).n:=by
 obtain⟨e,h,b⟩:=E.chain;obtain⟨_,_,c,_⟩:=h i (Nat.le_of_lt a);obtain⟨_,_,d,_⟩:=h (i+1) a;exact c.mono d (b i a)
theorem Qk {a:Nat->eG} {m:Nat} (h:∀i,i<m->(a i).le (a (i+1))) {i:Nat}:∀{j:Nat},i<=j->j<=m->(a i).le (a j)
  | 0, h1, _ => by
      have : i = 0 := by omega
      subst this;exact eG.le_refl _
  | j + 1, h1, hj => by
    by_cases e:i=j+1
    · subst e;exact eG.le_refl _
    · exact eG.le_trans (Qk h (by omega) (by omega)) (h j (by omega))
theorem wR.same (E:wR P tb w0 ih all n S HH gg) {i j:Nat} (b:i<=j) (u:j<=all.length) {h v:Nat} (q:(HH i).ver h=some v) (r:(HH j).ver h=some v):(HH i).get h=(HH j).get h:=by
 obtain⟨J,s,e⟩:=E.chain;have A:=Qk e b u;obtain⟨_,K,l,_⟩:=s i (by omega);obtain⟨_,L,m,_⟩:=s j u;have a:∀{k:Nat},(HH k).ver h=some v->∃o,(HH k).get h=some o:=λ{k} hv=>by
  obtain⟨p,B,_⟩:=aF.1 (show ob ((HH k).t.get h) _=some v from hv);exact⟨p.2,by unfold GH.get;rw[B];rfl⟩
 obtain⟨H,f⟩:=a q;obtain⟨I,g⟩:=a r;obtain⟨C,c,_⟩:=l.live h H f;obtain⟨D,d,_⟩:=m.live h I g;obtain⟨F,w,_,y⟩:=l.vers h v C q c;obtain⟨G,x,_,z⟩:=m.vers h v D r d;have:=A _ _ w;rw[x]at this;cases this;rw[y,z]
theorem wR.op (E:wR P tb w0 ih all n S HH gg) {k:Nat} {o:Oper} (a:all[k]? = some o):IG n o=true:=zA5.1 E.ops o (zAl a)
theorem wR.quiet (E:wR P tb w0 ih all n S HH gg) {k:Nat} {o:Oper} (b:all[k]? = some o) (c:eT o.op=false):HH (k+1)=HH k:=by
 obtain⟨e,a,w,R,F⟩:=E.ghost k (Nat.le_of_lt (bH b));rcases JO E.tab (E.call w0) (E.op b) F R (E.trc.st k o b)with⟨_,d⟩|⟨_,_,h⟩
 ·rcases d with⟨_,_,_,h,_⟩|⟨_,_,h,_⟩|⟨_,_,h,_⟩|⟨h,_⟩
  ·exact h
  ·exact h
  ·exact h
  ·rw[c]at h;cases h
 ·exact h
theorem wR.floats (E:wR P tb w0 ih all n S HH gg) {k:Nat} {o:Oper} (c:all[k]? = some o) (d:isFloat o.op=true):HH (k+1)=HH k∨∃b,HH (k+1)=(HH k).new (.cells b):=by
 obtain⟨e,a,w,R,F⟩:=E.ghost k (Nat.le_of_lt (bH c));rcases Na (P:=P) E.tab d F (E.trc.st k o c)with⟨_,_,h⟩|⟨_,b,_,_,h,_⟩
 ·exact .inl h
 ·exact .inr ⟨b,h⟩
theorem ZL {H:GH} {o:GO} (h:H=H.new o):False:=by
 have:H.n=H.n+1:=congrArg GH.n h;omega
theorem WW {H:GH} {c a:List GV} (h:H.new (.cells c)=H.new (.cells a)):c=a:=by
 have b:=rC H (.cells c) H.n;have d:=rC H (.cells a) H.n;rw[if_pos Z]at b d;rw[h,d]at b;cases b;rfl
theorem wR.mono' (E:wR P tb w0 ih all n S HH gg) {i j:Nat} (h:i<=j) (a:j<=all.length):(HH i).n<=(HH j).n:=RI E.mono h a
theorem wR.apart (E:wR P tb w0 ih all n S HH gg) {i j:Nat} {b c:List GV} (k:i<all.length) (l:j<all.length) (d:HH (i+1)=(HH i).new (.cells b)) (f:HH (j+1)=(HH j).new (.cells c)) (h:(HH i).n=(HH j).n):i=j:=by
 have e:(HH (i+1)).n=(HH i).n+1:=by rw[d];rfl
 have g:(HH (j+1)).n=(HH j).n+1:=by rw[f];rfl
 rcases zAz i j with a|a|a
 ·have:=E.mono' (i:=i+1) (j:=j) (by omega) (by omega);omega
 ·exact a
 ·have:=E.mono' (i:=j+1) (j:=i) (by omega) (by omega);omega
structure xM {gs:Ai} (w0:fC gs) (ρb:eG) (n:Nat) (all:List Oper) (S0:GF) (HH:Nat->GH) (gg:Nat->GV) (D:Nat->Bool) (a:Act) (w:World) (t:Nat) (ρ pm:eG):Prop where
 tm:t<=all.length
 lou:∀j o,all[j]? = some o->nN o.op=true->(D j=true↔j<t)
 flo:∀j o,all[j]? = some o->isFloat o.op=true->j<t->D j=true
 rel:fW w0 ρ (HH t) w
 up:ρb.le ρ
 defers:a.defers=[]
 size:a.tmps.size=n
 slot:∀s g,SlD all S0 gg D s g->Rl (GY ρ pm) g (a.eval (.tmp s))
 pend:∀i o cs,all[i]? = some o->isFloat o.op=true->HH (i+1)=(HH i).new (.cells cs)->t<=i->D i=true->∃l,pm (HH i).n=some l∧w0.mine l.b∧¬Xu ρ (HH t) l.b∧w.heap[l.b]? = some l.x∧yZ (GY ρ pm) w l (.cells cs)∧l.o = .cells cs
 only:∀h l,pm h=some l->∃i o cs,all[i]? = some o∧isFloat o.op=true∧HH (i+1)=(HH i).new (.cells cs)∧t<=i∧D i=true∧h=(HH i).n
 inj:∀h h' l l',pm h=some l->pm h'=some l'->l.b=l'.b->h=h'
variable {D:Nat->Bool} {a:Act} {w:World} {t:Nat} {ρ pm ρb:eG}
theorem xM.low (E:wR P tb w0 ih all n S HH gg) (I:xM w0 ρb n all (S 0) HH gg D a w t ρ pm) {h:Nat} {l:MF} (d:pm h=some l):(HH t).n<=h:=by
 obtain⟨i,o,e,b,_,_,c,_,rfl⟩:=I.only h l d;exact E.mono' c (Nat.le_of_lt (bH b))
theorem xM.adopt (E:wR P tb w0 ih all n S HH gg) (I:xM w0 ρb n all (S 0) HH gg D a w t ρ pm) {o:Oper} (Y:all[t]? = some o) (hl:nN o.op=false) (hf:isFloat o.op=true->D t=true):
  ∃c b,xM w0 ρb n all (S 0) HH gg D a w (t+1) c b∧GY c b=GY ρ pm:=by
 have ht:=bH Y;have G:∀j o,all[j]? = some o->nN o.op=true->(D j=true↔j<t+1):=λj oj N Q=>by
  have q:j≠t:=λe=>by subst e;rw[Y]at N;cases N;rw[hl]at Q;cases Q
  rw[I.lou j oj N Q];omega
 have C:∀j o,all[j]? = some o->isFloat o.op=true->j<t+1->D j=true:=λj oj N ab ah=>by
  by_cases e:j=t
  ·subst e;rw[Y]at N;cases N;exact hf ab
  ·exact I.flo j oj N ab (by omega)
 -- nothing is taken up
 have H:HH (t+1)=HH t->∃c b,xM w0 ρb n all (S 0) HH gg D a w (t+1) c b∧GY c b=GY ρ pm:=λe=>
  ⟨ρ,pm,⟨ht,G,C,by rw[e];exact I.rel,I.up,I.defers,I.size,I.slot,λi W B f r y h4 K=>by rw[e];exact I.pend i W B f r y (by omega) K,λh l hp=>by
   obtain⟨i,W,B,f,r,y,h4,K,h6⟩:=I.only h l hp;refine⟨i,W,B,f,r,y,?_,K,h6⟩
   by_cases e':i=t
   ·subst e';rw[e]at y;exact(ZL y).elim
   ·omega,I.inj⟩,rfl⟩
 cases z:isFloat o.op with
 |false=>exact H (E.quiet Y (by simpa [nN,z]using hl))
 | true =>
  rcases E.floats Y z with e|⟨B,e⟩
  ·exact H e
  obtain⟨l,hp,U,M,hx,ad,ag⟩:=I.pend t o B Y z e (zAf _) (hf z);have m:ρ (HH t).n=none:=I.rel.fresh _ (zAf _);let c:=ρ.upd (HH t).n l;let b:eG:=λh=>if h=(HH t).n then none else pm h;have k:c (HH t).n=some l:=by simp[c,eG.upd]
  have u:∀h,h≠(HH t).n->c h=ρ h:=λh hh=>by simp[c,eG.upd,hh]
  have O:GY c b=GY ρ pm:=by
   funext h;by_cases d:h=(HH t).n
   ·subst d;rw[yE k,yD m,hp]
   ·unfold GY;rw[u h d];simp[b,d]
  have hn:(HH (t+1)).n=(HH t).n+1:=by rw[e];rfl
  -- what the object holds is older
  have aa:∀{g:GV} {v v0:Value} {x:eG},(∀h l,x h=some l->h<(HH (t+1)).n)->Rl (GY ρ pm) g v->Rl x g v0->Rl c g v:=λ{g v v0 x} hlow f h0=>by
   refine Rl.cut (λh l0 l1 e0 X=> ?_) f h0;have ah:=hlow h l0 e0;by_cases d:h=(HH t).n
   ·subst d;rw[yD m,hp]at X;rw[k];exact X
   ·rw[u h d];cases hr:ρ h with
    |some l2=>rw[yE hr]at X;exact X
    |none=>
     rw[yD hr]at X;have:=I.low E X;omega
  obtain⟨x,a0,wg,R0,F0⟩:=E.ghost (t+1) ht;have R:∀h l,x h=some l->h<(HH (t+1)).n:=λh l hl=>by
   rcases zAq h (HH (t+1)).n with J|J
   ·exact J
   ·rw[R0.fresh h J]at hl;cases hl
  have L:(HH (t+1)).get (HH t).n=some (.cells B):=by rw[e,rC,if_pos Z]
  obtain⟨l0,_,_,ac⟩:=R0.live _ _ L;obtain⟨ai,T0,q1,q2,q3,q4⟩:=ac;have V:yZ c w l (.cells B):=by
   obtain⟨ae,T,p1,p2,p3,p4⟩:=ad;refine⟨ae,T,p1,p2,p3,λi g F=> ?_⟩
   obtain⟨v,r1,r2,r3⟩:=p4 i g F;obtain⟨v0,_,s2,_⟩:=q4 i g F;exact⟨v,r1,aa R r2 s2,r3⟩
  obtain⟨af,R'⟩:=I.rel.new (o:= .cells B) (l:=l) I.rel.ext (λh o' l' F p=>⟨rfl,λeb=>M ⟨h,o',l',F,p,eb⟩⟩) U V hx ag;rw[<-e]at R';refine⟨c,b,⟨ht,G,C,R',eG.le_trans I.up af,I.defers,I.size,λs g hs=>by rw[O];exact I.slot s g hs,λi W ci f r y h4 K=> ?_,λh l1 A=> ?_,λh J l1 l2 f r hb=> ?_⟩,O⟩
  ·obtain⟨li,a1,a2,a3,a4,a5,a6⟩:=I.pend i W ci f r y (by omega) K;have q:(HH i).n≠(HH t).n:=λd=>by
    have:=E.apart (bH f) ht y e d;omega
   refine⟨li,by simp[b,q,a1],a2,?_,a4,by rw[O];exact a5,a6⟩
   rintro⟨h,o',l',F,p,eb⟩;rw[e,rC]at F;by_cases d:h=(HH t).n
   ·subst d;rw[k]at p;cases p;exact q (I.inj _ _ _ _ a1 hp eb.symm)
   ·rw[if_neg d]at F;rw[u h d]at p;exact a3 ⟨h,o',l',F,p,eb⟩
  ·have q:h≠(HH t).n:=λd=>by subst d;simp[b]at A
   have A:pm h=some l1:=by simpa [b,q]using A
   obtain⟨i,W,ci,f,r,y,h4,K,h6⟩:=I.only h l1 A;refine⟨i,W,ci,f,r,y,?_,K,h6⟩
   by_cases e':i=t
   ·subst e';exact absurd h6 q
   ·omega
  ·have f:pm h=some l1:=by
    by_cases d:h=(HH t).n
    ·simp[b,d]at f
    ·simpa [b,d]using f
   have r:pm J=some l2:=by
    by_cases d:J=(HH t).n
    ·simp[b,d]at r
    ·simpa [b,d]using r
   exact I.inj h J l1 l2 f r hb
theorem xM.adoptTo (E:wR P tb w0 ih all n S HH gg):∀(d t k:Nat) (ρ pm:eG),xM w0 ρb n all (S 0) HH gg D a w t ρ pm->t+d=k->k<=all.length->(∀j o,t<=j->j<k->all[j]? = some o->nN o.op=false∧(isFloat o.op=true->D j=true))->
  ∃c b,xM w0 ρb n all (S 0) HH gg D a w k c b∧GY c b=GY ρ pm
 |0,t,k,ρ,pm,I,hd,hk,_=>by
  have:t=k:=by omega
  subst this;exact⟨ρ,pm,I,rfl⟩
 |d+1,t,k,ρ,pm,I,hd,hk,h=>by
  have p:all[t]? = some all[t]:=zA0 (by omega);obtain⟨m,e⟩:=h t _ (zAf _) (by omega) p;obtain⟨i,f,q,s⟩:=I.adopt E p m e;obtain⟨l,g,r,u⟩:=xM.adoptTo E d (t+1) k i f q (by omega) hk (λj o m e=>h j o (by omega) e);exact⟨l,g,r,by rw[u,s]⟩
def Cl (all:List Oper) (D:Nat->Bool):Prop:=∀j k,D j=true->before (pQ all) j k=true->k<all.length->D k=true
structure SC (all:List Oper) (D:Nat->Bool) (k:Nat) (o:Oper):Prop where
 get:all[k]? = some o
 undone:D k=false
 past:∀j,before (pQ all) k j=true->j<all.length->D j=true
theorem SC.behind (C:Xr tb all (pQ all)) (c:Cl all D) {k:Nat} {o:Oper} (e:SC all D k o) {j:Nat} {b:Oper} (h:all[j]? = some b) (g:D j=true) (d:k<j):o.apart all.toArray b=true∧Jg tb o.op b.op=true:=by
 cases f:before (pQ all) j k with
 |false=>exact C.ind j k b o h e.get d f
 |true=>
  have:=c j k g f (bH e.get);rw[e.undone]at this;cases this
theorem SC.ahead (C:Xr tb all (pQ all)) {k:Nat} {o:Oper} (f:SC all D k o) {j:Nat} {b:Oper} (e:all[j]? = some b) (c:j<k):D j=true∨b.apart all.toArray o=true∧Jg tb b.op o.op=true:=by
 cases d:before (pQ all) k j with
 |true=>exact .inl (f.past j d (bH e))
 |false=>exact .inr (C.ind k j o b f.get e c d)
theorem SC.look (E:wR P tb w0 ih all n S HH gg) (q:Cl all D) {k:Nat} {o:Oper} (p:SC all D k o) {s:Nat} {g:GV} (u:s∈o.looksAt all.toArray) (y:FP (S k) s=some g):SlD all (S 0) gg D s g:=by
 have b:∀j c,D j=true->all[j]? = some c->c.dst=some s->j<k:=λj c d f e=>by
  rcases zAz j k with h|h|h
  ·exact h
  ·subst h;rw[p.undone]at d;cases d
  ·obtain⟨l,_⟩:=p.behind E.chk q f d h;exact absurd u ((Oper.apart_spec l).2.2 s e)
 rcases Mb E.trc k (Nat.le_of_lt (bH p.get)) y with⟨i,z,l,m,r,v,x⟩|⟨l,m⟩
 ·refine .inl ⟨i,z,?_,m,r,v,λj c d f e=> ?_⟩
  ·rcases p.ahead E.chk m l with h|⟨h,_⟩
   ·exact h
   ·exact absurd u ((Oper.apart_spec h).1 s r)
  ·have:=b j c d f e;rcases zAq i j with h|h
   ·exact absurd e (x j c h this f)
   ·exact h
 ·exact .inr ⟨λj c d f e=>l j c (b j c d f e) f e,m⟩
theorem SC.slot (C:Xr tb all (pQ all)) (F:Cl all D) {K:GF} {k:Nat} {o:Oper} (y:SC all D k o) (x:∀d,o.dst=some d->d<n) (I:a.tmps.size=n) {z u:eG} (G:z.le u) (q:∀s g,SlD all K gg D s g->Rl z g (a.eval (.tmp s))) {v:Value} (Q:Rl u (gg k) v):
  ∀s g,SlD all K gg (ins D k) s g->Rl u g ((a.put o.dst v).eval (.tmp s)):=λs g L=>by
 have c:∀j r,D j=true->all[j]? = some r->o.dst=some s->r.dst=some s->j<k:=λj r m O f p=>by
  rcases zAz j k with h|h|h
  ·exact h
  ·subst h;rw[y.undone]at m;cases m
  ·obtain⟨b,_⟩:=y.behind C F O m h;exact absurd p ((Oper.apart_spec b).2.1 s f)
 by_cases f:o.dst=some s
 ·have N:gg k=g:=by
   rcases L with⟨i,J,b,l,A,B,E⟩|⟨b,_⟩
   ·have R:=E k o (BC D k) y.get f;by_cases e:i=k
    ·subst e;exact B
    ·rw[AF e]at b;have:=c i J b l f A;omega
   ·exact absurd f (b k o (BC D k) y.get)
  rw[f,<-N];have H:=x s f;have:(a.put (some s) v).eval (.tmp s)=v:=by simp[Act.put,Act.eval,I,H]
  rw[this];exact Q
 ·have M:(a.put o.dst v).eval (.tmp s)=a.eval (.tmp s):=Act.eval_put λd p e=>by cases e;exact f p
  rw[M];refine(q s g ?_).le G;rcases L with⟨i,J,b,l,A,B,E⟩|⟨b,l⟩
  ·have e:i≠k:=λe=>by subst e;rw[y.get]at l;cases l;exact f A
   rw[AF e]at b;exact .inl ⟨i,J,b,l,A,B,λj r m=>E j r (BB m)⟩
  ·exact .inr ⟨λj r m=>b j r (BB m),l⟩
theorem FH (a:Act) (d:Option Tmp) (v:Value):(a.put d v).defers=a.defers∧(a.put d v).tmps.size=a.tmps.size:=by
 cases d with
 |none=>exact⟨rfl,rfl⟩
 |some d=>exact⟨rfl,by simp[Act.put]⟩
theorem xM.plain (E:wR P tb w0 ih all n S HH gg) (u:Cl all D) (I:xM w0 ρb n all (S 0) HH gg D a w t ρ pm) {k:Nat} {o:Oper} (q:SC all D k o) (F:nN o.op=false) (C:isFloat o.op=true->HH (k+1)=HH k) {v:Value} (H:Rl (GY ρ pm) (gg k) v):
  xM w0 ρb n all (S 0) HH gg (ins D k) (a.put o.dst v) w t ρ pm:=by
 obtain⟨_,f,_⟩:=uK (E.op q.get);obtain⟨J,K⟩:=FH a o.dst v;refine⟨I.tm,λj A g b=> ?_,λj A g x y=>BB (I.flo j A g x y),I.rel,I.up,by rw[J];exact I.defers,by rw[K];exact I.size,q.slot E.chk u f I.size (eG.le_refl _) I.slot H,λi z r c m d s p=> ?_,λh l G=> ?_,I.inj⟩
 ·have e:j≠k:=λe=>by subst e;rw[q.get]at g;cases g;rw[F]at b;cases b
  rw[AF e];exact I.lou j A g b
 ·have e:i≠k:=λe=>by
   subst e;rw[q.get]at c;cases c;rw[C m]at d;exact ZL d
  rw[AF e]at p;exact I.pend i z r c m d s p
 ·obtain⟨i,z,r,c,m,d,s,p,B⟩:=I.only h l G;exact⟨i,z,r,c,m,d,s,BB p,B⟩
def NR (all:List Oper) (D:Nat->Bool) (t:Nat):Prop:=t=0∨∃o,all[t - 1]? = some o∧nN o.op=true∧D (t - 1)=true
theorem NR.ins {k:Nat} (h:NR all D t):NR all (ins D k) t:=by
 rcases h with h|⟨o,b,c,d⟩
 ·exact .inl h
 ·exact .inr ⟨o,b,c,BB d⟩
theorem FG {o:Op} (h:pureOp tb o=true):eT o=false:=by
 unfold pureOp at h;split at h<;>first|rfl|cases h
theorem GA {o:Op} (h:isFloat o=true):eT o=true:=by
 unfold isFloat at h;split at h<;>first|rfl|cases h
theorem GB {o:Op} (h:isFloat o=true):pureOp tb o=false:=by
 cases b:pureOp tb o with
 |false=>rfl
 |true=>have:=FG b;rw[GA h]at this;cases this
theorem xM.reach (E:wR P tb w0 ih all n S HH gg) (u:Cl all D) (I:xM w0 ρb n all (S 0) HH gg D a w t ρ pm) (i:NR all D t) {k:Nat} {o:Oper} (r:SC all D k o) (z:pureOp tb o.op=false) (B:isFloat o.op=false) (m:mV o.op=false):
  ∃q p,xM w0 ρb n all (S 0) HH gg D a w k q p∧GY q p=GY ρ pm:=by
 have F:=bH r.get;have C:t<=k:=by
  rcases i with h|⟨d,x,f,s⟩
  ·omega
  ·rcases zAq (t - 1) k with h|h
   ·omega
   ·exfalso;by_cases e:t - 1=k
    ·rw[e,r.undone]at s;cases s
    ·obtain⟨_,A⟩:=r.behind E.chk u x s (by omega);simp only[nN,zA6,Bool.not_eq_true']at f;have:pureOp tb d.op=false:=by
      cases v:pureOp tb d.op with
      |false=>rfl
      |true=>have:=FG v;rw[f.1]at this;cases this
     have c:mV d.op=false:=by
      cases v:mV d.op with
      |false=>rfl
      |true=>rw[zM v]at f;cases f.1
     simp[Jg,z,this,f.1,f.2,m,c]at A
 refine I.adoptTo E (k - t) t k ρ pm (by omega) (by omega) λj d x f y=> ?_;have g:D j=true∨eT d.op=false∨pureOp tb d.op=true:=by
  rcases r.ahead E.chk y f with h|⟨_,h⟩
  ·exact .inl h
  ·simp only[Jg,z,B,m,Bool.or_false,Bool.and_false,zAr,zA6,Bool.not_eq_true']at h;rcases h with(h|h)|h
   ·exact .inr (.inr h)
   ·exact .inr (.inl h.1)
   ·exact .inr (.inl (zM h.1))
 refine⟨?_,λl=> ?_⟩
 ·cases c:nN d.op with
  |false=>rfl
  |true=>
   exfalso;have b:=c;simp only[nN,zA6,Bool.not_eq_true']at b;rcases g with h|h|h
   ·have:=(I.lou j d y c).1 h;omega
   ·rw[b.1]at h;cases h
   ·have:=FG h;rw[b.1]at this;cases this
 ·rcases g with h|h|h
  ·exact h
  ·rw[GA l]at h;cases h
  ·rw[GB l]at h;cases h
theorem xM.frame (E:wR P tb w0 ih all n S HH gg) (c:Cl all D) (I:xM w0 ρb n all (S 0) HH gg D a w t ρ pm) {k:Nat} {o:Oper} (e:SC all D k o):lM (GY ρ pm) n (Ea (S k) (o.looksAt all.toArray)) a:=
 ⟨I.defers,I.size,λs g b=>by
  rw[CJ]at b;by_cases d:s∈o.looksAt all.toArray
  ·rw[if_pos d]at b;exact I.slot s g (e.look E c d b)
  ·rw[if_neg d]at b;cases b⟩
theorem xM.frame' (E:wR P tb w0 ih all n S HH gg) (e:Cl all D) {k:Nat} (I:xM w0 ρb n all (S 0) HH gg D a w k ρ pm) {o:Oper} (i:SC all D k o):lM ρ n (Ea (S k) (o.looksAt all.toArray)) a:=by
 have F:=I.frame E e i;obtain⟨u,v,z,p,m⟩:=E.ghost k (Nat.le_of_lt (bH i.get));refine⟨F.defers,F.size,λs g b=> ?_⟩
 have q:=F.slot s g b;rw[CJ]at b;by_cases j:s∈o.looksAt all.toArray
 ·rw[if_pos j]at b;refine Rl.cut (λh x l f d=> ?_) q (m.slot s g b);cases c:ρ h with
  |some y=>rw[yE c]at d;exact d
  |none=>
   rw[yD c]at d;have r:=I.low E d;rw[p.fresh h r]at f;cases f
 ·rw[if_neg j]at b;cases b
theorem wR.st (E:wR P tb w0 ih all n S HH gg) {k:Nat} {o:Oper} (b:all[k]? = some o):FN tb ih all o (Ea (S k) (o.looksAt all.toArray)) (HH k)=some (gg k,HH (k+1)):=by
 rw[<-E.trc.st k o b];exact Tl λs c=>by rw[CJ,if_pos c]
theorem xM.loads (E:wR P tb w0 ih all n S HH gg) (L:Cl all D) (I:xM w0 ρb n all (S 0) HH gg D a w t ρ pm) (s:NR all D t) {k:Nat} {o:Oper} (u:SC all D k o) (f:mV o.op=true) {h:Nat} {W:GO} (hh:ldH (S k) o.op=some h) (i:(HH k).get h=some W):
  ∃p H G,xM w0 ρb n all (S 0) HH gg D a w p H G∧GY H G=GY ρ pm∧(HH p).get h=some W:=by
 have hk:=bH u.get;have hq:=zM f;have R:pureOp tb o.op=false:=by cases N:o.op<;>rw[N]at f<;>first|rfl|cases f
 have M:isFloat o.op=false:=by cases N:o.op<;>rw[N]at f<;>first|rfl|cases f
 obtain⟨v,V⟩:∃v,(HH k).ver h=some v:=by
  obtain⟨p,hp,_⟩:=aF.1 (show Gx.ob ((HH k).t.get h) _=some W from i);exact⟨p.1,by unfold GH.ver;rw[hp];rfl⟩
 obtain⟨v1,v2⟩:=E.vrs k o h v u.get f hh V;rcases zAq k t with C|C
 ·
  rcases s with e|⟨c,x,z,K⟩
  ·omega
  have b:=z;simp only[nN,zA6]at b;have q:before (pQ all) (t - 1) k=false:=by
   cases q:before (pQ all) (t - 1) k with
   |false=>rfl
   |true=>have:=L _ _ K q hk;rw[u.undone]at this;cases this
  have aa:t - 1≠k:=λe=>by rw[e,u.undone]at K;cases K
  have:=v2 (t - 1) c (by omega) x b.1 q;rw[show t - 1+1=t by omega]at this;exact⟨t,ρ,pm,I,rfl,by rw[<-E.same (Nat.le_of_lt C) I.tm V this];exact i⟩
 ·
  have first:∀d g,g+d=k->t<=g->(∀j c,t<=j->j<g->all[j]? = some c->nN c.op=false)->∃p,t<=p∧p<=k∧(∀j c,t<=j->j<p->all[j]? = some c->nN c.op=false)∧(p=k∨∃F,all[p]? = some F∧nN F.op=true):=by
   intro d
   induction d with
   |zero=>exact λg e U h=>⟨g,U,by omega,h,.inl (by omega)⟩
   | succ d ihd =>
    intro g e U h;have m:all[g]? = some all[g]:=zA0 (by omega);cases hl:nN all[g].op with
    |true=>exact⟨g,U,by omega,h,.inr ⟨_,m,hl⟩⟩
    |false=>
     refine ihd (g+1) (by omega) (by omega) λj c x z y=> ?_;by_cases e:j=g
     ·subst e;rw[m]at y;cases y;exact hl
     ·exact h j c x (by omega) y
  obtain⟨p,ab,ac,O,Q⟩:=first (k - t) t (by omega) (zAf _) (λj c x z=>by omega)
  obtain⟨Y,X,I1,e1⟩:=I.adoptTo E (p - t) t p ρ pm (by omega) (by omega) λj c x z y=>by
   refine⟨O j c x z y,λr=> ?_⟩
   rcases u.ahead E.chk y (by omega)with h|⟨_,h⟩
   ·exact h
   ·have a1:=GB (tb:=tb) r;have J:=GA r;have a3:mV c.op=false:=by
     cases T:mV c.op with
     |false=>rfl
     |true=>rw[zM T]at J;cases J
    have a4:nN c.op=false:=by simp[nN,r]
    simp[Jg,a1,J,a3,a4,R,M]at h
  refine⟨p,Y,X,I1,e1,?_⟩
  rcases Q with e|⟨F,l,A⟩
  ·rw[e];exact i
  ·have b:=A;simp only[nN,zA6]at b;have B:p<k:=by
    rcases zAq p k with h|h
    ·exact h
    ·have:p=k:=by omega
     subst this;rw[u.get]at l;cases l;rw[hq]at b;cases b.1
   have q:before (pQ all) k p=false:=by
    cases q:before (pQ all) k p with
    |false=>rfl
    |true=>have:=u.past p q (by omega);rw[I.lou p F l A]at this;omega
   rw[E.same (Nat.le_of_lt B) (Nat.le_of_lt hk) (v1 p F B l b.1 q) V];exact i
theorem xM.step (E:wR P tb w0 ih all n S HH gg) (z:Cl all D) (I:xM w0 ρb n all (S 0) HH gg D a w t ρ pm) (m:NR all D t) {k:Nat} {o:Oper} (A:SC all D k o) {Q:Exit->Act->World->Prop} {K:Act->World->Prop}
  (hK:∀a' w' t' aY O,xM w0 ρb n all (S 0) HH gg (ins D k) a' w' t' aY O->NR all (ins D k) t'->K a' w'):Sx.wpOp P all.toArray Q k K a w:=by
 have hk:=bH A.get;obtain⟨_,ai,aS⟩:=uK (E.op A.get);have am:=E.st A.get;unfold Sx.wpOp;simp only[List.getElem?_toArray,A.get];cases hp:pureOp tb o.op with
 | true =>
  have Y:nN o.op=false:=by simp[nN,FG hp]
  have aE:isFloat o.op=false:=by
   cases hf:isFloat o.op with
   |false=>rfl
   |true=>rw[GB hf]at hp;cases hp
  have F:=I.frame E z A;rcases Fz F am with⟨N,C⟩|⟨N,C,hH⟩
  ·rw[if_pos N];have aG:Lu o.op=true:=by
    rcases aS with h|⟨c,f,y,G⟩
    ·exact h
    ·obtain⟨a8,xs,ts⟩:=c;simp only at G;rw[y,G]at hp;cases hp
   obtain⟨_,v,hv,u⟩:=Zg (P:=P) E.tab F hp aG C;left;simp only[Oper.wp,u w,Oper.upon];exact hK _ _ t ρ pm (I.plain E z A Y (λh=>by rw[aE]at h;cases h) hv) m.ins
  ·rw[if_neg (by rw[N];simp)];exact hK _ _ t ρ pm (I.plain E z A Y (λh=>by rw[aE]at h;cases h) (by rw[C];exact .un)) m.ins
 | false =>
  cases hf:isFloat o.op with
  | true =>
   have Y:nN o.op=false:=by simp[nN,hf]
   have F:=I.frame E z A;rcases Na (P:=P) E.tab hf F am with⟨N,C,hH⟩|⟨N,cs,a',T',hH,hC,a0,u⟩
   ·rw[if_neg (by rw[N];simp)];exact hK _ _ t ρ pm (I.plain E z A Y (λ_=>hH) (by rw[C];exact .un)) m.ins
   ·rw[if_pos N];obtain⟨V,hV,aI⟩:=u w;left;simp only[Oper.wp,hV,Oper.upon];have aJ:t<=k:=by
     rcases zAq k t with h|h
     ·have:=I.flo k o A.get hf h;rw[A.undone]at this;cases this
     ·exact h
    let l:MF:=⟨w.heap.size,0,a'.size,.cells a' T',.cells cs⟩
    have e:NN w (w.alloc (.cells a' T')):=(Below.refl _ _).alloc (zAf _) _;have aX:ρ (HH k).n=none:=I.rel.fresh _ (E.mono' aJ (by omega));have aT:pm (HH k).n=none:=by
     cases U:pm (HH k).n with
     |none=>rfl
     |some W=>
      obtain⟨i,L,R,y,G,h3,h4,h5,h6⟩:=I.only _ _ U;have:=E.apart (bH y) hk h3 hH h6.symm;subst this;rw[A.undone]at h5;cases h5
    let O:=pm.upd (HH k).n l;have M:O (HH k).n=some l:=by simp[O,eG.upd]
    have J:∀h,h≠(HH k).n->O h=pm h:=λh hh=>by simp[O,eG.upd,hh]
    have ad:(GY ρ pm).le (GY ρ O):=λh W y=>by
     cases H:ρ h with
     |some l2=>rw[yE H]at y;rw[yE H];exact y
     |none=>
      rw[yD H]at y;rw[yD H,J h (λeh=>by subst eh;rw[aT]at y;cases y)];exact y
    have aP:GY ρ O (HH k).n=some l:=by rw[yD aX,M]
    obtain⟨p1,p2⟩:=FH a o.dst V;have az:∀h W,pm h=some W->W.b<w.heap.size:=λh W y=>by
     obtain⟨i,L,R,q1,q2,q3,q4,q5,rfl⟩:=I.only _ _ y;obtain⟨l2,r1,_,_,r4,_⟩:=I.pend i L R q1 q2 q3 q4 q5;rw[y]at r1;cases r1;exact(zAb.1 r4).1
    refine hK _ _ t ρ O ⟨I.tm,λj oj hj ak=> ?_,λj oj hj ao aD=>BB (I.flo j oj hj ao aD),I.rel.ext' e,I.up,by rw[p1];exact I.defers,by rw[p2];exact I.size,A.slot E.chk z ai I.size ad I.slot (aI _ aP),λi L R y G h3 h4 h5=> ?_,λh W ar=> ?_,λh h' W l2 y G hb=> ?_⟩ m.ins
    ·have e:j≠k:=λe=>by subst e;rw[A.get]at hj;cases hj;rw[Y]at ak;cases ak
     rw[AF e];exact I.lou j oj hj ak
    ·by_cases ei:i=k
     ·subst ei;rw[hH]at h3;have:=WW h3;subst this;refine⟨l,M,.inl I.rel.ext.size,?_,heap_alloc_new w _,⟨a',T',heap_alloc_new w _,rfl,by show 0+cs.length<=a'.size;omega,λj g C=> ?_⟩,rfl⟩
      ·rintro⟨h,o',l',C,ax,eb⟩;obtain⟨l2,r1,_,r3⟩:=I.rel.live h o' C;rw[ax]at r1;cases r1;have:=r3.lt;rw[eb]at this;exact absurd this (Nat.lt_irrefl _)
      ·obtain⟨x,hx,aU⟩:=hC.r.get C;rw[zAj]at hx;exact⟨x,by show a'[0+j]? = some x;simpa using hx,aU.le ad,Ot hC.one hx⟩
     ·rw[AF ei]at h5;obtain⟨W,a1,a2,a3,a4,a5,a6⟩:=I.pend i L R y G h3 h4 h5;have aR:(HH i).n≠(HH k).n:=λeh=>ei (E.apart (bH y) hk h3 hH eh);have hb:=az _ _ a1;exact⟨W,by rw[J _ aR];exact a1,a2,a3,by rw[e.block _ hb];exact a4,a5.move ad (e.block _ hb),a6⟩
    ·by_cases eh:h=(HH k).n
     ·exact⟨k,o,cs,A.get,hf,hH,aJ,BC D k,eh⟩
     ·rw[J h eh]at ar;obtain⟨i,L,R,q1,q2,q3,q4,q5,q6⟩:=I.only h W ar;exact⟨i,L,R,q1,q2,q3,q4,BB q5,q6⟩
    ·by_cases eh:h=(HH k).n
     ·by_cases ah:h'=(HH k).n
      ·rw[eh,ah]
      ·rw[J h' ah]at G;subst eh;rw[M]at y;cases y;have:=az _ _ G;rw[<-hb]at this;exact absurd this (Nat.lt_irrefl _)
     ·rw[J h eh]at y;by_cases ah:h'=(HH k).n
      ·subst ah;rw[M]at G;cases G;have:=az _ _ y;rw[hb]at this;exact absurd this (Nat.lt_irrefl _)
      ·rw[J h' ah]at G;exact I.inj h h' W l2 y G hb
  | false =>
   cases aj:mV o.op with
   | true =>
    have Y:nN o.op=false:=by simp[nN,zM aj]
    have F0:=I.frame E z A;rcases Fz F0 am with⟨N,C⟩|⟨N,C,hH⟩
    ·rw[if_pos N];have aH:∃T x,o.op = .load T x:=by
      cases ho:o.op<;>rw[ho]at aj<;>first|exact⟨_,_,rfl⟩|cases aj
     obtain⟨T,x,al⟩:=aH;rw[al]at C;obtain⟨va,aL,C⟩:=aF.1 (show ob (kQ (Ea (S k) (o.looksAt all.toArray)) x) _=some (gg k,HH (k+1))from C);obtain⟨g',av,aQ⟩:=aF.1 C;have eg:g'=gg k:=by
      have:=congrArg (λo=>o.map Prod.fst) (show some (g',HH k)=some (gg k,HH (k+1))from aQ);simpa using this
     rw[eg]at av;obtain⟨q,U,hc⟩:=aF.1 (show ob va.asP _=some (gg k)from av);obtain⟨cs,aO,hc⟩:=aF.1 hc;have aA:=jB.1 aO;have aW:∀s,x = .tmp s->s∈o.looksAt all.toArray:=λs e=>List.mem_append_left _ (List.mem_filterMap.2 ⟨.tmp s,by rw[al,e];simp[Op.operands],rfl⟩);have aM:kQ (S k) x=some va:=by
      rw[<-aL];cases x with
      |tmp s=>
       show FP (S k) s=FP (Ea (S k) (o.looksAt all.toArray)) s;rw[CJ,if_pos (aW s Z)]
      |_=>rfl
     have hh:ldH (S k) o.op=some q.1:=by
      rw[al];show ob (kQ (S k) x) _=_;rw[aM];show ob va.asP _=_;rw[U];rfl
     obtain⟨p,ag,af,B,ap,aB⟩:=I.loads E z m A aj hh aA;have aK:=cI F0 aL;have aV:Rl ag va (a.eval x):=by
      rw[EA U]at aK ⊢;obtain⟨l,Y,e⟩:=aK.ptr_inv;obtain⟨W,aC,_⟩:=B.rel.live _ _ aB;rw[<-ap,yE aC]at Y;cases Y;rw[e];exact .ptr _ aC
     have ay:vN tb T va (HH p)=some (gg k):=by
      show ob va.asP _=_;rw[U];show ob ((HH p).cells q.1) _=_;rw[jB.2 aB];exact hc
     obtain⟨X,_,l,_,_,_,hX,u⟩:=Md (P:=P) E.tab B.rel aV ay;left;have H:(execOp a.eval o).run P w = .ok (.value X) w:=by
      have:=u w Z;obtain⟨d,op,ty,a9,a7,gd⟩:=o;simp only at al;subst al;simp[execOp,this]
     simp only[Oper.wp,H,Oper.upon];exact hK _ _ t ρ pm (I.plain E z A Y (λh=>by rw[hf]at h;cases h) (by rw[<-ap];exact hX.le Hy)) m.ins
    ·rw[if_neg (by rw[N];simp)];exact hK _ _ t ρ pm (I.plain E z A Y (λh=>by rw[hf]at h;cases h) (by rw[C];exact .un)) m.ins
   |false=>
   obtain⟨ag,af,B,ap⟩:=I.reach E z m A hp hf aj;have F:=B.frame' E z A;cases ae:eT o.op with
   | false =>
    have Y:nN o.op=false:=by simp[nN,ae]
    have an:∀v,Rl ag (gg k) v->xM w0 ρb n all (S 0) HH gg (ins D k) (a.put o.dst v) w t ρ pm:=λv hv=>
     I.plain E z A Y (λh=>by rw[hf]at h;cases h) (by rw[<-ap];exact hv.le Hy)
    rcases JO E.tab (E.call w0) (E.op A.get) F B.rel am with⟨N,hs⟩|⟨N,C,hH⟩
    ·rw[if_pos N];left;rcases hs with⟨_,_,_,_,v,hv,u⟩|⟨_,_,_,v,_,_,_,_,_,hv,u⟩|⟨_,_,_,v,hv,u⟩|⟨U,_⟩
     ·simp only[Oper.wp,u w,Oper.upon];exact hK _ _ t ρ pm (an v hv) m.ins
     ·simp only[Oper.wp,u w Z,Oper.upon];exact hK _ _ t ρ pm (an v hv) m.ins
     ·simp only[Oper.wp,u,Oper.upon];exact hK _ _ t ρ pm (an v hv) m.ins
     ·rw[ae]at U;cases U
    ·rw[if_neg (by rw[N];simp)];exact hK _ _ t ρ pm (an undef (by rw[C];exact .un)) m.ins
   | true =>
    have Y:nN o.op=true:=by simp[nN,ae,hf]
    have aq:∀(i:Nat) (L:Oper) (R:List GV),all[i]? = some L->isFloat L.op=true->i≠k:=λi L R y G e=>by
     subst e;rw[A.get]at y;cases y;rw[hf]at G;cases G
    have aw:∀j o,all[j]? = some o->nN o.op=true->(ins D k j=true↔j<k+1):=λj oj hj ak=>by
     by_cases e:j=k
     ·subst e;simp[BC]
     ·rw[AF e,B.lou j oj hj ak];omega
    have au:∀j o,all[j]? = some o->isFloat o.op=true->j<k+1->ins D k j=true:=λj oj hj ao aD=>by
     have:=aq j oj [] hj ao;exact BB (B.flo j oj hj ao (by omega))
    have aa:∀h l,af h=some l->∃i o cs,all[i]? = some o∧isFloat o.op=true∧HH (i+1)=(HH i).new (.cells cs)∧k+1<=i∧ins D k i=true∧h=(HH i).n:=λh l ar=>by
     obtain⟨i,L,R,q1,q2,q3,q4,q5,q6⟩:=B.only h l ar;have:=aq i L R q1 q2;exact⟨i,L,R,q1,q2,q3,by omega,BB q5,q6⟩
    have ac:NR all (ins D k) (k+1):= .inr ⟨o,by simpa using A.get,Y,by simp[BC]⟩;rcases JO E.tab (E.call B.rel.base) (E.op A.get) F B.rel.rebase am with⟨N,hs⟩|⟨N,C,hH⟩
    ·rw[if_pos N];left;rcases hs with⟨U,_⟩|⟨U,_⟩|⟨U,_⟩|⟨_,u⟩
     ·rw[ae]at U;cases U
     ·rw[ae]at U;cases U
     ·rw[ae]at U;cases U
     refine Lt (u _ λaN w2 v ad R2 hv=>hK _ _ (k+1) aN af ?_ ac);obtain⟨R3,ab⟩:=B.rel.back R2;have hj:(GY ag af).le (GY aN af):=λh l y=>by
      cases H:ag h with
      |some l2=>rw[yE H]at y;cases y;exact yE (ad _ _ H)
      |none=>
       rw[yD H]at y;obtain⟨i,L,R,q1,q2,q3,q4,q5,rfl⟩:=aa h l y;rw[yD (R2.fresh _ (E.mono' q4 (Nat.le_of_lt (bH q1))))];exact y
     obtain⟨p1,p2⟩:=FH a o.dst v;refine⟨hk,aw,au,R3,eG.le_trans B.up ad,by rw[p1];exact B.defers,by rw[p2];exact B.size,A.slot E.chk z ai B.size hj B.slot (hv.le Hy),λi L R y G h3 h4 h5=> ?_,aa,B.inj⟩
     rw[AF (aq i L R y G)]at h5;obtain⟨W,a1,a2,a3,a4,a5,a6⟩:=B.pend i L R y G h3 (by omega) h5;have hb:W.b<w.heap.size:=(zAb.1 a4).1;refine⟨W,a1,a2,?_,by rw[ab _ hb a3];exact a4,a5.move hj (ab _ hb a3),a6⟩
     rintro⟨h,o',l',C,ax,eb⟩;obtain⟨l2,r1,r2,_⟩:=R2.live h o' C;rw[ax]at r1;cases r1;rw[eb]at r2;rcases r2 with r2|r2
     ·have:w.heap.size<=W.b:=r2;omega
     ·exact a3 r2
    ·rw[if_neg (by rw[N];simp)];obtain⟨p1,p2⟩:=FH a o.dst undef;refine hK _ _ (k+1) ag af ⟨hk,aw,au,by rw[hH];exact B.rel,B.up,by rw[p1];exact B.defers,by rw[p2];exact B.size,A.slot E.chk z ai B.size (eG.le_refl _) B.slot (by rw[C];exact .un),λi L R y G h3 h4 h5=> ?_,aa,B.inj⟩ ac;rw[AF (aq i L R y G)]at h5;rw[hH];exact B.pend i L R y G h3 (by omega) h5
theorem xM.done (E:wR P tb w0 ih all n S HH gg) (I:xM w0 ρb n all (S 0) HH gg D a w t ρ pm) (b:∀i,i<all.length->D i=true):∃f,ρb.le f∧fW w0 f (HH all.length) w∧lM f n (S all.length) a:=by
 obtain⟨d,e,k,_⟩:=I.adoptTo E (all.length - t) t all.length ρ pm (by have:=I.tm;omega) (zAf _) λj q m p c=>by
  refine⟨?_,λ_=>b j p⟩
  cases B:nN q.op with
  |false=>rfl
  |true=>have:=(I.lou j q c B).1 (b j p);omega
 refine⟨d,k.up,k.rel,k.defers,k.size,λs g A=> ?_⟩
 have r:∀h,e h=none:=λh=>by
  cases C:e h with
  |none=>rfl
  |some l=>
   obtain⟨i,H,G,m,_,_,u,_⟩:=k.only h l C;have:=bH m;omega
 have c:GY d e=d:=by
  funext h;unfold GY;rw[r];cases d h<;>rfl
 have F:SlD all (S 0) gg D s g:=by
  rcases Mb E.trc all.length (zAf _) A with⟨i,o,m,p,v,u,x⟩|⟨m,p⟩
  ·refine .inl ⟨i,o,b i m,p,v,u,λj q y c z=> ?_⟩;rcases zAq i j with h|h
   ·exact absurd z (x j q h (bH c) c)
   ·exact h
  ·exact .inr ⟨λj q y c=>m j q (bH c) c,p⟩
 have:=k.slot s g F;rwa[c]at this
theorem WC (E:wR P tb w0 ih all n S HH gg) {Q:Exit->Act->World->Prop} (hQ:∀c K M,ρb.le c->fW w0 c (HH all.length) M->lM c n (S all.length) K->Q .normal K M):
  ∀(d:Nat) (L:List Nat) (b:Array Bool) (a:Act) (w:World) (t:Nat) (ρ pm:eG),L.length<=d->b.size=all.length->(∀i,i<all.length->b.getD i false=false->i∈L)->Cl all (λj=>b.getD j false)->
  xM w0 ρb n all (S 0) HH gg (λj=>b.getD j false) a w t ρ pm->NR all (λj=>b.getD j false) t->Sx.wpAny P .any all.toArray Q d b a w:=by
 intro d
 induction d with
 | zero =>
  intro L b a w t ρ pm G J g m I h;have hL:L=[]:=zAn (by omega);subst hL;have f:∀i,i<all.length->b.getD i false=true:=λi r=>by
   cases u:b.getD i false with
   |true=>rfl
   |false=>have:=g i r u;simp at this
  refine⟨?_,?_⟩
  ·rw[List.eq_nil_iff_forall_not_mem];intro i r;obtain⟨l,o,s,_⟩:=mem_ready.1 r;have W:i<all.length:=by have:=(zAb.1 s).1;simpa using this
   have:=f i W;have hs:i<b.size:=by omega
   simp[hs]at this l;rw[l]at this;cases this
  ·obtain⟨c,l,N,O⟩:=I.done E f;exact hQ c a w l N O
 | succ d ihf =>
  intro L b a w t ρ pm G J g m I h;refine⟨λY=> ?_,λk hk=> ?_⟩
  ·have f:∀i,i<all.length->b.getD i false=true:=by
    intro i
    induction i using Nat.strongRecOn with
    | ind i ihi =>
     intro r;cases u:b.getD i false with
     |true=>rfl
     | false =>
      exfalso;have s:all[i]? = some all[i]:=zA0 r;have H:i∈Region.ready .any all.toArray b:=by
       refine mem_ready.2 ⟨?_,all[i],by simp,λe R v=> ?_⟩
       ·have hs:i<b.size:=by omega
        simp[hs]at u ⊢;exact u
       ·have U:e.on∈uQ all[i]:=zAw.2 ⟨e,List.mem_filter.2 ⟨by simpa using R,v⟩,rfl⟩;have:=(E.chk.edge i _ s e.on U).1;exact ihi e.on this (by omega)
      rw[Y]at H;simp at H
   obtain⟨c,l,N,O⟩:=I.done E f;exact hQ c a w l N O
  ·obtain⟨l,o,X,q⟩:=mem_ready.1 hk;have s:all[k]? = some o:=by simpa using X
   have V:k<all.length:=bH s;have F:k<b.size:=by omega
   have x:b.getD k false=false:=by simp[F]at l ⊢;exact l
   have hr:SC all (λj=>b.getD j false) k o:=by
    refine⟨s,x,λj v B=> ?_⟩
    obtain⟨_,e,R,hej⟩:=E.chk.trans k o s j v B;obtain⟨ed,T,rfl⟩:=zAw.1 R;obtain⟨z,A⟩:=List.mem_filter.1 T;have hl:=q ed (by simpa using z) A;rcases hej with rfl|hej
    ·exact hl
    ·exact m _ _ hl hej B
   have y:(λj=>(b.setIfInBounds k true).getD j false)=ins (λj=>b.getD j false) k:=by
    funext j;by_cases e:j=k
    ·subst e;rw[BC];simp[F]
    ·rw[AF e];exact getD_set_ne false (Ne.symm e)
   refine I.step E m h hr λK M t' c aa I' p=> ?_;refine ihf (L.erase k) _ K M t' c aa ?_ (by simp[J]) (λi r u=> ?_) ?_ (by rw[y];exact I') (by rw[y];exact p)
   ·have hm:=g k V x;rw[List.length_erase_of_mem hm];omega
   ·have e:i≠k:=λe=>by
     subst e;have:=congrFun y i;rw[BC]at this;rw[u]at this;cases this
    have:b.getD i false=false:=by
     have:=congrFun y i;rw[AF e]at this;rw[<-this];exact u
    exact(List.mem_erase_of_ne e).2 (g i r this)
   ·rw[y];intro j k' B v C;by_cases e:j=k
    ·subst e;exact BB (hr.past k' v C)
    ·rw[AF e]at B;exact BB (m j k' B v C)
theorem Oo (hG:fN P tb) (e:∀w0:fC gs,sX P w0 ih) (hm:P.follows .mixedOrders=true) {b:List Oper} {id:Nat} (f:b.all (IG n)=true) (N:chkF tb b (pQ b)=true) {k:GS->RS} {s:GS} {p:PL} {ρ:eG} {a:Act} {w:World} {Q:Exit->Act->World->Prop} (F:lM ρ n s.σ a) (R:fW w0 ρ s.H w) (h:(Gc tb ih b k b s=some p∧FE b mV=true)∨evW tb ih b (pQ b) k b 0 [] [] s=some p)
  (r:∀G m I L,k G=some p->ρ.le m->lM m n G.σ I->fW w0 m G.H L->Q .normal I L):(Code.region id b.toArray true).wpr none P Q a w:=by
 have W:b.all kC=true:=zA5.2 λo U=>(uK (zA5.1 f o U)).1;obtain⟨S,HH,gg,z,A,T,C,c⟩:∃S HH gg,S 0=s.σ∧HH 0=s.H∧Trc tb ih b b S HH gg∧(∀k y h v,b[k]? = some y->mV y.op=true->ldH (S k) y.op=some h->(HH k).ver h=some v->
   (∀j u,j<k->b[j]? = some u->eT u.op=true->before (pQ b) k j=false->(HH j).ver h=some v)∧(∀j u,k<j->b[j]? = some u->eT u.op=true->before (pQ b) j k=false->(HH (j+1)).ver h=some v))∧k ⟨S b.length,HH b.length⟩=some p:=by
  rcases h with⟨h,ho⟩|h
  ·obtain⟨S,HH,gg,z,A,T,c⟩:=MX b s h;refine⟨S,HH,gg,z,A,T,λk y h v r K _ _=>⟨λj u O q x B=> ?_,λj u O q x B=> ?_⟩,c⟩
   ·rcases HF ho r q K x with d|d
    ·rw[d]at B;cases B
    ·have:=((Ir N).trans j u q k d (bH r)).1;omega
   ·rcases HF ho r q K x with d|d
    ·have:=((Ir N).trans k y r j d (bH q)).1;omega
    ·rw[d]at B;cases B
  ·obtain⟨S,HH,gg,z,A,T,V,c⟩:=JP b 0 [] [] s h;exact⟨S,HH,gg,z,A,T,λk y h v r K hh hv=>by have:=V.lo k y h v r K hh hv;simpa using this,c⟩
 rw[<-z]at F;rw[<-A]at R;have E:wR P tb w0 ih b n S HH gg:=⟨hG,e,f,Ir N,T,C,Ny hG (e w0) f T F R _ (zAf _)⟩
 have J:∀j,(Array.replicate b.length false).getD j false=false:=λj=>by
  by_cases h:j<b.length<;>simp[h]
 refine Fo W hm ?_;have Y:b.toArray.size=b.length:=by simp
 rw[Y];refine WC (ρb:=ρ) E (λm I L h0 d M=>r ⟨S b.length,HH b.length⟩ m I L c h0 M d) b.length (List.range b.length) _ a _ 0 ρ (λ_=>none) (by simp) (by simp) (λi hi _=>zAg.2 hi) (λj k' q=>by simp only[J]at q;cases q) ?_ (.inl Z);refine⟨Nat.zero_le _,λj o _ _=>by simp only[J];simp,λj o _ _ h=>absurd h (Nat.not_lt_zero j),R.ext' ((Below.refl _ _).drew),eG.le_refl _,F.defers,F.size,λG g hs=> ?_,λi o cs _ _ _ _ h5=>(by simp only[J]at h5;cases h5),λh l X=>(by cases X),λh h' l l' X=>(by cases X)⟩
 rcases hs with⟨i,o,d,_⟩|⟨_,M⟩
 ·simp only[J]at d;cases d
 ·exact(F.slot G g M).le Hy
end
def If (c:TB) (n:Nat):Code->Bool
 | .skip | .exit _ | .ret=>true
 | .region _ ops dr=>ops.toList.all (IG n)&&(!dr||chkF c ops.toList (pQ ops.toList))
 | .seq a b=>If c n a&&If c n b
 | .cond _ a b=>If c n a&&If c n b
 | .block _ b=>If c n b
 | .loop b=>If c n b
 |_=>false
section
variable {P:Program} {G:GP} {tb:TB} {Fs:FT} {gs:Ai} {w0:fC gs}
def Et (P:Program) (c:Code) (Q:Exit->Act->World->Prop) (a:Act) (w:World):Prop:=
 ∀(b:Frame) (k:List Item) (d:List Frame),b.roundOf=(FR none).round->(FR none).fn b.fn->(FR none).room (d.length+1+0)->
  ∃e f g,Q e f g∧ArrivesIn (Machine.fenced P (FR none)) P (lone (b.atR a (.code c :: .inLoop c::k)) d w) b k d e f g
theorem Et.loop {c:Code} {Q:Exit->Act->World->Prop} {a:Act} {w:World} (h:Et P c Q a w):(Code.loop c).wpr none P Q a w:=by
 intro b k l f g i;obtain⟨e,j,n,m,d⟩:=h b k l f g i;exact⟨e,j,n,m,.of_steps (.one (fenced_calm g i Z) stepR_loop) d⟩
theorem Et.round {c:Code} {Q:Exit->Act->World->Prop} {a:Act} {w:World} (h:c.wpr none P (Exit.then (Et P c Q) Q) a w):Et P c Q a w:=by
 intro b k t p r s;obtain⟨e,f,g,m,d⟩:=h b (.inLoop c::k) t p r s;cases e with
 |normal=>
  obtain⟨o,n,q,j,i⟩:=m b k t p r s;exact⟨o,n,q,j,.of_steps (StepsIn.trans d (.one (fenced_calm r s Z) stepR_inLoop)) i⟩
 |exit id=>exact⟨_,f,g,m,.pass (x:= .inLoop c) Z (λ_ _=> .inl (by simp)) d⟩
 |goto l=>exact⟨_,f,g,m,.pass (x:= .inLoop c) Z (λ_ _=> .inl (by simp)) d⟩
 |ret=>exact⟨_,f,g,m,.pass (x:= .inLoop c) Z (λ_ _=> .inl (by simp)) d⟩
 |panic u=>exact⟨_,f,g,m,.pass (x:= .inLoop c) Z (λ_ _=> .inl (by simp)) d⟩
 |outgrown=>exact⟨_,f,g,m,.pass (x:= .inLoop c) Z (λ_ _=> .inl (by simp)) d⟩
noncomputable def JQ (a:Cx) (id:Nat) (s:GS):RS:=some ⟨.exit id,CS s.σ (mB (Cn a.env id)),s.H⟩
structure XG {gs:Ai} (w0:fC gs) (tb:TB) (n:Nat) (cx:Cx) (k:GS->RS) (out:PL) (ρ:eG) (Q:Exit->Act->World->Prop):Prop where
 k:∀s' ρ' a' w',k s'=some out->ρ.le ρ'->lM ρ' n s'.σ a'->fW w0 ρ' s'.H w'->Q .normal a' w'
 x:∀id s' ρ' a' w',JQ cx id s'=some out->ρ.le ρ'->lM ρ' n s'.σ a'->fW w0 ρ' s'.H w'->Q (.exit id) a' w'
 r:∀s' ρ' a' w',TQ tb cx s'=some out->ρ.le ρ'->lM ρ' n s'.σ a'->fW w0 ρ' s'.H w'->Q .ret a' w'
def Ik (P:Program) {gs:Ai} (w0:fC gs) (tb:TB) (l:LH):Prop:=∀b h j H d,l b h j H=some d->∀n k i a w Q,If tb n b=true->kI (mB (live (.loop b) 0 h)) j some=some k->lM i n k a->fW w0 i H w->
 (∀id e c f g,JQ h id e=some d->i.le c->lM c n e.σ f->fW w0 c e.H g->Q (.exit id) f g)->
 (∀e c f g,TQ tb h e=some d->i.le c->lM c n e.σ f->fW w0 c e.H g->Q .ret f g)->Et P b Q a w
theorem OO {b:Cx} {s:GS} {a:PL} (h:TQ tb b s=some a):a.e = .ret:=by
 obtain⟨c,_,h⟩:=aF.1 (show ob (Re tb s b.res) _=some a from h);cases h;rfl
theorem Bn {b:Cx} {id:Nat} {s:GS} {a:PL} (h:JQ b id s=some a):a.e = .exit id:=by cases h;rfl
theorem TO {b:List Nat} {s:GS} {a:PL} (h:HL b s=some a):a.e = .normal∧a.vs=CS s.σ b∧a.H=s.H:=by cases h;exact⟨rfl,rfl,rfl⟩
theorem Tv {n:Nat} {m:Cx} {j:List Nat} {k:GS->RS} {o b:PL} {l:eG} {Q:Exit->Act->World->Prop} (L:XG w0 tb n m k b l Q) (h:kI j o.vs (λg=>k ⟨g,o.H⟩)=some b) {c:GS} {a:eG} {d:Act} {f:World}
  (r:o.vs=CS c.σ j) (q:o.H=c.H) (e:l.le a) (F:lM a n c.σ d) (R:fW w0 a c.H f):Q .normal d f:=by
 obtain⟨g,i,p⟩:=rQ h;rw[r]at i;exact L.k ⟨g,o.H⟩ a d f p e (JZ F i) (by rw[q];exact R)
theorem Dq {M:CH} {W:LH} (O:fN P tb) (V:P.follows .mixedOrders=true) (j:∀w0:fC gs,sX P w0 M) (p:Ik P w0 tb W) {n:Nat}:∀(c:Code) (m:Nat) (f:Cx) (k:GS->RS) (s:GS) (d:PL) (q:eG) (a:Act) (w:World) (Q:Exit->Act->World->Prop),
  If tb n c=true->evC tb M W c m f k s=some d->lM q n s.σ a->fW w0 q s.H w->XG w0 tb n f k d q Q->c.wpr none P Q a w
 | .skip,m,f,k,s,d,q,a,w,Q,_,h,F,R,L=>Sj (L.k s q a w h (eG.le_refl _) F R)
 | .region id ops dr, m, f, k, s, d, q, a, w, Q, ho, h, F, R, L => by
  have l:ops.toList.all (IG n)=true∧(!dr||chkF tb ops.toList (pQ ops.toList))=true:=by simpa [If]using ho
  have ad:ops.toList.all kC=true:=zA5.2 λo ac=>(uK (zA5.1 l.1 o ac)).1;have N:Bool.casesOn (motive:=λ_=>RS) (agv dr ops.toList) (Gc tb M ops.toList k ops.toList s) (evW tb M ops.toList (pQ ops.toList) k ops.toList 0 [] [] s)=some d:=h;have e:ops=ops.toList.toArray:=by simp
  cases dr with
  |false=>
   rw[e];exact t_ ad (Hu O (j w0) ops.toList s q a w l.1 F R N L.k)
  | true =>
   rw[e];have hF:chkF tb ops.toList (pQ ops.toList)=true:=by simpa using l.2
   have u:(Gc tb M ops.toList k ops.toList s=some d∧FE ops.toList mV=true)∨evW tb M ops.toList (pQ ops.toList) k ops.toList 0 [] [] s=some d:=by
    cases T:agv true ops.toList with
    |true=>rw[T]at N;exact .inr N
    |false=>
     rw[T]at N;have:(!FE ops.toList mV)=false:=T;exact .inl ⟨N,by simpa using this⟩
   exact Oo O j V l.1 hF F R u L.k
 | .seq x y,m,f,k,s,d,q,a,w,Q,ho,h,F,R,L=>by
  have l:If tb n x=true∧If tb n y=true:=by simpa [If]using ho
  refine VW (Dq O V j p x (live y m f) f (evC tb M W y m f k) s d q a w _ l.1 h F R ⟨λA t E I z g B C=> ?_,L.x,L.r⟩);exact Dq O V j p y m f k A d t E I Q l.2 z B C ⟨λs2 K X w2 J u=>L.k s2 K X w2 J (eG.le_trans g u),λid s2 K X w2 J u=>L.x id s2 K X w2 J (eG.le_trans g u),λs2 K X w2 J u=>L.r s2 K X w2 J (eG.le_trans g u)⟩
 | .cond x thn els, m, f, k, s, d, q, a, w, Q, ho, h, F, R, L => by
  have l:If tb n thn=true∧If tb n els=true:=by simpa [If]using ho
  obtain⟨v,hv,h⟩:=aF.1 (show ob (kQ s.σ x) _=some d from h);obtain⟨b,U,h⟩:=aF.1 h;obtain⟨o,J,h⟩:=aF.1 (show ob _ (λo=>Ex.casesOn (motive:=λ_=>RS) o.e (kI (mB m) o.vs λσ=>k ⟨σ,o.H⟩) (λ_=>some o) (some o))=some d from h);have hx:=cI F hv;rw[Ck U]at hx;have L':XG w0 tb n f (HL (mB m)) o q Q:=by
   refine⟨λA t E I z g B C=> ?_,λid A t E I z g B C=> ?_,λA t E I z g B C=> ?_⟩
   ·obtain⟨D,e2,e3⟩:=TO z;rw[D]at h;exact Tv L h e2 e3 g B C
   ·have D:=Bn z;rw[D]at h;cases h;exact L.x id A t E I z g B C
   ·have D:=OO z;rw[D]at h;cases h;exact L.r A t E I z g B C
  refine Fl hx.bool_inv (λab=> ?_) (λaa=> ?_)
  ·rw[ab]at J;exact Dq O V j p thn m f (HL (mB m)) s o q a w Q l.1 J F R L'
  ·rw[aa]at J;exact Dq O V j p els m f (HL (mB m)) s o q a w Q l.2 J F R L'
 | .block id b, m, f, k, s, d, q, a, w, Q, ho, h, F, R, L => by
  have l:If tb n b=true:=by simpa [If]using ho
  obtain⟨o2,u,h⟩:=aF.1 (show ob (nB id (evC tb M W b m ⟨f.res,f.retm,(id,m)::f.env⟩ (HL (mB m)) s)) (λo=>Ex.casesOn (motive:=λ_=>RS) o.e (kI (mB m) o.vs λσ=>k ⟨σ,o.H⟩) (λ_=>some o) (some o))=some d from h);obtain⟨o,J,u⟩:=aF.1 (show ob (evC tb M W b m ⟨f.res,f.retm,(id,m)::f.env⟩ (HL (mB m)) s) (λo=>Ex.casesOn (motive:=λ_=>RS) o.e (some o) (λi=>Bool.casesOn (motive:=λ_=>RS) (Nat.beq i id) (some o) (some ⟨.normal,o.vs,o.H⟩)) (some o))=some o2 from u);refine NH (Dq O V j p b m _ (HL (mB m)) s o q a w _ l J F R ⟨λA t E I z g B C=> ?_,λi A t E I z g B C=> ?_,λA t E I z g B C=> ?_⟩)
  ·obtain⟨D,e2,e3⟩:=TO z;rw[D]at u;cases u;rw[D]at h;exact Tv L h e2 e3 g B C
  ·have D:=Bn z;rw[D]at u;by_cases hi:i=id
   ·subst hi;have U:Nat.beq i i=true:=by simp
    simp only[U]at u;cases u;show Exit.inBlock i Q (.exit i) E I;simp only[Exit.inBlock,if_true];have S:o=⟨.exit i,CS A.σ (mB (Cn ((i,m)::f.env) i)),A.H⟩:=by cases z;rfl
    have he:Cn ((i,m)::f.env) i=m:=by
     show(bif Nat.beq i i then m else Cn f.env i)=m;rw[U];rfl
    rw[he]at S;exact Tv (o:=⟨.normal,o.vs,o.H⟩) L h (by rw[S]) (by rw[S]) g B C
   ·have U:Nat.beq i id=false:=nG hi;simp only[U]at u;cases u;rw[D]at h;cases h;show Exit.inBlock id Q (.exit i) E I;simp only[Exit.inBlock,if_neg hi];refine L.x i A t E I ?_ g B C;have he:Cn ((id,m)::f.env) i=Cn f.env i:=by
     show(bif Nat.beq id i then m else Cn f.env i)=_;rw[nG (Ne.symm hi)];rfl
    rw[<-z];show JQ f i A=some ⟨.exit i,CS A.σ (mB (Cn ((id,m)::f.env) i)),A.H⟩;rw[he];rfl
  ·have D:=OO z;rw[D]at u;cases u;rw[D]at h;cases h;exact L.r A t E I z g B C
 | .loop b,m,f,k,s,d,q,a,w,Q,ho,h,F,R,L=>by
  have l:If tb n b=true:=by simpa [If]using ho
  have N:W b f (CS s.σ (mB (live (.loop b) 0 f))) s.H=some d:=h;have ae:=OJ s.σ (mB (live (.loop b) 0 f));obtain⟨σ,Y⟩:=ae;exact Et.loop (p b f _ s.H d N n σ q a w Q l Y (JZ F Y) R L.x L.r)
 | .exit id,m,f,k,s,d,q,a,w,Q,_,h,F,R,L=>Si (L.x id s q a w h (eG.le_refl _) F R)
 | .ret,m,f,k,s,d,q,a,w,Q,_,h,F,R,L=>VV (L.r s q a w h (eG.le_refl _) F R)
 | .rangeFunc _ _ _ _,m,f,k,s,d,q,a,w,Q,ho,_,_,_,_=>by simp[If]at ho
 | .scope _,m,f,k,s,d,q,a,w,Q,ho,_,_,_,_=>by simp[If]at ho
 | .label _,m,f,k,s,d,q,a,w,Q,ho,_,_,_,_=>by simp[If]at ho
 | .goto _,m,f,k,s,d,q,a,w,Q,ho,_,_,_,_=>by simp[If]at ho
 | .refuse _,m,f,k,s,d,q,a,w,Q,ho,_,_,_,_=>by simp[If]at ho
theorem adh (j:fN P tb) {n:Nat} {s:GS} {f:eG} {a:Act} {w:World} (F:lM f n s.σ a) (R:fW w0 f s.H w) {r:ResultVar} {g:GV} (h:agf tb s r=some g):∃v,Rl f g v∧(Gg a.tmps r).run P w = .ok v w:=by
 cases r with
 |tmp t=>exact⟨_,F.slot t g h,by simp[Gg,Act.eval]⟩
 |cell q T=>
  obtain⟨v,m,h⟩:=aF.1 (show ob (FP s.σ q) _=some g from h);have d:=F.slot q v m;obtain⟨x,_,_,_,_,_,o,c⟩:=Md (P:=P) j R d h;have c:=c w Z;refine⟨x,o,?_⟩
  obtain⟨p,k,_⟩:=aF.1 (show ob v.asP _=some g from h);rw[EA k]at d;obtain⟨l,u,e⟩:=d.ptr_inv;have i:a.tmps.getD q undef = .pointer (some ⟨l.b,l.off+p.2,none⟩):=e;rw[e]at c;simp only[Instr.loadAt,Instr.sureAddr]at c;simp only[Gg,i,asAddr];simpa using c
theorem Rf (f:fN P tb) {n:Nat} {s:GS} {e:eG} {a:Act} {w:World} (F:lM e n s.σ a) (R:fW w0 e s.H w):∀{l:List ResultVar} {gs:List GV},Re tb s l=some gs->∃b,pS e gs b∧(l.mapM (Gg a.tmps)).run P w = .ok b w
 | [],gs,h=>by cases h;exact⟨[],.nil,by simp⟩
 |r::l,gs,h=>by
  obtain⟨g,m,h⟩:=aF.1 (show ob (agf tb s r) (λv=>ob (Re tb s l) λb=>some (v::b))=some gs from h);obtain⟨i,c,h⟩:=aF.1 h;cases h;obtain⟨v,o,j⟩:=adh (P:=P) f F R m;obtain⟨b,d,k⟩:=Rf f F R c;exact⟨v::b,.cons o d,by simp[List.mapM_cons,j,k]⟩
theorem ZU {b:eG} {gs:List GV} {a:List Value} (h:pS b gs a):Rl b (W_ gs) (if h:a.toArray.size=1 then a.toArray[0]else .tuple a.toArray):=by
 cases gs with
 |nil=>rw[h.of_nil];exact JI .nil
 | cons g gs =>
  obtain⟨v,a,rfl,c,d⟩:=h.of_cons;cases gs with
  |nil=>rw[d.of_nil];show Rl b g _;simpa using c
  |cons j gs=>
   obtain⟨k,i,rfl,e,f⟩:=d.of_cons;rw[dif_neg (by simp)];exact JI (.cons c (.cons e f))
theorem HM (j:fN P tb) {fn:Func} {c:Cx} (d:c.res=fn.results.toList) {n:Nat} {s:GS} {g:eG} {a:Act} {w:World} {b:PL} (F:lM g n s.σ a) (R:fW w0 g s.H w) (h:TQ tb c s=some b):b.H=s.H∧∃v,Rl g (W_ b.vs) v∧(results fn a.tmps).run P w = .ok v w:=by
 obtain⟨gs,e,h⟩:=aF.1 (show ob (Re tb s c.res) _=some b from h);cases h;obtain⟨l,f,i⟩:=Rf (P:=P) j F R e;rw[d]at i;refine⟨rfl,_,ZU f,?_⟩
 rw[zN];have k:(fn.results.mapM (Gg a.tmps)).run P w = .ok l.toArray w:=by
  rw[Array.mapM_eq_mapM_toList];simp[i]
 simp[k]
structure VY (P:Program) (G:GP) (Fs:FT) {gs:Ai} (w0:fC gs):Prop where
 tab:fN P G.tab
 mixed:P.follows .mixedOrders=true
 fns:∀{f fn},Fs f=some fn->P.funcs[f]? = some fn∧aW P f∧(∀c,fn.body=some c->If G.tab fn.ntmps c=true)∧fn.params.size+fn.nfree<=fn.ntmps
 ext:∀{f us H g H'},G.ext f us H=some (g,H')->∀ρ w vs,fW w0 ρ H w->pS ρ us vs->kP P w0 ρ f vs w g H'
 exn:∀{f us g},G.exn f us=some g->∀ρ w vs H,fW w0 ρ H w->pS ρ us vs->kP P w0 ρ f vs w g H
 /-- the function that catches returns 0 and 0 if its argument returns;its two variables are new objects -/
 cat:∀{ρ:eG} {g us cs w H H' c1 c2},fW w0 ρ H w->(∀ρ' w',ρ.le ρ'->fW w0 ρ' ((H.new (.cells [yX])).new (.cells [yX])) w'->∃x,kP P w0 ρ' g (us++cs) w' x H')->H'.cells H.n=some [c1]->H'.cells (H.n+1)=some [c2]->
  kP P w0 ρ G.cat [.func (.func g) us.toArray cs.toArray] w (.tup [yX,yX]) ((((H'.set H.n (.cells [yX])).set (H.n+1) (.cells [yX])).del H.n).del (H.n+1))
def Xt (P:Program) {gs:Ai} (w0:fC gs) (h:IH):Prop:=∀f d H a,h (.fn f) d H=some a->a.e = .ret->∀c w g,fW w0 c H w->pS c d g->
 aW P f∧Calls P f g.toArray w λe i=>∃v b,e = .returned v∧c.le b∧fW w0 b a.H i∧Rl b (W_ a.vs) v
theorem Qg {d:IH} (h:Xt P w0 d):sX P w0 (ahS d):=λf i H g j m q w p R n=>by
 obtain⟨o,k,b⟩:=aF.1 (show ob (d (.fn f) i H) _=some (g,j)from m);cases c:o.e with
 |normal=>rw[c]at b;cases b
 |exit id=>rw[c]at b;cases b
 |ret=>
  rw[c]at b;cases b;obtain⟨l,a⟩:=h f i H o k c q w p R n;exact .inr ⟨l _ w,a⟩
theorem KE {B:IH} (j:VY P G Fs w0) (h:Xt P w0 B):sX P w0 (EF G B):=λf b H g z a t w i R e=>by
 unfold EF callQ at a;cases c:Nat.beq f G.cat with
 | false =>
  rw[c]at a;cases n:G.ext f b H with
  |some r=>
   simp only[n]at a;cases a;exact j.ext n t w i R e
  | none =>
   simp only[n]at a;cases s:G.exn f b with
   |some r=>
    simp only[s]at a;cases a;exact j.exn s t w i _ R e
   |none=>
    simp only[s]at a;exact Qg h f b H g z a t w i R e
 | true =>
  rw[c]at a;have c:=zA4 c;subst c;cases b with
  |nil=>cases a
  | cons u b =>
   cases b with
   |cons _ _=>cases a
   |nil=>
    obtain⟨p,F,a⟩:=aF.1 (show ob u.asF _=some (g,z)from a);rw[jP,jP]at a;obtain⟨x,J,a⟩:=aF.1 a;obtain⟨O,k,a⟩:=aF.1 a;obtain⟨Q,l,a⟩:=aF.1 a;obtain⟨o,a⟩:=bP.1 a;obtain⟨q,a⟩:=bP.1 a;rw[zC,zC,Gn,Gn]at a;cases a;obtain⟨M,rfl⟩:=List.length_eq_one_iff.1 (zA4 o);obtain⟨N,rfl⟩:=List.length_eq_one_iff.1 (zA4 q);obtain⟨v,i,rfl,A,E⟩:=e.of_cons;rw[E.of_nil];rw[Yd F]at A;obtain⟨K,D,rfl,I,m⟩:=A.fn_inv;exact j.cat R (λy L d C=>⟨x.1,Qg h p.1 _ _ x.1 x.2 J y L _ C ((I.le d).append (m.le d))⟩) k l
theorem afA {x:IH} (p:∀w0:fC gs,VY P G Fs w0) (B:∀w0:fC gs,Xt P w0 x) (l:Ik P w0 G.tab λb z=>x (.loop b z)) {f:Nat} {i:Func} {K:List GV} {H:GH} {d:PL} (T:Fs f=some i) (h:YQ G.tab (EF G x) (λb z=>x (.loop b z)) i K H=some d) (S:d.e = .ret) {u:eG} {w:World} {t:List Value} (R:fW w0 u H w) (I:pS u K t):
  aW P f∧Calls P f t.toArray w λe y=>∃v a,e = .returned v∧u.le a∧fW w0 a d.H y∧Rl a (W_ d.vs) v:=by
 obtain⟨M,N,O,Q⟩:=(p w0).fns T;refine⟨N,?_⟩
 obtain⟨k,E,h⟩:=aF.1 (show ob i.body _=some d from h);obtain⟨L,m,h⟩:=rQ h;rw[List.range_eq_range']at m;have s:=Kz m;have U:t.length<=i.ntmps:=by rw[<-I.len,s];exact Q
 refine uC M E ?_;have F:lM u i.ntmps L {tmps:=t.toArray++Array.replicate (i.ntmps - t.toArray.size) undef,defers:=[]}:=by
  refine NZ Z (by simp;omega) I (λj v q=> ?_) m;have C:=bH q;rw[Nat.zero_add,zB9 (by simpa using C)];simpa using q
 refine Dq (p w0).tab (p w0).mixed (λw0=>KE (p w0) (B w0)) l k _ _ _ ⟨L,H⟩ d u _ w _ (O k E) h F R ⟨λJ a D y r c n o=> ?_,λid J a D y r c n o=> ?_,λJ a D y r c n o=> ?_⟩
 ·obtain⟨A,v,q,g⟩:=HM (fn:=i) (p w0).tab Z n o r;exact Sx.body_end (.inr Z) n.defers g ⟨v,a,rfl,c,by rw[A];exact o,q⟩
 ·have:=Bn r;rw[S]at this;cases this
 ·obtain⟨A,v,q,g⟩:=HM (fn:=i) (p w0).tab Z n o r;exact Sx.body_end (.inl Z) n.defers g ⟨v,a,rfl,c,by rw[A];exact o,q⟩
theorem agk (B:∀w0:fC gs,VY P G Fs w0):∀(c:Nat) (w0:fC gs),Xt P w0 (run G Fs c)∧Ik P w0 G.tab λb d=>run G Fs c (.loop b d):=by
 intro c
 induction c with
 |zero=>exact λw0=>⟨λf us H i h=>(by cases h),λb d K H i h=>(by cases h)⟩
 | succ c ih =>
  have z:∀w0:fC gs,Xt P w0 (run G Fs c):=λw0=>(ih w0).1;intro w0;have q:=(ih w0).2;refine⟨λf us H i h he V w K R hr=> ?_,λb d K H i h n O V a w Q T I F R U k=> ?_⟩
  ·obtain⟨fn,E,h⟩:=aF.1 (show ob (Fs f) _=some i from h);exact afA B z q E h he R hr
  ·have D:kI (mB (live (.loop b) 0 d)) K (λO=>ob (evC G.tab (EF G (run G Fs c)) (λb d=>run G Fs c (.loop b d)) b (live (.loop b) 0 d) d (HL (mB (live (.loop b) 0 d))) ⟨O,H⟩) λo=>Ex.casesOn (motive:=λ_=>RS) o.e (run G Fs c (.loop b d) o.vs o.H) (λ_=>some o) (some o))=some i:=h;obtain⟨aa,l,D⟩:=rQ D;rw[I]at l;cases l;obtain⟨o,Y,s⟩:=aF.1 D;refine Et.round (Dq (B w0).tab (B w0).mixed (λw0=>KE (B w0) (z w0)) q b _ d _ ⟨O,H⟩ o V a w _ T Y F R ⟨λt j x A p g u v=> ?_,λid t j x A p g u v=> ?_,λt j x A p g u v=> ?_⟩)
   ·obtain⟨y,W,X⟩:=TO p;rw[y,W,X]at s;obtain⟨S,m⟩:=OJ t.σ (mB (live (.loop b) 0 d));exact q b d _ t.H i s n S j x A Q T m (JZ u m) v (λid J r C L M N=>U id J r C L M (eG.le_trans g N)) (λJ r C L M N=>k J r C L M (eG.le_trans g N))
   ·have y:=Bn p;rw[y]at s;cases s;exact U id t j x A p g u v
   ·have y:=OO p;rw[y]at s;cases s;exact k t j x A p g u v
theorem Hn (e:∀w0:fC gs,VY P G Fs w0) {a f:Nat} {c:List GV} {H H':GH} {g:GV} (h:UJ G Fs a f c H=some (g,H')) {b:eG} {w:World} {d:List Value} (R:fW w0 b H w) (i:pS b c d):kP P w0 b f d w g H':=
 KE (e w0) (agk e a w0).1 f c H g H' h b w d R i
theorem fW.start (b:fC gs) (c:gs.env=[]):fW b (λ_=>none) H0 b.w:=⟨CB.refl _,λh o a=>(by cases a),λh g o k l j a=>(by cases a),λ_ _=>rfl,λh d=>absurd d (Nat.not_lt_zero h),λh v l f=>(by cases f),λi v e=>by rw[c]at e;simp at e⟩
end
end Go.Gx
namespace Go.Gx
open Go Go.Sx
noncomputable section
def oN (a:List GV) (H:GH):RS:=some ⟨.normal,a,H⟩
def oX (id:Nat) (a:List GV) (H:GH):RS:=some ⟨.exit id,a,H⟩
def oR (a:List GV) (H:GH):RS:=some ⟨.ret,a,H⟩
def jn (r:RS) (k:List GV->GH->RS):RS:=ob r λo=>Ex.casesOn (motive:=λ_=>RS) o.e (k o.vs o.H) (λ_=>some o) (some o)
def rG (v:GV) (b:Bool) (H:GH) (X:OR):OR:=GV.casesOn (motive_1:=λ_=>OR) v (λ_ _=>none) (λq=>Bool.casesOn (motive:=λ_=>OR) (UT q b) (some (.un,H)) X) (λ_ _=>none) (λ_ _=>none) none (λ_ _ _ _=>none) none (λ_=>none) (λ_ _ _=>none) none none (λ_=>none) (λ_=>none) (some (.un,H)) none (λ_=>none)
def U0 {R:Type} (a:List GV) (f:Option R):Option R:=List.casesOn (motive:=λ_=>Option R) a (f) λ_ _=>none
def U1 {R:Type} (b:List GV) (f:GV->Option R):Option R:=List.casesOn (motive:=λ_=>Option R) b none λa c=>List.casesOn (motive:=λ_=>Option R) c (f a) λ_ _=>none
def U2 {R:Type} (c:List GV) (f:GV->GV->Option R):Option R:=List.casesOn (motive:=λ_=>Option R) c none λa d=>List.casesOn (motive:=λ_=>Option R) d none λb e=>List.casesOn (motive:=λ_=>Option R) e (f a b) λ_ _=>none
def U3 {R:Type} (d:List GV) (f:GV->GV->GV->Option R):Option R:=List.casesOn (motive:=λ_=>Option R) d none λa e=>List.casesOn (motive:=λ_=>Option R) e none λb g=>List.casesOn (motive:=λ_=>Option R) g none λc h=>List.casesOn (motive:=λ_=>Option R) h (f a b c) λ_ _=>none
def U4 {R:Type} (e:List GV) (f:GV->GV->GV->GV->Option R):Option R:=List.casesOn (motive:=λ_=>Option R) e none λa g=>List.casesOn (motive:=λ_=>Option R) g none λb h=>List.casesOn (motive:=λ_=>Option R) h none λc i=>List.casesOn (motive:=λ_=>Option R) i none λd j=>List.casesOn (motive:=λ_=>Option R) j (f a b c d) λ_ _=>none
def U5 {R:Type} (g:List GV) (f:GV->GV->GV->GV->GV->Option R):Option R:=List.casesOn (motive:=λ_=>Option R) g none λa h=>List.casesOn (motive:=λ_=>Option R) h none λb i=>List.casesOn (motive:=λ_=>Option R) i none λc j=>List.casesOn (motive:=λ_=>Option R) j none λd k=>List.casesOn (motive:=λ_=>Option R) k none λe l=>List.casesOn (motive:=λ_=>Option R) l (f a b c d e) λ_ _=>none
def U6 {R:Type} (h:List GV) (f:GV->GV->GV->GV->GV->GV->Option R):Option R:=List.casesOn (motive:=λ_=>Option R) h none λa i=>List.casesOn (motive:=λ_=>Option R) i none λb j=>List.casesOn (motive:=λ_=>Option R) j none λc k=>List.casesOn (motive:=λ_=>Option R) k none λd l=>List.casesOn (motive:=λ_=>Option R) l none λe m=>List.casesOn (motive:=λ_=>Option R) m none λg n=>List.casesOn (motive:=λ_=>Option R) n (f a b c d e g) λ_ _=>none
def U7 {R:Type} (i:List GV) (f:GV->GV->GV->GV->GV->GV->GV->Option R):Option R:=List.casesOn (motive:=λ_=>Option R) i none λa j=>List.casesOn (motive:=λ_=>Option R) j none λb k=>List.casesOn (motive:=λ_=>Option R) k none λc l=>List.casesOn (motive:=λ_=>Option R) l none λd m=>List.casesOn (motive:=λ_=>Option R) m none λe n=>List.casesOn (motive:=λ_=>Option R) n none λg o=>List.casesOn (motive:=λ_=>Option R) o none λh p=>List.casesOn (motive:=λ_=>Option R) p (f a b c d e g h) λ_ _=>none
def U8 {R:Type} (j:List GV) (f:GV->GV->GV->GV->GV->GV->GV->GV->Option R):Option R:=List.casesOn (motive:=λ_=>Option R) j none λa k=>List.casesOn (motive:=λ_=>Option R) k none λb l=>List.casesOn (motive:=λ_=>Option R) l none λc m=>List.casesOn (motive:=λ_=>Option R) m none λd n=>List.casesOn (motive:=λ_=>Option R) n none λe o=>List.casesOn (motive:=λ_=>Option R) o none λg p=>List.casesOn (motive:=λ_=>Option R) p none λh q=>List.casesOn (motive:=λ_=>Option R) q none λi r=>List.casesOn (motive:=λ_=>Option R) r (f a b c d e g h i) λ_ _=>none
def U9 {R:Type} (k:List GV) (f:GV->GV->GV->GV->GV->GV->GV->GV->GV->Option R):Option R:=List.casesOn (motive:=λ_=>Option R) k none λa l=>List.casesOn (motive:=λ_=>Option R) l none λb m=>List.casesOn (motive:=λ_=>Option R) m none λc n=>List.casesOn (motive:=λ_=>Option R) n none λd o=>List.casesOn (motive:=λ_=>Option R) o none λe p=>List.casesOn (motive:=λ_=>Option R) p none λg q=>List.casesOn (motive:=λ_=>Option R) q none λh r=>List.casesOn (motive:=λ_=>Option R) r none λi s=>List.casesOn (motive:=λ_=>Option R) s none λj t=>List.casesOn (motive:=λ_=>Option R) t (f a b c d e g h i j) λ_ _=>none
def TY:pG->Code->Code
 | [],c=>c
 |0::p,.seq a _=>TY p a
 |1::p,.seq _ b=>TY p b
 |0::p,.cond _ a _=>TY p a
 |1::p,.cond _ _ b=>TY p b
 |0::p,.block _ b=>TY p b
 |0::p,.loop b=>TY p b
 |_,c=>c
def cV (a:Func) (p:pG):Code:=match a.body with
 |some c=>TY p c
 |none=> .skip
def kD (b:Func) (a:List (Nat×Nat)):Cx:=⟨b.results.toList,Ka b.results.toList,a⟩
abbrev iA:=CH->QH->List GV->GH->RS
structure Hg where
 fn:Nat->Option (Func×iA)
 lp:Nat->Option ((Code×Cx)×iA)
def Hg.fns (T:Hg) (f:Nat):Option Func:=ob (T.fn f) λe=>some e.1
def Hg.loop (T:Hg) (a:LH):QH:=λi vs H=>ob (T.lp i) λe=>a e.1.1 e.1.2 vs H
def rr (T:Hg) (G:GP) (n:Nat):Bool->QH:=Nat.rec (motive:=λ_=>Bool->QH) (λ_ _ _ _=>none) (λ_ a b t c H=>Bool.casesOn (motive:=λ_=>RS) b (ob (T.fn t) λe=>e.2 (callQ G (a false)) (a true) c H) (ob (T.lp t) λe=>e.2 (callQ G (a false)) (a true) c H)) n
structure Kx (T:Hg) (tb:TB):Prop where
 fn:∀{f e},T.fn f=some e->∀(c:CH) (lp:LH) us H,e.2 c (T.loop lp) us H=YQ tb c lp e.1 us H
 lp:∀{i e},T.lp i=some e->∀(c:CH) (lp:LH) us H,e.2 c (T.loop lp) us H=evL tb c lp e.1.1 e.1.2 us H
theorem aiA {T:Hg} {G:GP} (h:Kx T G.tab):∀n,rr T G n false=(λf c H=>run G T.fns n (.fn f) c H)∧rr T G n true=T.loop (λb a=>run G T.fns n (.loop b a)):=by
 intro n
 induction n with
 |zero=>
  refine⟨rfl,?_⟩
  funext i vs H;show none=ob (T.lp i) λe=>none;cases T.lp i<;>rfl
 | succ n ih =>
  obtain⟨d,g⟩:=ih;constructor
  ·funext f c H;show ob (T.fn f) (λe=>e.2 (callQ G (rr T G n false)) (rr T G n true) c H)=ob (T.fns f) λk=>YQ G.tab (EF G (run G T.fns n)) (λb a=>run G T.fns n (.loop b a)) k c H;unfold Hg.fns;cases j:T.fn f with
   |none=>rfl
   |some e=>
    show e.2 (callQ G (rr T G n false)) (rr T G n true) c H=YQ G.tab (EF G (run G T.fns n)) (λb a=>run G T.fns n (.loop b a)) e.1 c H;rw[d,g];exact h.fn j _ _ c H
  ·funext i vs H;show ob (T.lp i) (λe=>e.2 (callQ G (rr T G n false)) (rr T G n true) vs H)=ob (T.lp i) λe=>run G T.fns (n+1) (.loop e.1.1 e.1.2) vs H;cases j:T.lp i with
   |none=>rfl
   |some e=>
    show e.2 (callQ G (rr T G n false)) (rr T G n true) vs H=evL G.tab (EF G (run G T.fns n)) (λb a=>run G T.fns n (.loop b a)) e.1.1 e.1.2 vs H;rw[d,g];exact h.lp j _ _ vs H
def okF (a:TB) (fn:Func):Bool:=match fn.body with
 |some c=>If a fn.ntmps c&&Nat.ble (fn.params.size+fn.nfree) fn.ntmps
 |none=>false
theorem QU {tb:TB} {fn:Func} (h:okF tb fn=true):(∀c,fn.body=some c->If tb fn.ntmps c=true)∧fn.params.size+fn.nfree<=fn.ntmps:=by
 unfold okF at h;cases a:fn.body with
 |none=>rw[a]at h;cases h
 |some c=>
  rw[a]at h;simp only[zA6]at h;exact⟨λd b=>by cases b;exact h.1,by simpa using h.2⟩
def KF (T:Hg) (G:GP) (b:Nat) (f:FuncId) (a:List GV) (H:GH):OR:=callQ G (rr T G b false) f a H
theorem Ho {T:Hg} {G:GP} (h:Kx T G.tab) (fuel:Nat) (f:FuncId) (a:List GV) (H:GH):KF T G fuel f a H=UJ G T.fns fuel f a H:=by
 unfold KF UJ EF;rw[(aiA h fuel).1]
end
end Go.Gx
section
set_option maxRecDepth 100000
namespace Go.Gx
open Go Go.Sx Go.Proofs
noncomputable section
abbrev y:=xJ
def gB (f:Func) (c:CH) (_:QH) (a:List GV) (H:GH):RS:=YQ y c (λ_ _ _ _=>none) f a H
def v_ (f:Func) (i:Nat) (c:CH) (q:QH) (a:List GV) (H:GH):RS:=YQ y c (λ_ _ b H=>q i b H) f a H
def gL (e:Code×Cx) (i:Nat) (c:CH) (q:QH) (a:List GV) (H:GH):RS:=evL y c (λ_ _ b H=>q i b H) e.1 e.2 a H
def gL1 (e:Code×Cx) (n i j:Nat) (c:CH) (q:QH) (d:List GV) (H:GH):RS:=evL y c (λ_ b a H=>bif Nat.beq b.env.length n then q i a H else q j a H) e.1 e.2 d H
def gD (e:Code×Cx) (i:Nat):(Code×Cx)×iA:=(e,gL e i)
def gD1 (e:Code×Cx) (n i j:Nat):(Code×Cx)×iA:=(e,gL1 e n i j)
def i (n:Nat):GV:= .int .i64 (.ofNat n)
def bC (q:Bool) (f t:RS):RS:=Bool.casesOn (motive:=λ_=>RS) q f t
def K (c:CH) (f:Nat) (a:List GV) (H:GH) (k:GV->GH->RS):RS:=fU (c f a H) k
def bn (a:BinOp) (T:Nat) (v u:GV) (k:GV->RS):RS:=ob (Cu y a T v u) k
def ld (T:Nat) (v:GV) (H:GH) (k:GV->RS):RS:=ob (vN y T v H) k
def fd (T n:Nat) (v:GV) (k:GV->RS):RS:=ob (Cv y T n v) k
def ix (T:Nat) (v u:GV) (k:GV->RS):RS:=ob (Uh y T v u) k
def ln (T:Nat) (v:GV) (k:GV->RS):RS:=ob (RY y T v) k
def ex (n:Nat) (v:GV) (k:GV->RS):RS:=ob (agt n v) k
def bd (T:Nat) (l:List (Nat×GV)) (k:GV->RS):RS:=ob (Uf y T l) k
theorem rN {a:Type} {f n:Nat} {x y:Option a} {e:a} {R:Prop} (b:x=some e->R) (c:y=some e->R):tN f n x y=some e->R:=by
 unfold tN;cases Nat.blt f n
 ·exact c
 ·exact b
theorem rL {c:Type} {f n:Nat} {x e:c} {R:Nat->c->Prop} (h:R n x):tL f n x=some e->R f e:=by
 intro a;unfold tL at a;cases b:Nat.beq f n with
 |false=>rw[b]at a;cases a
 |true=>rw[b]at a;cases a;rw[zA4 b];exact h
def B61 (c:CH) (q:QH) (z:List GV) (H:GH):RS:=U2 z λA B=>
 fU (Pm A H) λr p=>
 fd 28 1 r λw=>
 ld 26 w p λx=>
 ln 26 x λs=>
 fU (aaG y 22 s s p) λt u=>
 ln 22 t λm=>
 jn (nB 0 (q 3 [B,r,t,m,(i 0)] u)) λd h=>U3 d λa f b=>ix 22 b a λn=>
 fU (oA y 3 n (i 0) h) λv j=>
 fU (Bl y 22 1 [(0,a)] j) λo k=>
 jn (nB 2 (q 4 [f,b,o] k)) λe l=>U1 e λg=>oR [g] l
def L3 (c:CH) (B:QH) (D:List GV) (H:GH):RS:=U5 D λa b d e f=>jn (bn .lss 3 f e λx=>
 ob (GV.asB x) λw=>jn (bC w (oX 0 [a,b,d] H) (oN [a,b,d,e,f] H)) λj t=>U5 j λl m g n h=>jn (nB 1 (ix 22 g h λz=>
 fU (oA y 3 z (.int .i64 (.negSucc 0)) t) λC u=>
 oN [l,m,g,n,h] u)) λk v=>U5 k λo p q r s=>bn .add 3 s (i 1) λA=>
 oN [o,p,q,r,A] v) (B 3)
def L4 (c:CH) (G:QH) (I:List GV) (H:GH):RS:=U3 I λm b d=>jn (ln 22 d λx=>
 bn .gtr 3 x (i 0) λz=>
 ob (GV.asB z) λw=>jn (bC w (oX 2 [b] H) (oN [m,b,d] H)) λj a=>U3 j λe n f=>jn (nB 3 (ix 22 f (i 0) λA=>
 ld 3 A a λg=>
 ob (BR y 22 f (some (i 1)) none a) λB=>
 fd 28 1 e λC=>
 ld 26 C a λD=>
 ix 26 D g λE=>
 ld 63 E a λh=>
 ln 63 h λF=>
 jn (nB 4 (G 5 [e,n,B,g,h,F,(i 0)] a)) λk u=>U3 k λo p q=>oN [o,p,q] u)) λl v=>U3 l λr s t=>oN [r,s,t] v) (G 4)
def L5 (c:CH) (ql:QH) (us:List GV) (H:GH):RS:=U7 us λA B C ah ai D E=>jn (bn .lss 3 E D λal=>
 ob (GV.asB al) λak=>jn (bC ak (oX 4 [A,B,C] H) (oN [A,B,C,ah,ai,D,E] H)) λag N=>U7 ag λF b G f g I h=>jn (nB 5 (ix 63 g h λam=>
 ld 97 am N λan=>
 fU (oK y 97 N) λd aj=>
 fU (oA y 97 d an aj) λao a=>
 fd 97 0 d λP=>
 ld 3 P a λQ=>
 ix 22 b Q λR=>
 ld 3 R a λS=>
 bn .lss 3 S (i 0) λT=>
 ob (GV.asB T) λO=>jn (bC O (oN [F,b,G,f,g,I,h] a) (fd 97 0 d λU=>
 ld 3 U a λV=>
 ix 22 b f λW=>
 ld 3 W a λX=>
 bn .add 3 X (i 1) λY=>
 ix 22 b V λaa=>
 fU (oA y 3 aa Y a) λap e=>
 fd 97 0 d λab=>
 ld 3 ab e λac=>
 fU (Bl y 22 1 [(0,ac)] e) λad J=>
 fU (Ue y 22 22 G ad J) λae K=>
 oN [F,b,ae,f,g,I,h] K)) λj L=>U7 j λl m n o p q r=>oN [l,m,n,o,p,q,r] L)) λk M=>U7 k λs t u v w x z=>bn .add 3 z (i 1) λaf=>
 oN [s,t,u,v,w,x,af] M) (ql 5)
def B69 (c:CH) (l:QH) (p:List GV) (H:GH):RS:=U1 p λg=>
 ln 9 g λm=>
 bn .gtr 3 m (i 16384) λn=>
 ob (GV.asB n) λk=>jn (bC k (oN [g] H) (oR [.snil,(i 0),(i 3)] H)) λe h=>U1 e λf=>K c 93 [f,(i 0)] h λo j=>
 jn (nB 0 (l 12 [f,.snil,o] j)) λa d=>U1 a λb=>oR [b,(i 0),(i 0)] d
def L12 (c:CH) (ql:QH) (us:List GV) (H:GH):RS:=U3 us λa b d=>jn (ln 9 a λO=>
 bn .lss 3 d O λP=>
 ob (GV.asB P) λL=>jn (bC L (oX 0 [b] H) (oN [a,b,d] H)) λs l=>U3 s λw e f=>jn (nB 1 (ln 110 e λQ=>
 bn .eql 3 Q (i 4096) λR=>
 ob (GV.asB R) λM=>jn (bC M (oN [w,e,f] l) (oR [.snil,f,(i 3)] l)) λt D=>U3 t λg x h=>K c 94 [g,h] D λp E=>
 ex 0 p λS=>
 ex 1 p λq=>
 fU (oK y 142 E) λr F=>
 fU (oA y 142 r S F) λab m=>
 bn .neq 67 q (i 0) λT=>
 ob (GV.asB T) λN=>jn (bC N (oN [g,x,r] m) (oR [.snil,h,q] m)) λu n=>U3 u λj z k=>ld 142 k n λU=>
 fU (Bl y 110 1 [(0,U)] n) λV G=>
 fU (Ue y 110 110 z V G) λW o=>
 fd 142 2 k λX=>
 ld 3 X o λY=>
 K c 93 [j,Y] o λaa I=>
 oN [j,W,aa] I)) λv J=>U3 v λA B C=>oN [A,B,C] J) (ql 12)
def B72 (c:CH) (T:QH) (us:List GV) (H:GH):RS:=U1 us λx1=>
 fU (Pm x1 H) λF P=>
 fd 57 1 F λt4=>
 ld 32 t4 P λt5=>
 ln 32 t5 λt6=>
 bn .eql 3 t6 (i 0) λz=>
 fU (rG z false P (ob (Cv y 57 1 F) λg8=>some (g8,P))) λt9 b=>
 fU (rG z false b (ob (vN y 32 t9 b) λG=>some (G,b))) λU j=>
 fU (rG z false j (ob (RY y 32 U) λI=>some (I,j))) λV k=>
 fU (rG z false k (ob (Cu y .gtr 3 V (i 6)) λJ=>some (J,k))) λW l=>
 ob (sV z (.bool true) W) λa=>
 fU (rG a false l (ob (Cv y 57 2 F) λL=>some (L,l))) λX d=>
 fU (rG a false d (ob (vN y 55 X d) λM=>some (M,d))) λY m=>
 fU (rG a false m (ob (RY y 55 Y) λN=>some (N,m))) λaa n=>
 fU (rG a false n (ob (Cu y .gtr 3 aa (i 12)) λO=>some (O,n))) λab o=>
 ob (sV a (.bool true) ab) λac=>
 ob (GV.asB ac) λR=>jn (bC R (oN [F] o) (oR [(i 3)] o)) λA p=>U1 A λe=>ld 57 e p λad=>
 K c 104 [ad] p λae q=>
 ob (vUn .not ae) λaf=>
 ob (GV.asB af) λS=>jn (bC S (oN [e] q) (oR [(i 5)] q)) λB r=>U1 B λf=>fd 57 1 f λag=>
 ld 32 ag r λv=>
 ln 32 v λah=>
 jn (nB 0 (T 13 [f,v,ah,(i 0)] r)) λC s=>U1 C λg=>fd 57 2 g λai=>
 ld 55 ai s λw=>
 ln 55 w λaj=>
 jn (nB 2 (T 14 [g,w,aj,(i 0)] s)) λD t=>U1 D λh=>ld 57 h t λak=>
 K c 107 [ak] t λal u=>
 fd 57 2 h λam=>
 ld 55 am u λx=>
 ln 55 x λan=>
 jn (nB 4 (T 15 [al,x,an,(i 0)] u)) λE Q=>U0 E (oR [(i 0)] Q)
def L13 (c:CH) (O:QH) (Q:List GV) (H:GH):RS:=U4 Q λb q d e=>jn (bn .lss 3 e d λG=>
 ob (GV.asB G) λE=>jn (bC E (oX 0 [b] H) (oN [b,q,d,e] H)) λn h=>U4 n λr f s g=>jn (nB 1 (ix 32 f g λI=>
 ld 62 I h λJ=>
 fU (oK y 62 h) λm B=>
 fU (oA y 62 m J B) λP j=>
 ld 62 m j λL=>
 K c 105 [L] j λM k=>
 ob (vUn .not M) λN=>
 ob (GV.asB N) λF=>jn (bC F (oN [r,f,s,g] k) (oR [(i 2)] k)) λo C=>U4 o λt u v w=>oN [t,u,v,w] C)) λp D=>U4 p λx z A a=>bn .add 3 a (i 1) λl=>
 oN [x,z,A,l] D) (O 13)
def L14 (c:CH) (S:QH) (T:List GV) (H:GH):RS:=U4 T λb p d e=>jn (bn .lss 3 e d λF=>
 ob (GV.asB F) λD=>jn (bC D (oX 2 [b] H) (oN [b,p,d,e] H)) λm j=>U4 m λf g q h=>jn (nB 3 (ix 55 g h λG=>
 ld 158 G j λI=>
 fU (oK y 158 j) λl A=>
 fU (oA y 158 l I A) λR a=>
 ld 158 l a λJ=>
 fd 57 1 f λL=>
 ld 32 L a λM=>
 ln 32 M λN=>
 K c 106 [J,N] a λO k=>
 ob (vUn .not O) λP=>
 ob (GV.asB P) λE=>jn (bC E (oN [f,g,q,h] k) (oR [(i 7)] k)) λn B=>U4 n λr s t u=>oN [r,s,t,u] B)) λo C=>U4 o λv w x z=>bn .add 3 z (i 1) λQ=>
 oN [v,w,x,Q] C) (S 14)
def L15 (c:CH) (P:QH) (Q:List GV) (H:GH):RS:=U4 Q λo p a b=>jn (bn .lss 3 b a λF=>
 ob (GV.asB F) λD=>jn (bC D (oX 4 [] H) (oN [o,p,a,b] H)) λl g=>U4 l λd e q f=>jn (nB 5 (ix 55 e f λG=>
 ld 158 G g λI=>
 fU (oK y 158 g) λk A=>
 fU (oA y 158 k I A) λO h=>
 ld 158 k h λJ=>
 K c 108 [J,d] h λL j=>
 ob (vUn .not L) λM=>
 ob (GV.asB M) λE=>jn (bC E (oN [d,e,q,f] j) (oR [(i 6)] j)) λm B=>U4 m λr s t u=>oN [r,s,t,u] B)) λn C=>U4 n λv w x z=>bn .add 3 z (i 1) λN=>
 oN [v,w,x,N] C) (P 15)
def B93 (c:CH) (e:QH) (f:List GV) (H:GH):RS:=U2 f λg h=>
 jn (nB 0 (e 23 [g,h] H)) λa d=>U1 a λb=>oR [b] d
def L23 (c:CH) (ql:QH) (us:List GV) (H:GH):RS:=U2 us λa6 R=>jn (ln 9 a6 λt8=>
 bn .lss 3 R t8 λt9=>
 ob (GV.asB t9) λaa=>jn (bC aa (oX 0 [R] H) (oN [a6,R] H)) λm e=>U2 m λb d=>jn (nB 1 (ob (vAt y 9 b d) λa=>
 jn (nB 2 (bn .eql 5 a (.int .u8 (.ofNat 32)) λj=>
 ob (GV.asB j) λab=>jn (bC ab (bn .eql 5 a (.int .u8 (.ofNat 9)) λk=>
 ob (GV.asB k) λac=>jn (bC ac (bn .eql 5 a (.int .u8 (.ofNat 10)) λl=>
 ob (GV.asB l) λad=>jn (bC ad (bn .eql 5 a (.int .u8 (.ofNat 13)) λag=>
 oN [b,d,a,ag] e) (oN [b,d,a,l] e)) λn S=>U4 n λv w x z=>oN [v,w,x,z] S) (oN [b,d,a,k] e)) λo T=>U4 o λA B C D=>oN [A,B,C,D] T) (oN [b,d,a,j] e)) λp g=>U4 p λh f E F=>ob (GV.asB F) λae=>jn (bC ae (bn .eql 5 E (.int .u8 (.ofNat 35)) λai=>
 ob (GV.asB ai) λaf=>jn (bC af (oR [f] g) (jn (nB 3 (ql 24 [h,f] g)) λq U=>U2 q λG I=>oN [G,I] U)) λr V=>U2 r λJ K=>oN [J,K] V) (bn .add 3 f (i 1) λah=>
 oN [h,ah] g)) λs W=>U2 s λL M=>oN [L,M] W)) λt X=>U2 t λN O=>oN [N,O] X)) λu Y=>U2 u λP Q=>oN [P,Q] Y) (ql 23)
def L24 (c:CH) (C:QH) (D:List GV) (H:GH):RS:=U2 D λb d=>jn (ln 9 b λu=>
 bn .lss 3 d u λa=>
 fU (rG a true H (some (b,H))) λv e=>
 fU (rG a true e (some (d,e))) λw f=>
 fU (rG a true f (ob (vAt y 9 v w) λp=>some (p,f))) λx g=>
 fU (rG a true g (ob (Cu y .neq 5 x (.int .u8 (.ofNat 10))) λq=>some (q,g))) λz h=>
 ob (sV a z (.bool false)) λA=>
 ob (GV.asB A) λt=>jn (bC t (oX 3 [b,d] h) (oN [b,d] h)) λj r=>U2 j λl m=>jn (nB 4 (bn .add 3 m (i 1) λB=>
 oN [l,B] r)) λk s=>U2 k λn o=>oN [n,o] s) (C 24)
def agN (c:CH) (w:QH) (D:List GV) (H:GH):RS:=U1 D λE=>
 fU (Pm E H) λx u=>
 fd 57 0 x λz=>
 ld 9 z u λA=>
 K c 136 [A] u λB v=>
 ob (vUn .not B) λC=>
 ob (GV.asB C) λy=>jn (bC y (oN [x] v) (oR [(.bool false)] v)) λg l=>U1 g λa=>fU (Da l) λo b=>
 fd 57 1 a λp=>
 ld 32 p b λe=>
 ln 32 e λq=>
 jn (nB 0 (w 28 [a,o,e,q,(i 0)] b)) λh m=>U1 h λk=>fU (Da m) λr d=>
 fd 57 2 k λs=>
 ld 55 s d λf=>
 ln 55 f λt=>
 jn (nB 2 (w 29 [r,f,t,(i 0)] d)) λj n=>U0 j (oR [(.bool true)] n)
def L28 (c:CH) (ql:QH) (us:List GV) (H:GH):RS:=U5 us λf w x g h=>jn (bn .lss 3 h g λV=>
 ob (GV.asB V) λT=>jn (bC T (oX 0 [f] H) (oN [f,w,x,g,h] H)) λt n=>U5 t λz j k A l=>jn (nB 1 (ix 32 k l λW=>
 ld 62 W n λX=>
 fU (oK y 62 n) λb Q=>
 fU (oA y 62 b X Q) λak o=>
 fd 62 0 b λY=>
 ld 9 Y o λaa=>
 K c 136 [aa] o λab p=>
 ob (vUn .not ab) λa=>
 fU (rG a false p (some (j,p))) λac q=>
 fU (rG a false q (ob (Cv y 62 0 b) λN=>some (N,q))) λad d=>
 fU (rG a false d (ob (vN y 9 ad d) λO=>some (O,d))) λae e=>
 fU (rG a false e (ob (VR y 194 false ac ae e) λP=>some (P,e))) λaf r=>
 ob (sV a (.bool true) af) λag=>
 ob (GV.asB ag) λU=>jn (bC U (oN [z,j,b,k,A,l] r) (oR [(.bool false)] r)) λu s=>U6 u λB m C D E F=>fd 62 0 C λah=>
 ld 9 ah s λai=>
 fU (Pn y 194 m ai (.bool true) s) λal R=>
 oN [B,m,D,E,F] R)) λv S=>U5 v λG I J L M=>bn .add 3 M (i 1) λaj=>
 oN [G,I,J,L,aj] S) (ql 28)
def L29 (c:CH) (ql:QH) (us:List GV) (H:GH):RS:=U4 us λY aa w x=>jn (bn .lss 3 x w λad=>
 ob (GV.asB ad) λac=>jn (bC ac (oX 2 [] H) (oN [Y,aa,w,x] H)) λX J=>U4 X λz A ab B=>jn (nB 3 (ix 55 A B λae=>
 ld 158 ae J λaf=>
 fU (oK y 158 J) λb F=>
 fU (oA y 158 b af F) λag g=>
 fd 158 0 b λM=>
 ld 9 M g λN=>
 K c 136 [N] g λO h=>
 ob (vUn .not O) λa=>
 fU (rG a false h (some (z,h))) λP j=>
 fU (rG a false j (ob (Cv y 158 0 b) λC=>some (C,j))) λQ d=>
 fU (rG a false d (ob (vN y 9 Q d) λD=>some (D,d))) λR e=>
 fU (rG a false e (ob (VR y 194 false P R e) λE=>some (E,e))) λS k=>
 ob (sV a (.bool true) S) λT=>
 ob (GV.asB T) λL=>jn (bC L (oN [z,b,A,ab,B] k) (oR [(.bool false)] k)) λm l=>U5 m λf o p q r=>fd 158 0 o λU=>
 ld 9 U l λV=>
 fU (Pn y 194 f V (.bool true) l) λah G=>
 oN [f,p,q,r] G)) λn I=>U4 n λs t u v=>bn .add 3 v (i 1) λW=>
 oN [s,t,u,W] I) (ql 29)
def agO (c:CH) (e:QH) (g:List GV) (H:GH):RS:=U3 g λh i j=>
 ld 3 i H λf=>
 jn (nB 0 (e 36 [h,j,f] H)) λa d=>U1 a λb=>oR [b] d
def L36 (c:CH) (K:QH) (L:List GV) (H:GH):RS:=U3 L λJ s b=>jn (ld 9 s H λz=>
 ln 9 z λA=>
 bn .lss 3 b A λa=>
 fU (rG a true H (some (J,H))) λB d=>
 fU (rG a true d (ob (vN y 9 s d) λt=>some (t,d))) λC f=>
 fU (rG a true f (some (b,f))) λD g=>
 fU (rG a true g (ob (vAt y 9 C D) λu=>some (u,g))) λE h=>
 fU (rG a true h (ob (GV.asF B) λe=>fU (c e.1 (e.2.1++[E]++e.2.2) h) GZ)) λF j=>
 ob (sV a F (.bool false)) λG=>
 ob (GV.asB G) λx=>jn (bC x (oX 0 [b] j) (oN [J,s,b] j)) λk v=>U3 k λm n o=>jn (nB 1 (bn .add 3 o (i 1) λI=>
 oN [m,n,I] v)) λl w=>U3 l λp q r=>oN [p,q,r] w) (K 36)
def agP (c:CH) (B:QH) (A:List GV) (H:GH):RS:=U1 A λi=>
 bn .geq 5 i (.int .u8 (.ofNat 97)) λq=>
 fU (rG q true H (some (i,H))) λw t=>
 fU (rG q true t (ob (Cu y .leq 5 w (.int .u8 (.ofNat 122))) λv=>some (v,t))) λx u=>
 ob (sV q x (.bool false)) λh=>
 fU (rG h false u (some (i,u))) λz b=>
 fU (rG h false b (ob (Cu y .geq 5 z (.int .u8 (.ofNat 65))) λj=>some (j,b))) λn d=>
 fU (rG h false d (some (n,d))) λa e=>
 fU (rG a true e (some (i,e))) λo f=>
 fU (rG a true f (ob (Cu y .leq 5 o (.int .u8 (.ofNat 90))) λk=>some (k,f))) λp g=>
 fU (rG h false g (ob (sV a p (.bool false)) λl=>some (l,g))) λr m=>
 ob (sV h (.bool true) r) λs=>
 oR [s] m
def agQ (c:CH) (q:QH) (p:List GV) (H:GH):RS:=U1 p λi=>
 K c 128 [i] H λg j=>
 fU (rG g false j (some (i,j))) λm k=>
 fU (rG g false k (fU (c 130 [m] k) GZ)) λn l=>
 ob (sV g (.bool true) n) λh=>
 fU (rG h false l (some (i,l))) λo a=>
 fU (rG h false a (ob (Cu y .eql 5 o (.int .u8 (.ofNat 95))) λb=>some (b,a))) λe d=>
 ob (sV h (.bool true) e) λf=>
 oR [f] d
def agS (c:CH) (k:QH) (j:List GV) (H:GH):RS:=U1 j λd=>
 bn .geq 5 d (.int .u8 (.ofNat 48)) λa=>
 fU (rG a true H (some (d,H))) λg b=>
 fU (rG a true b (ob (Cu y .leq 5 g (.int .u8 (.ofNat 57))) λe=>some (e,b))) λh f=>
 ob (sV a h (.bool false)) λi=>
 oR [i] f
def agT (c:CH) (m:QH) (q:List GV) (H:GH):RS:=U1 q λr=>
 fU (Bl y 114 9 [(0,(.str 11822 2)),(1,(.str 15917 2)),(2,(.str 15674 2)),(3,(.str 9766 2)),(4,(.str 31868 2)),(5,(.str 15677 2)),(6,(.str 15649 2)),(7,(.str 15676 2)),(8,(.str 15678 2))] H) λh k=>
 ln 114 h λn=>
 jn (nB 0 (m 38 [r,h,n,(i 0)] k)) λg l=>U1 g λj=>ob (vAt y 9 j (i 0)) λo=>
 K c 155 [(.str 172099982263598878148345807877454395 15),o] l λp a=>
 bn .geq 3 p (i 0) λf=>
 ob (GV.asB f) λe=>jn (bC e (oN [] a) (oR [(i 1)] a)) λb d=>U0 b (oR [(i 0)] d)
def L38 (c:CH) (G:QH) (I:List GV) (H:GH):RS:=U4 I λa n b d=>jn (bn .lss 3 d b λB=>
 ob (GV.asB B) λz=>jn (bC z (oX 0 [a] H) (oN [a,n,b,d] H)) λk h=>U4 k λe f o g=>jn (nB 1 (ix 114 f g λC=>
 ld 9 C h λD=>
 K c 154 [e,D] h λE j=>
 ob (GV.asB E) λA=>jn (bC A (oN [e,f,o,g] j) (oR [(i 2)] j)) λl x=>U4 l λp q r s=>oN [p,q,r,s] x)) λm y=>U4 m λt u v w=>bn .add 3 w (i 1) λF=>
 oN [t,u,v,F] y) (G 38)
def agU (c:CH) (n:QH) (l:List GV) (H:GH):RS:=U2 l λe m=>
 K c 134 [e] H λj d=>
 bn .neq 9 j m λk=>
 ob (GV.asB k) λh=>jn (bC h (oN [e] d) (oR [(.bool false)] d)) λb g=>U1 b λf=>K c 137 [f] g λi a=>
 oR [(.bool true)] a
def agV (c:CH) (E:QH) (D:List GV) (H:GH):RS:=U1 D λv=>
 ob (GV.nilck v) λx=>
 fd 116 1 x λz=>
 ld 110 z H λA=>
 ln 110 A λB=>
 bn .eql 3 B (i 0) λC=>
 ob (GV.asB C) λw=>jn (bC w (oN [v] H) (oR [(.str 0 0)] H)) λu b=>U1 u λa=>ob (GV.nilck a) λd=>
 fd 116 0 d λe=>
 ld 9 e b λf=>
 ob (GV.nilck a) λg=>
 fd 116 1 g λh=>
 ld 110 h b λj=>
 ix 110 j (i 0) λk=>
 fd 142 1 k λl=>
 ld 3 l b λm=>
 ob (GV.nilck a) λn=>
 fd 116 1 n λo=>
 ld 110 o b λp=>
 ix 110 p (i 0) λq=>
 fd 142 2 q λr=>
 ld 3 r b λs=>
 ob (BR y 9 f (some m) (some s) b) λt=>
 oR [t] b
def agW (c:CH) (t:QH) (s:List GV) (H:GH):RS:=U1 s λl=>
 ob (GV.nilck l) λn=>
 fd 116 1 n λo=>
 ld 110 o H λp=>
 ln 110 p λq=>
 bn .eql 3 q (i 0) λr=>
 ob (GV.asB r) λm=>jn (bC m (oN [l] H) (oR [(i 0)] H)) λk b=>U1 k λa=>ob (GV.nilck a) λd=>
 fd 116 1 d λe=>
 ld 110 e b λf=>
 ix 110 f (i 0) λg=>
 fd 142 0 g λh=>
 ld 3 h b λj=>
 oR [j] b
def agX (c:CH) (R:QH) (Q:List GV) (H:GH):RS:=U1 Q λl=>
 fU (oK y 142 H) λD o=>
 ob (GV.nilck l) λL=>
 fd 116 1 L λM=>
 ld 110 M o λN=>
 ln 110 N λO=>
 bn .eql 3 O (i 0) λP=>
 ob (GV.asB P) λE=>jn (bC E (oN [l,D] o) (K c 103 [l,(i 4)] o λF m=>
 oN [l,D] m)) λj b=>U2 j λa e=>ob (GV.nilck a) λq=>
 fd 116 1 q λr=>
 ld 110 r b λs=>
 ix 110 s (i 0) λt=>
 ld 142 t b λu=>
 fU (oK y 142 b) λh n=>
 fU (oA y 142 h u n) λG d=>
 ob (GV.nilck a) λv=>
 fd 116 1 v λw=>
 ld 110 w d λx=>
 ob (BR y 110 x (some (i 1)) none d) λz=>
 ob (GV.nilck a) λA=>
 fd 116 1 A λB=>
 fU (oA y 110 B z d) λI f=>
 ld 142 h f λC=>
 fU (oA y 142 e C f) λJ g=>
 ob (ob (vN y 142 e g) λp=>some [p]) λk=>oR k g
def agY (c:CH) (L:QH) (Q:List GV) (H:GH):RS:=U2 Q λo R=>
 ln 155 o λM=>
 bn .gtr 3 M (i 200) λd=>
 fU (rG d false H (some (o,H))) λN I=>
 fU (rG d false I (fU (c 161 [N,(i 0)] I) GZ)) λO J=>
 fU (rG d false J (some (o,J))) λP f=>
 fU (rG d false f (ob (RY y 155 P) λq=>some (q,f))) λx g=>
 fU (rG d false g (ob (Cu y .neq 3 O x) λr=>some (r,g))) λz h=>
 ob (sV d (.bool true) z) λA=>
 ob (GV.asB A) λw=>jn (bC w (oN [o,R] h) (oR [(.bool false)] h)) λm t=>U2 m λb p=>ln 155 b λB=>
 jn (nB 0 (L 40 [b,p,b,B,(i 0)] t)) λn u=>U1 n λe=>K c 163 [e] u λC j=>
 bn .leq 3 C (i 24) λa=>
 fU (rG a true j (some (e,j))) λD k=>
 fU (rG a true k (fU (c 164 [D] k) GZ)) λE l=>
 fU (rG a true l (ob (Cu y .leq 3 E (i 2)) λs=>some (s,l))) λF v=>
 ob (sV a F (.bool false)) λG=>
 oR [G] v
def L40 (c:CH) (S:QH) (U:List GV) (H:GH):RS:=U5 U λa p q b d=>jn (bn .lss 3 d b λL=>
 ob (GV.asB L) λI=>jn (bC I (oX 0 [a] H) (oN [a,p,q,b,d] H)) λm h=>U5 m λr e f s g=>jn (nB 1 (ix 155 f g λM=>
 ld 215 M h λN=>
 fU (oK y 215 h) λl E=>
 fU (oA y 215 l N E) λT j=>
 ld 215 l j λO=>
 K c 162 [O,e] j λP k=>
 ob (vUn .not P) λQ=>
 ob (GV.asB Q) λJ=>jn (bC J (oN [r,e,f,s,g] k) (oR [(.bool false)] k)) λn F=>U5 n λt u v w x=>oN [t,u,v,w,x] F)) λo G=>U5 o λz A B C D=>bn .add 3 D (i 1) λR=>
 oN [z,A,B,C,R] G) (S 40)
def agZ (c:CH) (ql:QH) (us:List GV) (H:GH):RS:=U3 us λg h E=>
 ob (GV.nilck g) λt4=>
 fd 206 3 t4 λt5=>
 ld 155 t5 H λt6=>
 ix 155 t6 h λt7=>
 ld 215 t7 H λt8=>
 fU (oK y 215 H) λb U=>
 fU (oA y 215 b t8 U) λa3 a=>
 jn (nB 0 (fd 215 0 b λam=>
 ld 3 am a λan=>
 bn .leq 3 an (i 17) λao=>
 ob (GV.asB ao) λai=>jn (bC ai (fd 215 0 b λau=>
 ld 3 au a λav=>
 bn .leq 3 av (i 19) λaw=>
 ob (GV.asB aw) λaj=>jn (bC aj (fd 215 0 b λaD=>
 ld 3 aD a λaE=>
 bn .leq 3 aE (i 29) λaF=>
 ob (GV.asB aF) λak=>jn (bC ak (fd 215 0 b λaK=>
 ld 3 aK a λaL=>
 bn .leq 3 aL (i 42) λaM=>
 ob (GV.asB aM) λal=>jn (bC al (oN [g,h,E] a) (bn .add 3 h (i 1) λaN=>
 K c 153 [g,aN,E] a λs Y=>
 ex 0 s λaO=>
 ex 1 s λaP=>
 K c 153 [g,aP,E] Y λt n=>
 ex 0 t λaQ=>
 ex 1 t λaR=>
 fd 215 0 b λaS=>
 ld 3 aS n λaT=>
 K c 170 [aT,aO,aQ] n λaU aa=>
 oR [aU,aR] aa)) λz ab=>U3 z λF G I=>oN [F,G,I] ab) (fd 215 0 b λaG=>
 ld 3 aG a λaH=>
 K c 169 [g,aH,h] a λr X=>
 ex 0 r λaI=>
 ex 1 r λaJ=>
 oR [aI,aJ] X)) λA ac=>U3 A λJ L M=>oN [J,L,M] ac) (bn .add 3 h (i 1) λax=>
 K c 153 [g,ax,E] a λq m=>
 ex 0 q λay=>
 ex 1 q λaz=>
 fd 215 0 b λaA=>
 ld 3 aA m λaB=>
 K c 168 [aB,ay] m λaC W=>
 oR [aC,az] W)) λB ad=>U3 B λN O P=>oN [N,O,P] ad) (ld 215 b a λap=>
 K c 167 [g,ap,E] a λaq V=>
 bn .add 3 h (i 1) λar=>
 oR [aq,ar] V)) λC ae=>U3 C λQ R S=>oN [Q,R,S] ae)) λD af=>U3 D λd T e=>bn .add 3 T (i 1) λaV=>
 K c 153 [d,aV,e] af λu ag=>
 ex 0 u λaW=>
 ex 1 u λaX=>
 K c 153 [d,aX,e] ag λv ah=>
 ex 0 v λaY=>
 ex 1 v λa0=>
 K c 153 [d,a0,e] ah λw o=>
 ex 0 w λa1=>
 ex 1 w λx=>
 bn .neq 3 aW (i 0) λa2=>
 ob (GV.asB a2) λp=>jn (bC p (oN [x,a1] o) (oR [aY,x] o)) λf l=>U2 f λj k=>oR [k,j] l
def ag_ (c:CH) (g:QH) (d:List GV) (H:GH):RS:=U2 d λe f=>
 K c 171 [e,f] H λb a=>
 oR [b] a
def aha (c:CH) (g:QH) (d:List GV) (H:GH):RS:=U2 d λe f=>
 K c 172 [e,f] H λb a=>
 oR [b] a
def ahb (c:CH) (q:QH) (t:List GV) (H:GH):RS:=U2 t λl m=>
 bn .eql 3 m (i 6) λr=>
 ob (GV.asB r) λp=>jn (bC p (oN [l,m] H) (K c 174 [l] H λs n=>
 oR [s] n)) λj o=>U2 j λk a=>bn .add 3 a (i 1) λg=>
 K c 158 [k,g] o λh e=>
 jn (nB 0 (q 44 [k,a,h] e)) λb f=>U1 b λd=>oR [d] f
def L44 (c:CH) (Y:QH) (us:List GV) (H:GH):RS:=U3 us λf g h=>jn (jn (nB 1 (K c 134 [f] H λO D=>
 K c 175 [O] D λe j=>
 bn .eql 3 e (i 0) λa=>
 fU (rG a false j (some (e,j))) λP k=>
 fU (rG a false k (fU (c 176 [P] k) GZ)) λQ l=>
 fU (rG a false l (some (g,l))) λR m=>
 fU (rG a false m (ob (Cu y .neq 3 Q R) λC=>some (C,m))) λS n=>
 ob (sV a (.bool true) S) λT=>
 ob (GV.asB T) λM=>jn (bC M (oN [f,g,h,e] n) (oR [h] n)) λq E=>U4 q λb d t u=>K c 137 [b] E λaa F=>
 bn .add 3 d (i 1) λU=>
 K c 158 [b,U] F λV G=>
 fU (Bl y 227 2 [(0,t),(1,V)] G) λW I=>
 K c 159 [u,W] I λp o=>
 bn .eql 3 d (i 3) λX=>
 ob (GV.asB X) λN=>jn (bC N (oN [b,d,p] o) (oR [p] o)) λr J=>U3 r λv w x=>oN [v,w,x] J)) λs L=>U3 s λz A B=>oN [z,A,B] L) (Y 44)
def ahc (c:CH) (g:QH) (k:List GV) (H:GH):RS:=U2 k λl b=>
 K c 177 [l,(i 0)] H λh e=>
 ln 227 b λj=>
 jn (nB 0 (g 45 [h,b,j,(i 0)] e)) λa f=>U1 a λd=>oR [d] f
def L45 (c:CH) (A:QH) (B:List GV) (H:GH):RS:=U4 B λz j a b=>jn (bn .lss 3 b a λt=>
 ob (GV.asB t) λs=>jn (bC s (oX 0 [z] H) (oN [z,j,a,b] H)) λg f=>U4 g λk d l e=>jn (nB 1 (ix 227 d e λu=>
 ld 155 u f λv=>
 fU (Ue y 155 155 k v f) λw q=>
 oN [w,d,l,e] q)) λh r=>U4 h λm n o p=>bn .add 3 p (i 1) λx=>
 oN [m,n,o,x] r) (A 45)
def ahd (c:CH) (e:QH) (g:List GV) (H:GH):RS:=U2 g λb h=>
 ln 114 b λf=>
 jn (nB 0 (e 46 [b,h,f,(i 0)] H)) λa d=>U0 a (oR [(.int .i64 (.negSucc 0))] d)
def L46 (c:CH) (F:QH) (G:List GV) (H:GH):RS:=U4 G λD E B C=>jn (bn .lss 3 C B λw=>
 ob (GV.asB w) λu=>jn (bC u (oX 0 [] H) (oN [D,E,B,C] H)) λf b=>U4 f λd e j a=>jn (nB 1 (ix 114 d a λx=>
 ld 9 x b λy=>
 bn .eql 9 e y λz=>
 ob (GV.asB z) λv=>jn (bC v (oN [d,e,j,a] b) (oR [a] b)) λg s=>U4 g λk l m n=>oN [k,l,m,n] s)) λh t=>U4 h λo p q r=>bn .add 3 r (i 1) λA=>
 oN [o,p,q,A] t) (F 46)
def ahe (c:CH) (u:QH) (z:List GV) (H:GH):RS:=U2 z λs p=>
 bn .lss 3 p (i 0) λd=>
 fU (rG d false H (some (p,H))) λv q=>
 fU (rG d false q (some (s,q))) λw r=>
 fU (rG d false r (ob (RY y 155 w) λt=>some (t,r))) λx a=>
 fU (rG d false a (ob (Cu y .geq 3 v x) λj=>some (j,a))) λn b=>
 ob (sV d (.bool true) n) λo=>
 ob (GV.asB o) λm=>jn (bC m (oN [s,p] b) (oR [(.int .i64 (.negSucc 0))] b)) λe k=>U2 e λg h=>jn (nB 0 (u 47 [g,h,(i 1)] k)) λf l=>U0 f (oR [(.int .i64 (.negSucc 0))] l)
def L47 (c:CH) (S:QH) (T:List GV) (H:GH):RS:=U3 T λa b q=>jn (ln 155 a λG=>
 bn .lss 3 b G λI=>
 ob (GV.asB I) λD=>jn (bC D (oX 0 [] H) (oN [a,b,q] H)) λm g=>U3 m λd e r=>jn (nB 1 (ix 155 d e λJ=>
 fd 215 0 J λL=>
 ld 3 L g λM=>
 K c 178 [M] g λk h=>
 bn .lss 3 k (i 0) λN=>
 ob (GV.asB N) λE=>jn (bC E (oN [d,e,r,k] h) (oR [(.int .i64 (.negSucc 0))] h)) λn j=>U4 n λs f t u=>bn .sub 3 u (i 1) λO=>
 bn .add 3 t O λl=>
 bn .eql 3 l (i 0) λP=>
 ob (GV.asB P) λF=>jn (bC F (oN [s,f,l] j) (bn .add 3 f (i 1) λQ=>
 oR [Q] j)) λo B=>U3 o λv w x=>oN [v,w,x] B)) λp C=>U3 p λy z A=>bn .add 3 z (i 1) λR=>
 oN [y,R,A] C) (S 47)
def ahf (c:CH) (ql:QH) (us:List GV) (H:GH):RS:=U2 us λx1 x2=>
 fU (Pm x1 H) λo h=>
 fd 215 0 o λt5=>
 ld 3 t5 h λt6=>
 jn (nB 0 (bn .eql 3 t6 (i 1) λt7=>
 ob (GV.asB t7) λq8=>jn (bC q8 (bn .eql 3 t6 (i 5) λn=>
 ob (GV.asB n) λK=>jn (bC K (bn .eql 3 t6 (i 12) λR=>
 oN [x2,o,R] h) (oN [x2,o,n] h)) λp b=>U3 p λt e u=>ob (GV.asB u) λL=>jn (bC L (oN [e] b) (fd 215 1 e λS=>
 ld 3 S b λT=>
 bn .geq 3 T (i 0) λa=>
 fU (rG a true b (ob (Cv y 215 1 e) λC=>some (C,b))) λU g=>
 fU (rG a true g (ob (vN y 3 U g) λD=>some (D,g))) λV k=>
 fU (rG a true k (some (t,k))) λW l=>
 fU (rG a true l (ob (Cu y .lss 3 V W) λE=>some (E,l))) λX G=>
 ob (sV a X (.bool false)) λY=>
 oR [Y] G)) λq I=>U1 q λv=>oN [v] I) (fd 215 1 o λt9=>
 ld 3 t9 h λM=>
 bn .geq 3 M (i 0) λd=>
 fU (rG d true h (ob (Cv y 215 1 o) λz=>some (z,h))) λN f=>
 fU (rG d true f (ob (vN y 3 N f) λA=>some (A,f))) λO j=>
 fU (rG d true j (ob (Cu y .leq 3 O (i 1073741824)) λB=>some (B,j))) λP F=>
 ob (sV d P (.bool false)) λQ=>
 oR [Q] F)) λr J=>U1 r λw=>oN [w] J)) λs m=>U1 s λx=>fd 215 1 x λaa=>
 ld 3 aa m λab=>
 bn .eql 3 ab (i 0) λac=>
 oR [ac] m
def ahg (c:CH) (ql:QH) (us:List GV) (H:GH):RS:=U3 us λx1 x2 x3=>
 fU (Pm x1 H) λt4 L=>
 fd 219 0 t4 λt6=>
 ld 155 t6 L λt7=>
 ix 155 t7 x2 λt8=>
 ld 215 t8 L λt9=>
 fU (oK y 215 L) λa I=>
 fU (oA y 215 a t9 I) λaq l=>
 bn .add 3 x2 (i 1) λj=>
 fd 215 0 a λR=>
 ld 3 R l λS=>
 K c 178 [S] l λT e=>
 bn .eql 3 T (i 0) λU=>
 ob (GV.asB U) λP=>jn (bC P (oN [x3,t4,j,a] e) (fd 215 0 a λV=>
 ld 3 V e λW=>
 K c 183 [W] e λk m=>
 fU (rG k true m (some (x3,m))) λX n=>
 fU (rG k true n (ob (vUn .not X) λE=>some (E,n))) λY o=>
 ob (sV k Y (.bool false)) λaa=>
 ob (GV.asB aa) λQ=>jn (bC Q (oN [t4,j,a] o) (oR [(i 0),j] o)) λs f=>U3 s λv w x=>ld 219 v f λab=>
 ld 215 x f λac=>
 K c 184 [ab,ac] f λad J=>
 oR [ad,w] J)) λt p=>U4 t λb z A d=>fU (rG b false p (ob (Cv y 215 0 d) λF=>some (F,p))) λae g=>
 fU (rG b false g (ob (vN y 3 ae g) λG=>some (G,g))) λaf q=>
 fU (rG b false q (fU (c 182 [af] q) GZ)) λag M=>
 ob (sV b (.bool true) ag) λah=>
 fU (oK y 231 M) λai r=>
 fd 215 0 d λaj=>
 ld 3 aj r λak=>
 K c 178 [ak] r λal N=>
 jn (nB 0 (ql 48 [z,A,d,ah,ai,al,(i 0)] N)) λu h=>U3 u λB C D=>fd 215 0 C λam=>
 ld 3 am h λan=>
 ld 231 D h λao=>
 K c 185 [an,ao] h λap O=>
 oR [ap,B] O
def L48 (c:CH) (O:QH) (Q:List GV) (H:GH):RS:=U7 Q λx j k z l m n=>jn (bn .lss 3 n m λI=>
 ob (GV.asB I) λG=>jn (bC G (oX 0 [j,k,l] H) (oN [x,j,k,z,l,m,n] H)) λv s=>U7 v λo A B p q C r=>jn (nB 1 (ld 219 o s λJ=>
 K c 165 [J,A,p] s λu D=>
 ex 0 u λL=>
 ex 1 u λM=>
 ix 231 q r λN=>
 fU (oA y 3 N L D) λP E=>
 oN [o,M,B,p,q,C,r] E)) λw F=>U7 w λa b d e f g h=>bn .add 3 h (i 1) λt=>
 oN [a,b,d,e,f,g,t] F) (O 48)
def ahh (c:CH) (ql:QH) (us:List GV) (H:GH):RS:=U3 us λe x2 x3=>
 fU (Pm x2 H) λk a=>
 fd 215 0 k λt6=>
 ld 3 t6 a λd=>
 jn (nB 0 (bn .eql 3 d (i 1) λt8=>
 ob (GV.asB t8) λq9=>jn (bC q9 (bn .eql 3 d (i 2) λac=>
 ob (GV.asB ac) λU=>jn (bC U (bn .eql 3 d (i 3) λad=>
 ob (GV.asB ad) λV=>jn (bC V (bn .eql 3 d (i 4) λae=>
 ob (GV.asB ae) λW=>jn (bC W (bn .eql 3 d (i 5) λaf=>
 ob (GV.asB af) λX=>jn (bC X (bn .eql 3 d (i 12) λau=>
 ob (GV.asB au) λY=>jn (bC Y (oN [e,x3,k] a) (ob (GV.nilck e) λav=>
 fd 206 1 av λaw=>
 ld 30 aw a λax=>
 ob (GV.nilck e) λay=>
 fd 206 0 ay λaz=>
 ld 101 az a λaA=>
 ob (GV.nilck aA) λaB=>
 fd 134 1 aB λaC=>
 fd 28 1 aC λaD=>
 ld 26 aD a λaE=>
 ob (GV.nilck e) λaF=>
 fd 206 2 aF λaG=>
 ld 3 aG a λaH=>
 ix 26 aE aH λaI=>
 ld 63 aI a λaJ=>
 ix 63 aJ x3 λaK=>
 fd 97 0 aK λaL=>
 ld 3 aL a λaM=>
 ix 30 ax aM λaN=>
 ld 22 aN a λaO=>
 fd 215 1 k λaP=>
 ld 3 aP a λaQ=>
 ix 22 aO aQ λaR=>
 ld 3 aR a λaS=>
 oR [aS] a)) λl O=>U3 l λs t u=>oN [s,t,u] O) (ob (GV.nilck e) λag=>
 fd 206 1 ag λah=>
 ld 30 ah a λai=>
 ob (GV.nilck e) λaj=>
 fd 206 2 aj λak=>
 ld 3 ak a λal=>
 ix 30 ai al λam=>
 ld 22 am a λan=>
 fd 215 1 k λao=>
 ld 3 ao a λap=>
 ix 22 an ap λaq=>
 ld 3 aq a λar=>
 oR [ar] a)) λm P=>U3 m λv w x=>oN [v,w,x] P) (oR [(.int .i64 (.negSucc 0))] a)) λn Q=>U3 n λy z A=>oN [y,z,A] Q) (oR [(i 0)] a)) λo R=>U3 o λB C D=>oN [B,C,D] R) (oR [(i 1)] a)) λp S=>U3 p λE F G=>oN [E,F,G] S) (fd 215 1 k λaa=>
 ld 3 aa a λab=>
 oR [ab] a)) λq T=>U3 q λI J L=>oN [I,J,L] T)) λr b=>U3 r λf M N=>ob (GV.nilck f) λaT=>
 fd 206 0 aT λaU=>
 ld 101 aU b λaV=>
 fd 215 0 N λaW=>
 ld 3 aW b λaX=>
 ob (GV.nilck f) λaY=>
 fd 206 2 aY λa0=>
 ld 3 a0 b λh=>
 K c 186 [aV,aX,h,M] b λj g=>
 oR [j] g
def ahi (c:CH) (O:QH) (U:List GV) (H:GH):RS:=U3 U λN V W=>
 fU (oK y 234 H) λP g=>
 ob (GV.nilck N) λQ=>
 fd 206 0 Q λR=>
 ld 101 R g λS=>
 ob (GV.nilck S) λT=>
 fd 134 1 T λv=>
 fd 28 1 v λw=>
 ld 26 w g λx=>
 ob (GV.nilck N) λz=>
 fd 206 2 z λA=>
 ld 3 A g λB=>
 ix 26 x B λC=>
 ld 63 C g λD=>
 ln 63 D λh=>
 jn (nB 0 (O 49 [N,V,W,(i 0),P,h,h,(i 0)] g)) λj b=>U6 j λl d m n e a=>bn .eql 3 a (i 0) λE=>
 ob (GV.asB E) λu=>jn (bC u (oN [d,n,e,a] b) (ob (GV.nilck l) λF=>
 fd 206 3 F λG=>
 ld 155 G b λI=>
 K c 161 [I,m] b λJ s=>
 oN [d,J,e,a] s)) λk f=>U4 k λo p q r=>ob (BR y 234 q none (some r) f) λL=>
 K c 188 [o,L] f λM t=>
 oR [M,p] t
def L49 (c:CH) (Q:QH) (S:List GV) (H:GH):RS:=U8 S λb d e q f g h j=>jn (bn .lss 3 j h λJ=>
 ob (GV.asB J) λI=>jn (bC I (oX 0 [b,d,e,q,f,g] H) (oN [b,d,e,f,g,h,j] H)) λo D=>U7 o λk r l m s t a=>jn (nB 1 (bn .add 3 l (i 1) λL=>
 K c 153 [k,L,a] D λn E=>
 ex 0 n λM=>
 ex 1 n λN=>
 ix 234 m a λO=>
 fU (oA y 3 O M E) λR F=>
 oN [k,r,l,N,m,s,t,a] F)) λp G=>U8 p λu v w x z A B C=>bn .add 3 C (i 1) λP=>
 oN [u,v,w,x,z,A,B,P] G) (Q 49)
def ahj (c:CH) (x:QH) (w:List GV) (H:GH):RS:=U2 w λr o=>
 ln 9 r λs=>
 ln 9 o λt=>
 bn .geq 3 s t λb=>
 fU (rG b true H (some (r,H))) λu p=>
 fU (rG b true p (some (o,p))) λv q=>
 fU (rG b true q (ob (RY y 9 v) λf=>some (f,q))) λj a=>
 fU (rG b true a (ob (BR y 9 u none (some j) a) λg=>some (g,a))) λk d=>
 fU (rG b true d (some (o,d))) λl e=>
 fU (rG b true e (ob (Cu y .eql 9 k l) λh=>some (h,e))) λm i=>
 ob (sV b m (.bool false)) λn=>
 oR [n] i
def ahk (c:CH) (g:QH) (d:List GV) (H:GH):RS:=U2 d λe f=>
 K c 192 [e,f] H λb a=>
 oR [b] a
def ahl (c:CH) (h:QH) (f:List GV) (H:GH):RS:=U1 f λg=>
 K c 195 [] H λd a=>
 K c 194 [g,(i 30),d] a λe b=>
 oR [e] b
def ahm (c:CH) (D:QH) (C:List GV) (H:GH):RS:=U1 C λh=>
 jn (nB 0 (bn .lss 3 h (i 1) λu=>
 fU (rG u false H (some (h,H))) λz v=>
 fU (rG u false v (ob (Cu y .gtr 3 z (i 43)) λw=>some (w,v))) λA a=>
 ob (sV u (.bool true) A) λB=>
 ob (GV.asB B) λx=>jn (bC x (bn .leq 3 h (i 17) λr=>
 ob (GV.asB r) λo=>jn (bC o (bn .leq 3 h (i 29) λs=>
 ob (GV.asB s) λp=>jn (bC p (bn .leq 3 h (i 42) λt=>
 ob (GV.asB t) λq=>jn (bC q (oN [] a) (oR [(i 2)] a)) λb j=>U0 b (oN [] j)) (oR [(i 1)] a)) λd k=>U0 d (oN [] k)) (oR [(i 0)] a)) λe l=>U0 e (oN [] l)) (oR [(.int .i64 (.negSucc 0))] a)) λf m=>U0 f (oN [] m))) λg n=>U0 g (oR [(i 3)] n)
def ahn (c:CH) (q:QH) (u:List GV) (H:GH):RS:=U2 u λm v=>
 K c 161 [m,(i 0)] H λr n=>
 ln 155 m λs=>
 bn .neq 3 r s λt=>
 ob (GV.asB t) λp=>jn (bC p (oN [m,v] n) (oR [(i 0),(.bool false)] n)) λl o=>U2 l λa e=>ln 155 a λg=>
 bn .sub 3 g (i 1) λh=>
 jn (nB 0 (q 50 [a,e,.snil,h] o)) λd b=>U1 d λf=>ix 22 f (i 0) λj=>
 ld 3 j b λk=>
 oR [k,(.bool true)] b
def L50 (c:CH) (ql:QH) (us:List GV) (H:GH):RS:=U4 us λt u e f=>jn (bn .geq 3 f (i 0) λL=>
 ob (GV.asB L) λJ=>jn (bC J (oX 0 [e] H) (oN [t,u,e,f] H)) λq m=>U4 q λg v a h=>jn (nB 1 (ln 22 a λM=>
 ix 155 g h λN=>
 fd 215 0 N λO=>
 ld 3 O m λP=>
 K c 178 [P] m λQ n=>
 bn .sub 3 M Q λo=>
 ob (BR y 22 a (some o) none n) λp=>
 ln 22 p λR=>
 jn (nB 2 (ql 51 [g,v,a,h,o,(i 0),p,R,(i 0)] n)) λr b=>U6 r λj k w l x z=>ob (BR y 22 w none (some x) b) λS=>
 ix 155 j l λT=>
 fd 215 0 T λU=>
 ld 3 U b λV=>
 ob (GV.asF k) λd=>fU (c d.1 (d.2.1++[V,z]++d.2.2) b) λW E=>
 fU (Bl y 22 1 [(0,W)] E) λX F=>
 fU (Ue y 22 22 S X F) λY G=>
 oN [j,k,Y,l] G)) λs I=>U4 s λA B C D=>bn .sub 3 D (i 1) λaa=>
 oN [A,B,C,aa] I) (ql 50)
def L51 (c:CH) (O:QH) (P:List GV) (H:GH):RS:=U9 P λd e f g h j s k l=>jn (bn .lss 3 l k λK=>
 ob (GV.asB K) λJ=>jn (bC J (oX 2 [d,e,f,g,h,j] H) (oN [d,e,f,g,h,j,s,k,l] H)) λq o=>U9 q λt u v w x y m z n=>jn (nB 3 (ix 22 m n λL=>
 ld 3 L o λM=>
 ob (aaI y M) λN=>
 oN [t,u,v,w,x,N,m,z,n] o)) λr I=>U9 r λA B C D E F G a b=>bn .add 3 b (i 1) λp=>
 oN [A,B,C,D,E,F,G,a,p] I) (O 51)
def aho (c:CH) (e:QH) (b:List GV) (H:GH):RS:=U2 b λf d=>
 bn .add 3 d (i 1) λa=>
 oR [a] H
def ahp (c:CH) (m:QH) (k:List GV) (H:GH):RS:=U2 k λl d=>
 K c 182 [l] H λh b=>
 ob (GV.asB h) λg=>jn (bC g (oN [d] b) (bn .add 3 d (i 1) λj=>
 oR [j] b)) λa f=>U1 a λe=>oR [e] f
def ahq (c:CH) (l:QH) (k:List GV) (H:GH):RS:=U1 k λd=>
 bn .geq 3 d (i 20) λa=>
 fU (rG a true H (some (d,H))) λg b=>
 fU (rG a true b (ob (Cu y .leq 3 g (i 29)) λe=>some (e,b))) λh f=>
 ob (sV a h (.bool false)) λj=>
 oR [j] f
def ahr (c:CH) (g:QH) (e:List GV) (H:GH):RS:=U1 e λf=>
 ob (GV.asB f) λd=>jn (bC d (oN [] H) (oR [(i 1)] H)) λa b=>U0 a (oR [(i 0)] b)
def ahs (c:CH) (ql:QH) (us:List GV) (H:GH):RS:=U2 us λb a=>
 jn (nB 0 (bn .eql 3 b (i 20) λt3=>
 ob (GV.asB t3) λq4=>jn (bC q4 (bn .eql 3 b (i 21) λao=>
 ob (GV.asB ao) λaf=>jn (bC af (bn .eql 3 b (i 22) λau=>
 ob (GV.asB au) λag=>jn (bC ag (bn .eql 3 b (i 23) λaw=>
 ob (GV.asB aw) λah=>jn (bC ah (bn .eql 3 b (i 24) λay=>
 ob (GV.asB ay) λai=>jn (bC ai (bn .eql 3 b (i 25) λaA=>
 ob (GV.asB aA) λaj=>jn (bC aj (bn .eql 3 b (i 26) λaC=>
 ob (GV.asB aC) λak=>jn (bC ak (bn .eql 3 b (i 27) λaF=>
 ob (GV.asB aF) λal=>jn (bC al (bn .eql 3 b (i 28) λaH=>
 ob (GV.asB aH) λam=>jn (bC am (oN [a] H) (K c 200 [a] H λh U=>
 ex 0 h λaO=>
 ex 1 h λaI=>
 oR [aI] U)) λl V=>U1 l λy=>oN [y] V) (K c 201 [a] H λaG T=>
 oR [aG] T)) λm W=>U1 m λz=>oN [z] W) (ln 22 a λaD=>
 jn (nB 3 (ql 53 [(i 0),a,aD,(i 0)] H)) λk R=>U1 k λx=>K c 189 [x] R λaE S=>
 oR [aE] S)) λn X=>U1 n λA=>oN [A] X) (K c 200 [a] H λg Q=>
 ex 0 g λaB=>
 ex 1 g λaN=>
 oR [aB] Q)) λo Y=>U1 o λB=>oN [B] Y) (ln 22 a λaz=>
 jn (nB 1 (ql 52 [(i 1073741824),a,az,(i 0)] H)) λj P=>U1 j λw=>oR [w] P)) λp aa=>U1 p λC=>oN [C] aa) (K c 198 [a,(.fn 199 [] [])] H λax O=>
 oR [ax] O)) λq ab=>U1 q λD=>oN [D] ab) (K c 197 [a] H λav N=>
 oR [av] N)) λr ac=>U1 r λE=>oN [E] ac) (K c 197 [a] H λap L=>
 bn .gtr 3 ap (i 0) λaq=>
 K c 187 [aq] L λar M=>
 oR [ar] M)) λs ad=>U1 s λF=>oN [F] ad) (K c 197 [a] H λt5 h6=>
 ln 22 a λt7=>
 bn .eql 3 t5 t7 λt8=>
 K c 187 [t8] h6 λt9 J=>
 oR [t9] J)) λt ae=>U1 t λG=>oN [G] ae)) λu e=>U1 u λd=>ln 22 d λaJ=>
 bn .eql 3 aJ (i 0) λaK=>
 ob (GV.asB aK) λan=>jn (bC an (oN [d] e) (oR [(i 0)] e)) λv f=>U1 v λI=>ix 22 I (i 0) λaL=>
 ld 3 aL f λaM=>
 oR [aM] f
def L52 (c:CH) (y:QH) (z:List GV) (H:GH):RS:=U4 z λn v o p=>jn (bn .lss 3 p o λx=>
 ob (GV.asB x) λw=>jn (bC w (oX 1 [n] H) (oN [n,v,o,p] H)) λe d=>U4 e λg a h b=>jn (nB 2 (ix 22 a b λr=>
 ld 3 r d λs=>
 ob (aaJ g s) λt=>
 oN [t,a,h,b] d)) λf q=>U4 f λj k l m=>bn .add 3 m (i 1) λu=>
 oN [j,k,l,u] q) (y 52)
def L53 (c:CH) (y:QH) (z:List GV) (H:GH):RS:=U4 z λa k b d=>jn (bn .lss 3 d b λt=>
 ob (GV.asB t) λs=>jn (bC s (oX 3 [a] H) (oN [a,k,b,d] H)) λh g=>U4 h λl e m f=>jn (nB 4 (ix 22 e f λu=>
 ld 3 u g λv=>
 bn .add 3 l v λw=>
 oN [w,e,m,f] g)) λj r=>U4 j λn o p q=>bn .add 3 q (i 1) λx=>
 oN [n,o,p,x] r) (y 53)
def aht (c:CH) (m:QH) (o:List GV) (H:GH):RS:=U3 o λg p q=>
 bn .eql 9 g (.str 0 0) λn=>
 ob (GV.asB n) λl=>jn (bC l (oN [g,p,q] H) (oR [(i 0)] H)) λf k=>U3 f λh j a=>ln 114 a λe=>
 jn (nB 0 (m 54 [h,j,a,e,(i 0)] k)) λb d=>U0 b (oR [(i 0)] d)
def L54 (c:CH) (L:QH) (M:List GV) (H:GH):RS:=U5 M λm n o d e=>jn (bn .lss 3 e d λE=>
 ob (GV.asB E) λC=>jn (bC C (oX 0 [] H) (oN [m,n,o,d,e] H)) λj b=>U5 j λf g h p a=>jn (nB 1 (ix 114 h a λF=>
 ld 9 F b λG=>
 bn .eql 9 G f λI=>
 ob (GV.asB I) λD=>jn (bC D (oN [f,g,h,p,a] b) (bn .add 3 g a λJ=>
 oR [J] b)) λk A=>U5 k λq r s t u=>oN [q,r,s,t,u] A)) λl B=>U5 l λv w x y z=>bn .add 3 z (i 1) λK=>
 oN [v,w,x,y,K] B) (L 54)
def d0:(Code×Cx)×iA:=gD (cV Tryz.f49 [1,1,0,1,0,0],kD Tryz.f49 [(0,8)]) 0
def d1:(Code×Cx)×iA:=gD (cV Tryz.f59 [1,1,0,1,0,0],kD Tryz.f59 [(0,0)]) 1
def d2:(Code×Cx)×iA:=gD (cV Tryz.f60 [1,1,0,1,0,0],kD Tryz.f60 [(0,8)]) 2
def d3:(Code×Cx)×iA:=((cV Tryz.f61 [1,1,0,1,0,0],kD Tryz.f61 [(0,38)]),L3)
def d4:(Code×Cx)×iA:=((cV Tryz.f61 [1,1,1,1,1,0,0,0],kD Tryz.f61 [(2,32)]),L4)
def d5:(Code×Cx)×iA:=((cV Tryz.f61 [1,1,1,1,1,0,0,0,1,0,1,1,1,0,0],kD Tryz.f61 [(4,164),(3,164),(2,32)]),L5)
def d6:(Code×Cx)×iA:=gD1 (cV Tryz.f64 [1,1,0,1,0,0],kD Tryz.f64 [(0,32)]) 1 6 7
def d7:(Code×Cx)×iA:=gD (cV Tryz.f64 [1,1,0,1,0,0,1,1,0,0,1,1,1,0,0],kD Tryz.f64 [(2,3670056),(1,3670056),(0,32)]) 7
def d8:(Code×Cx)×iA:=gD1 (cV Tryz.f65 [1,1,0,1,0,0],kD Tryz.f65 [(0,32)]) 1 8 9
def d9:(Code×Cx)×iA:=gD (cV Tryz.f65 [1,1,0,1,0,0,1,1,0,0,1,1,1,0,0],kD Tryz.f65 [(2,49196),(1,49196),(0,32)]) 9
def d10:(Code×Cx)×iA:=gD (cV Tryz.f66 [1,1,0,1,0,0],kD Tryz.f66 [(0,32)]) 10
def d11:(Code×Cx)×iA:=gD (cV Tryz.f68 [1,0,1,0,0],kD Tryz.f68 [(0,0)]) 11
def d12:(Code×Cx)×iA:=((cV Tryz.f69 [1,1,1,0,1,0,0],kD Tryz.f69 [(0,32)]),L12)
def d13:(Code×Cx)×iA:=((cV Tryz.f72 [1,1,1,0,1,0,0],kD Tryz.f72 [(0,2)]),L13)
def d14:(Code×Cx)×iA:=((cV Tryz.f72 [1,1,1,1,0,1,0,0],kD Tryz.f72 [(2,2)]),L14)
def d15:(Code×Cx)×iA:=((cV Tryz.f72 [1,1,1,1,1,1,0,1,0,0],kD Tryz.f72 [(4,0)]),L15)
def d16:(Code×Cx)×iA:=gD1 (cV Tryz.f76 [1,1,0,1,0,0],kD Tryz.f76 [(0,8)]) 1 16 17
def d17:(Code×Cx)×iA:=gD (cV Tryz.f76 [1,1,0,1,0,0,1,1,0,0,1,1,0,0],kD Tryz.f76 [(2,57352),(1,57352),(0,8)]) 17
def d18:(Code×Cx)×iA:=gD (cV Tryz.f78 [1,1,1,1,1,1,1,0,1,0,0],kD Tryz.f78 [(0,5378)]) 18
def d19:(Code×Cx)×iA:=gD (cV Tryz.f88 [1,1,1,0,1,0,0],kD Tryz.f88 [(0,0)]) 19
def d20:(Code×Cx)×iA:=gD (cV Tryz.f89 [1,1,0,1,0,0],kD Tryz.f89 [(0,0)]) 20
def d21:(Code×Cx)×iA:=gD (cV Tryz.f90 [1,0,1,0,0],kD Tryz.f90 [(0,0)]) 21
def d22:(Code×Cx)×iA:=gD (cV Tryz.f91 [1,1,0,1,0,0],kD Tryz.f91 [(0,0)]) 22
def d23:(Code×Cx)×iA:=((cV Tryz.f93 [1,0,0,0],kD Tryz.f93 [(0,2)]),L23)
def d24:(Code×Cx)×iA:=((cV Tryz.f93 [1,0,0,0,1,0,1,0,1,1,1,0,0,0],kD Tryz.f93 [(3,3),(2,3),(1,3),(0,2)]),L24)
def d25:(Code×Cx)×iA:=gD (cV Tryz.f98 [1,1,1,0,1,0,0],kD Tryz.f98 [(0,33)]) 25
def d26:(Code×Cx)×iA:=gD (cV Tryz.f99 [1,0,0],kD Tryz.f99 [(0,0)]) 26
def d27:(Code×Cx)×iA:=gD (cV Tryz.f101 [1,1,1,1,1,0,0,0],kD Tryz.f101 [(0,5)]) 27
def d28:(Code×Cx)×iA:=((cV Tryz.f104 [1,1,1,0,1,0,0],kD Tryz.f104 [(0,2)]),L28)
def d29:(Code×Cx)×iA:=((cV Tryz.f104 [1,1,1,1,1,0,1,0,0],kD Tryz.f104 [(2,0)]),L29)
def d30:(Code×Cx)×iA:=gD (cV Tryz.f106 [1,1,1,0,1,0,0],kD Tryz.f106 [(0,0)]) 30
def d31:(Code×Cx)×iA:=gD (cV Tryz.f107 [1,1,0,1,0,0],kD Tryz.f107 [(0,8)]) 31
def d32:(Code×Cx)×iA:=gD (cV Tryz.f108 [1,1,0,1,0,0],kD Tryz.f108 [(0,0)]) 32
def d33:(Code×Cx)×iA:=gD (cV Tryz.f111 [1,1,0,1,0,0],kD Tryz.f111 [(0,128)]) 33
def d34:(Code×Cx)×iA:=gD (cV Tryz.f121 [1,1,0,1,0,0],kD Tryz.f121 [(0,0)]) 34
def d35:(Code×Cx)×iA:=gD (cV Tryz.f123 [1,1,1,0,1,0,0],kD Tryz.f123 [(0,8)]) 35
def d36:(Code×Cx)×iA:=((cV Tryz.f127 [1,1,0,0,0],kD Tryz.f127 [(0,32)]),L36)
def d37:(Code×Cx)×iA:=gD (cV Tryz.f131 [1,1,1,0,1,0,0],kD Tryz.f131 [(0,16)]) 37
def d38:(Code×Cx)×iA:=((cV Tryz.f132 [1,0,1,0,0],kD Tryz.f132 [(0,1)]),L38)
def d39:(Code×Cx)×iA:=gD (cV Tryz.f136 [1,1,0,1,0,0],kD Tryz.f136 [(0,1)]) 39
def d40:(Code×Cx)×iA:=((cV Tryz.f144 [1,1,0,1,0,0],kD Tryz.f144 [(0,1)]),L40)
def d41:(Code×Cx)×iA:=gD (cV Tryz.f145 [1,1,0,1,0,0],kD Tryz.f145 [(0,7)]) 41
def d42:(Code×Cx)×iA:=gD (cV Tryz.f147 [1,1,0,1,0,0],kD Tryz.f147 [(0,512)]) 42
def d43:(Code×Cx)×iA:=gD (cV Tryz.f149 [1,0,1,0,0],kD Tryz.f149 [(0,0)]) 43
def d44:(Code×Cx)×iA:=((cV Tryz.f158 [1,1,1,0,0],kD Tryz.f158 [(0,16)]),L44)
def d45:(Code×Cx)×iA:=((cV Tryz.f159 [1,1,0,1,0,0],kD Tryz.f159 [(0,32)]),L45)
def d46:(Code×Cx)×iA:=((cV Tryz.f160 [1,0,1,0,0],kD Tryz.f160 [(0,0)]),L46)
def d47:(Code×Cx)×iA:=((cV Tryz.f161 [1,1,0,1,0,0],kD Tryz.f161 [(0,0)]),L47)
def d48:(Code×Cx)×iA:=((cV Tryz.f165 [1,1,1,1,1,1,0,1,0,0],kD Tryz.f165 [(0,1408)]),L48)
def d49:(Code×Cx)×iA:=((cV Tryz.f169 [1,1,1,0,1,0,0],kD Tryz.f169 [(0,903)]),L49)
def d50:(Code×Cx)×iA:=((cV Tryz.f179 [1,1,1,0,1,0,0],kD Tryz.f179 [(0,64)]),L50)
def d51:(Code×Cx)×iA:=((cV Tryz.f179 [1,1,1,0,1,0,0,1,0,0,1,1,0,1,0,0],kD Tryz.f179 [(2,963),(1,195),(0,64)]),L51)
def d52:(Code×Cx)×iA:=((cV Tryz.f188 [1,0,1,0,1,1,1,1,1,1,1,1,1,0,1,0,1,0,0],kD Tryz.f188 [(1,32),(0,2)]),L52)
def d53:(Code×Cx)×iA:=((cV Tryz.f188 [1,0,1,0,1,1,1,1,1,1,1,1,1,1,1,1,1,0,1,0,1,0,0],kD Tryz.f188 [(3,1024),(0,2)]),L53)
def d54:(Code×Cx)×iA:=((cV Tryz.f194 [1,1,0,1,0,0],kD Tryz.f194 [(0,0)]),L54)
def d55:(Code×Cx)×iA:=gD (cV Tryz.f197 [1,1,0,1,0,0],kD Tryz.f197 [(0,8)]) 55
def d56:(Code×Cx)×iA:=gD (cV Tryz.f198 [1,0,1,0,0],kD Tryz.f198 [(0,0)]) 56
def d57:(Code×Cx)×iA:=gD (cV Tryz.f200 [1,1,0,1,0,0],kD Tryz.f200 [(0,12)]) 57
def d58:(Code×Cx)×iA:=gD (cV Tryz.f201 [1,1,0,0,0],kD Tryz.f201 [(0,8)]) 58
def d59:(Code×Cx)×iA:=gD (cV Tryz.f209 [1,0,1,0,0],kD Tryz.f209 [(0,0)]) 59
def Vx (f:Nat):Option (Func×iA):=(tN f 136 (tN f 90 (tN f 60 (tN f 39 (tN f 19 (tN f 13 (tN f 12 (tL f 10 (Tryz.f10,(gB Tryz.f10))) (tL f 12 (Tryz.f12,(gB Tryz.f12)))) (tN f 16 (tL f 13 (Tryz.f13,(gB Tryz.f13))) (tL f 16 (Tryz.f16,(gB Tryz.f16))))) (tN f 35 (tN f 28 (tL f 19 (Tryz.f19,(gB Tryz.f19))) (tL f 28 (Tryz.f28,(gB Tryz.f28)))) (tN f 36 (tL f 35 (Tryz.f35,(gB Tryz.f35))) (tL f 36 (Tryz.f36,(gB Tryz.f36)))))) (tN f 47 (tN f 41 (tN f 40 (tL f 39 (Tryz.f39,(gB Tryz.f39))) (tL f 40 (Tryz.f40,(gB Tryz.f40)))) (tN f 46 (tL f 41 (Tryz.f41,(gB Tryz.f41))) (tL f 46 (Tryz.f46,(gB Tryz.f46))))) (tN f 50 (tN f 49 (tL f 47 (Tryz.f47,(gB Tryz.f47))) (tL f 49 (Tryz.f49,(v_ Tryz.f49 0)))) (tN f 51 (tL f 50 (Tryz.f50,(gB Tryz.f50))) (tN f 59 (tL f 51 (Tryz.f51,(gB Tryz.f51))) (tL f 59 (Tryz.f59,(v_ Tryz.f59 1)))))))) (tN f 71 (tN f 65 (tN f 63 (tN f 61 (tL f 60 (Tryz.f60,(v_ Tryz.f60 2))) (tL f 61 (Tryz.f61,B61))) (tN f 64 (tL f 63 (Tryz.f63,(gB Tryz.f63))) (tL f 64 (Tryz.f64,(v_ Tryz.f64 6))))) (tN f 67 (tN f 66 (tL f 65 (Tryz.f65,(v_ Tryz.f65 8))) (tL f 66 (Tryz.f66,(v_ Tryz.f66 10)))) (tN f 68 (tL f 67 (Tryz.f67,(gB Tryz.f67))) (tN f 69 (tL f 68 (Tryz.f68,(v_ Tryz.f68 11))) (tL f 69 (Tryz.f69,B69)))))) (tN f 77 (tN f 75 (tN f 72 (tL f 71 (Tryz.f71,(gB Tryz.f71))) (tL f 72 (Tryz.f72,B72))) (tN f 76 (tL f 75 (Tryz.f75,(gB Tryz.f75))) (tL f 76 (Tryz.f76,(v_ Tryz.f76 16))))) (tN f 79 (tN f 78 (tL f 77 (Tryz.f77,(gB Tryz.f77))) (tL f 78 (Tryz.f78,(v_ Tryz.f78 18)))) (tN f 88 (tL f 79 (Tryz.f79,(gB Tryz.f79))) (tN f 89 (tL f 88 (Tryz.f88,(v_ Tryz.f88 19))) (tL f 89 (Tryz.f89,(v_ Tryz.f89 20))))))))) (tN f 111 (tN f 101 (tN f 94 (tN f 92 (tN f 91 (tL f 90 (Tryz.f90,(v_ Tryz.f90 21))) (tL f 91 (Tryz.f91,(v_ Tryz.f91 22)))) (tN f 93 (tL f 92 (Tryz.f92,(gB Tryz.f92))) (tL f 93 (Tryz.f93,B93)))) (tN f 98 (tN f 97 (tL f 94 (Tryz.f94,(gB Tryz.f94))) (tL f 97 (Tryz.f97,(gB Tryz.f97)))) (tN f 99 (tL f 98 (Tryz.f98,(v_ Tryz.f98 25))) (tN f 100 (tL f 99 (Tryz.f99,(v_ Tryz.f99 26))) (tL f 100 (Tryz.f100,(gB Tryz.f100))))))) (tN f 105 (tN f 103 (tN f 102 (tL f 101 (Tryz.f101,(v_ Tryz.f101 27))) (tL f 102 (Tryz.f102,(gB Tryz.f102)))) (tN f 104 (tL f 103 (Tryz.f103,(gB Tryz.f103))) (tL f 104 (Tryz.f104,agN)))) (tN f 107 (tN f 106 (tL f 105 (Tryz.f105,(gB Tryz.f105))) (tL f 106 (Tryz.f106,(v_ Tryz.f106 30)))) (tN f 108 (tL f 107 (Tryz.f107,(v_ Tryz.f107 31))) (tN f 109 (tL f 108 (Tryz.f108,(v_ Tryz.f108 32))) (tL f 109 (Tryz.f109,(gB Tryz.f109)))))))) (tN f 127 (tN f 122 (tN f 120 (tN f 112 (tL f 111 (Tryz.f111,(v_ Tryz.f111 33))) (tL f 112 (Tryz.f112,(gB Tryz.f112)))) (tN f 121 (tL f 120 (Tryz.f120,(gB Tryz.f120))) (tL f 121 (Tryz.f121,(v_ Tryz.f121 34))))) (tN f 124 (tN f 123 (tL f 122 (Tryz.f122,(gB Tryz.f122))) (tL f 123 (Tryz.f123,(v_ Tryz.f123 35)))) (tN f 125 (tL f 124 (Tryz.f124,(gB Tryz.f124))) (tN f 126 (tL f 125 (Tryz.f125,(gB Tryz.f125))) (tL f 126 (Tryz.f126,(gB Tryz.f126))))))) (tN f 131 (tN f 129 (tN f 128 (tL f 127 (Tryz.f127,agO)) (tL f 128 (Tryz.f128,agP))) (tN f 130 (tL f 129 (Tryz.f129,agQ)) (tL f 130 (Tryz.f130,agS)))) (tN f 133 (tN f 132 (tL f 131 (Tryz.f131,(v_ Tryz.f131 37))) (tL f 132 (Tryz.f132,agT))) (tN f 134 (tL f 133 (Tryz.f133,agU)) (tN f 135 (tL f 134 (Tryz.f134,agV)) (tL f 135 (Tryz.f135,agW))))))))) (tN f 174 (tN f 156 (tN f 144 (tN f 140 (tN f 138 (tN f 137 (tL f 136 (Tryz.f136,(v_ Tryz.f136 39))) (tL f 137 (Tryz.f137,agX))) (tN f 139 (tL f 138 (Tryz.f138,(gB Tryz.f138))) (tL f 139 (Tryz.f139,(gB Tryz.f139))))) (tN f 142 (tN f 141 (tL f 140 (Tryz.f140,(gB Tryz.f140))) (tL f 141 (Tryz.f141,(gB Tryz.f141)))) (tN f 143 (tL f 142 (Tryz.f142,(gB Tryz.f142))) (tL f 143 (Tryz.f143,(gB Tryz.f143)))))) (tN f 149 (tN f 147 (tN f 145 (tL f 144 (Tryz.f144,agY)) (tL f 145 (Tryz.f145,(v_ Tryz.f145 41)))) (tN f 148 (tL f 147 (Tryz.f147,(v_ Tryz.f147 42))) (tL f 148 (Tryz.f148,(gB Tryz.f148))))) (tN f 153 (tN f 150 (tL f 149 (Tryz.f149,(v_ Tryz.f149 43))) (tL f 150 (Tryz.f150,(gB Tryz.f150)))) (tN f 154 (tL f 153 (Tryz.f153,agZ)) (tN f 155 (tL f 154 (Tryz.f154,ag_)) (tL f 155 (Tryz.f155,aha))))))) (tN f 165 (tN f 160 (tN f 158 (tN f 157 (tL f 156 (Tryz.f156,(gB Tryz.f156))) (tL f 157 (Tryz.f157,(gB Tryz.f157)))) (tN f 159 (tL f 158 (Tryz.f158,ahb)) (tL f 159 (Tryz.f159,ahc)))) (tN f 162 (tN f 161 (tL f 160 (Tryz.f160,ahd)) (tL f 161 (Tryz.f161,ahe))) (tN f 163 (tL f 162 (Tryz.f162,ahf)) (tN f 164 (tL f 163 (Tryz.f163,(gB Tryz.f163))) (tL f 164 (Tryz.f164,(gB Tryz.f164))))))) (tN f 169 (tN f 167 (tN f 166 (tL f 165 (Tryz.f165,ahg)) (tL f 166 (Tryz.f166,(gB Tryz.f166)))) (tN f 168 (tL f 167 (Tryz.f167,ahh)) (tL f 168 (Tryz.f168,(gB Tryz.f168))))) (tN f 171 (tN f 170 (tL f 169 (Tryz.f169,ahi)) (tL f 170 (Tryz.f170,(gB Tryz.f170)))) (tN f 172 (tL f 171 (Tryz.f171,ahj)) (tN f 173 (tL f 172 (Tryz.f172,ahk)) (tL f 173 (Tryz.f173,(gB Tryz.f173))))))))) (tN f 193 (tN f 183 (tN f 178 (tN f 176 (tN f 175 (tL f 174 (Tryz.f174,(gB Tryz.f174))) (tL f 175 (Tryz.f175,ahl))) (tN f 177 (tL f 176 (Tryz.f176,(gB Tryz.f176))) (tL f 177 (Tryz.f177,(gB Tryz.f177))))) (tN f 180 (tN f 179 (tL f 178 (Tryz.f178,ahm)) (tL f 179 (Tryz.f179,ahn))) (tN f 181 (tL f 180 (Tryz.f180,aho)) (tN f 182 (tL f 181 (Tryz.f181,ahp)) (tL f 182 (Tryz.f182,ahq)))))) (tN f 187 (tN f 185 (tN f 184 (tL f 183 (Tryz.f183,(gB Tryz.f183))) (tL f 184 (Tryz.f184,(gB Tryz.f184)))) (tN f 186 (tL f 185 (Tryz.f185,(gB Tryz.f185))) (tL f 186 (Tryz.f186,(gB Tryz.f186))))) (tN f 189 (tN f 188 (tL f 187 (Tryz.f187,ahr)) (tL f 188 (Tryz.f188,ahs))) (tN f 190 (tL f 189 (Tryz.f189,(gB Tryz.f189))) (tN f 191 (tL f 190 (Tryz.f190,(gB Tryz.f190))) (tL f 191 (Tryz.f191,(gB Tryz.f191)))))))) (tN f 202 (tN f 197 (tN f 195 (tN f 194 (tL f 193 (Tryz.f193,(gB Tryz.f193))) (tL f 194 (Tryz.f194,aht))) (tN f 196 (tL f 195 (Tryz.f195,(gB Tryz.f195))) (tL f 196 (Tryz.f196,(gB Tryz.f196))))) (tN f 199 (tN f 198 (tL f 197 (Tryz.f197,(v_ Tryz.f197 55))) (tL f 198 (Tryz.f198,(v_ Tryz.f198 56)))) (tN f 200 (tL f 199 (Tryz.f199,(gB Tryz.f199))) (tN f 201 (tL f 200 (Tryz.f200,(v_ Tryz.f200 57))) (tL f 201 (Tryz.f201,(v_ Tryz.f201 58))))))) (tN f 206 (tN f 204 (tN f 203 (tL f 202 (Tryz.f202,(gB Tryz.f202))) (tL f 203 (Tryz.f203,(gB Tryz.f203)))) (tN f 205 (tL f 204 (Tryz.f204,(gB Tryz.f204))) (tL f 205 (Tryz.f205,(gB Tryz.f205))))) (tN f 208 (tN f 207 (tL f 206 (Tryz.f206,(gB Tryz.f206))) (tL f 207 (Tryz.f207,(gB Tryz.f207)))) (tN f 209 (tL f 208 (Tryz.f208,(gB Tryz.f208))) (tN f 210 (tL f 209 (Tryz.f209,(v_ Tryz.f209 59))) (tL f 210 (Tryz.f210,(gB Tryz.f210)))))))))))
def adT (f:Nat):Option ((Code×Cx)×iA):=(tN f 30 (tN f 15 (tN f 7 (tN f 3 (tN f 1 (tL f 0 d0) (tN f 2 (tL f 1 d1) (tL f 2 d2))) (tN f 5 (tN f 4 (tL f 3 d3) (tL f 4 d4)) (tN f 6 (tL f 5 d5) (tL f 6 d6)))) (tN f 11 (tN f 9 (tN f 8 (tL f 7 d7) (tL f 8 d8)) (tN f 10 (tL f 9 d9) (tL f 10 d10))) (tN f 13 (tN f 12 (tL f 11 d11) (tL f 12 d12)) (tN f 14 (tL f 13 d13) (tL f 14 d14))))) (tN f 22 (tN f 18 (tN f 16 (tL f 15 d15) (tN f 17 (tL f 16 d16) (tL f 17 d17))) (tN f 20 (tN f 19 (tL f 18 d18) (tL f 19 d19)) (tN f 21 (tL f 20 d20) (tL f 21 d21)))) (tN f 26 (tN f 24 (tN f 23 (tL f 22 d22) (tL f 23 d23)) (tN f 25 (tL f 24 d24) (tL f 25 d25))) (tN f 28 (tN f 27 (tL f 26 d26) (tL f 27 d27)) (tN f 29 (tL f 28 d28) (tL f 29 d29)))))) (tN f 45 (tN f 37 (tN f 33 (tN f 31 (tL f 30 d30) (tN f 32 (tL f 31 d31) (tL f 32 d32))) (tN f 35 (tN f 34 (tL f 33 d33) (tL f 34 d34)) (tN f 36 (tL f 35 d35) (tL f 36 d36)))) (tN f 41 (tN f 39 (tN f 38 (tL f 37 d37) (tL f 38 d38)) (tN f 40 (tL f 39 d39) (tL f 40 d40))) (tN f 43 (tN f 42 (tL f 41 d41) (tL f 42 d42)) (tN f 44 (tL f 43 d43) (tL f 44 d44))))) (tN f 52 (tN f 48 (tN f 46 (tL f 45 d45) (tN f 47 (tL f 46 d46) (tL f 47 d47))) (tN f 50 (tN f 49 (tL f 48 d48) (tL f 49 d49)) (tN f 51 (tL f 50 d50) (tL f 51 d51)))) (tN f 56 (tN f 54 (tN f 53 (tL f 52 d52) (tL f 53 d53)) (tN f 55 (tL f 54 d54) (tL f 55 d55))) (tN f 58 (tN f 57 (tL f 56 d56) (tL f 57 d57)) (tN f 59 (tL f 58 d58) (tL f 59 d59)))))))
def IN:Hg:=⟨Vx,adT⟩
def FO (f:Nat) (e:Func×iA):Prop:=(∀(c:CH) (a:LH) us H,e.2 c (IN.loop a) us H=YQ xJ c a e.1 us H)∧Tryz.prog.funcs[f]? = some e.1∧aW Tryz.prog f∧okF y e.1=true
def LO (e:(Code×Cx)×iA):Prop:=∀(c:CH) (a:LH) us H,e.2 c (IN.loop a) us H=evL xJ c a e.1.1 e.1.2 us H
theorem e10:FO 10 (Tryz.f10,(gB Tryz.f10)):=⟨λ_ _ _ _=>by kernel_rfl,Tryz.func10,Tryz.call10,by kernel_rfl⟩
theorem e12:FO 12 (Tryz.f12,(gB Tryz.f12)):=⟨λ_ _ _ _=>by kernel_rfl,Tryz.func12,Tryz.call12,by kernel_rfl⟩
theorem e13:FO 13 (Tryz.f13,(gB Tryz.f13)):=⟨λ_ _ _ _=>by kernel_rfl,Tryz.func13,Tryz.call13,by kernel_rfl⟩
theorem e16:FO 16 (Tryz.f16,(gB Tryz.f16)):=⟨λ_ _ _ _=>by kernel_rfl,Tryz.func16,Tryz.call16,by kernel_rfl⟩
theorem e19:FO 19 (Tryz.f19,(gB Tryz.f19)):=⟨λ_ _ _ _=>by kernel_rfl,Tryz.func19,Tryz.call19,by kernel_rfl⟩
theorem e28:FO 28 (Tryz.f28,(gB Tryz.f28)):=⟨λ_ _ _ _=>by kernel_rfl,Tryz.func28,Tryz.call28,by kernel_rfl⟩
theorem e35:FO 35 (Tryz.f35,(gB Tryz.f35)):=⟨λ_ _ _ _=>by kernel_rfl,Tryz.func35,Tryz.call35,by kernel_rfl⟩
theorem e36:FO 36 (Tryz.f36,(gB Tryz.f36)):=⟨λ_ _ _ _=>by kernel_rfl,Tryz.func36,Tryz.call36,by kernel_rfl⟩
theorem e39:FO 39 (Tryz.f39,(gB Tryz.f39)):=⟨λ_ _ _ _=>by kernel_rfl,Tryz.func39,Tryz.call39,by kernel_rfl⟩
theorem e40:FO 40 (Tryz.f40,(gB Tryz.f40)):=⟨λ_ _ _ _=>by kernel_rfl,Tryz.func40,Tryz.call40,by kernel_rfl⟩
theorem e41:FO 41 (Tryz.f41,(gB Tryz.f41)):=⟨λ_ _ _ _=>by kernel_rfl,Tryz.func41,Tryz.call41,by kernel_rfl⟩
theorem e46:FO 46 (Tryz.f46,(gB Tryz.f46)):=⟨λ_ _ _ _=>by kernel_rfl,Tryz.func46,Tryz.call46,by kernel_rfl⟩
theorem e47:FO 47 (Tryz.f47,(gB Tryz.f47)):=⟨λ_ _ _ _=>by kernel_rfl,Tryz.func47,Tryz.call47,by kernel_rfl⟩
theorem e49:FO 49 (Tryz.f49,(v_ Tryz.f49 0)):=⟨λ_ _ _ _=>by kernel_rfl,Tryz.func49,Tryz.call49,by kernel_rfl⟩
theorem e50:FO 50 (Tryz.f50,(gB Tryz.f50)):=⟨λ_ _ _ _=>by kernel_rfl,Tryz.func50,Tryz.call50,by kernel_rfl⟩
theorem e51:FO 51 (Tryz.f51,(gB Tryz.f51)):=⟨λ_ _ _ _=>by kernel_rfl,Tryz.func51,Tryz.call51,by kernel_rfl⟩
theorem e59:FO 59 (Tryz.f59,(v_ Tryz.f59 1)):=⟨λ_ _ _ _=>by kernel_rfl,Tryz.func59,Tryz.call59,by kernel_rfl⟩
theorem e60:FO 60 (Tryz.f60,(v_ Tryz.f60 2)):=⟨λ_ _ _ _=>by kernel_rfl,Tryz.func60,Tryz.call60,by kernel_rfl⟩
theorem e61:FO 61 (Tryz.f61,B61):=⟨λ_ _ _ _=>by kernel_rfl,Tryz.func61,Tryz.call61,by kernel_rfl⟩
theorem e63:FO 63 (Tryz.f63,(gB Tryz.f63)):=⟨λ_ _ _ _=>by kernel_rfl,Tryz.func63,Tryz.call63,by kernel_rfl⟩
theorem e64:FO 64 (Tryz.f64,(v_ Tryz.f64 6)):=⟨λ_ _ _ _=>by kernel_rfl,Tryz.func64,Tryz.call64,by kernel_rfl⟩
theorem e65:FO 65 (Tryz.f65,(v_ Tryz.f65 8)):=⟨λ_ _ _ _=>by kernel_rfl,Tryz.func65,Tryz.call65,by kernel_rfl⟩
theorem e66:FO 66 (Tryz.f66,(v_ Tryz.f66 10)):=⟨λ_ _ _ _=>by kernel_rfl,Tryz.func66,Tryz.call66,by kernel_rfl⟩
theorem e67:FO 67 (Tryz.f67,(gB Tryz.f67)):=⟨λ_ _ _ _=>by kernel_rfl,Tryz.func67,Tryz.call67,by kernel_rfl⟩
theorem e68:FO 68 (Tryz.f68,(v_ Tryz.f68 11)):=⟨λ_ _ _ _=>by kernel_rfl,Tryz.func68,Tryz.call68,by kernel_rfl⟩
theorem e69:FO 69 (Tryz.f69,B69):=⟨λ_ _ _ _=>by kernel_rfl,Tryz.func69,Tryz.call69,by kernel_rfl⟩
theorem e71:FO 71 (Tryz.f71,(gB Tryz.f71)):=⟨λ_ _ _ _=>by kernel_rfl,Tryz.func71,Tryz.call71,by kernel_rfl⟩
theorem e72:FO 72 (Tryz.f72,B72):=⟨λ_ _ _ _=>by kernel_rfl,Tryz.func72,Tryz.call72,by kernel_rfl⟩
theorem e75:FO 75 (Tryz.f75,(gB Tryz.f75)):=⟨λ_ _ _ _=>by kernel_rfl,Tryz.func75,Tryz.call75,by kernel_rfl⟩
theorem e76:FO 76 (Tryz.f76,(v_ Tryz.f76 16)):=⟨λ_ _ _ _=>by kernel_rfl,Tryz.func76,Tryz.call76,by kernel_rfl⟩
theorem e77:FO 77 (Tryz.f77,(gB Tryz.f77)):=⟨λ_ _ _ _=>by kernel_rfl,Tryz.func77,Tryz.call77,by kernel_rfl⟩
theorem e78:FO 78 (Tryz.f78,(v_ Tryz.f78 18)):=⟨λ_ _ _ _=>by kernel_rfl,Tryz.func78,Tryz.call78,by kernel_rfl⟩
theorem e79:FO 79 (Tryz.f79,(gB Tryz.f79)):=⟨λ_ _ _ _=>by kernel_rfl,Tryz.func79,Tryz.call79,by kernel_rfl⟩
theorem e88:FO 88 (Tryz.f88,(v_ Tryz.f88 19)):=⟨λ_ _ _ _=>by kernel_rfl,Tryz.func88,Tryz.call88,by kernel_rfl⟩
theorem e89:FO 89 (Tryz.f89,(v_ Tryz.f89 20)):=⟨λ_ _ _ _=>by kernel_rfl,Tryz.func89,Tryz.call89,by kernel_rfl⟩
theorem e90:FO 90 (Tryz.f90,(v_ Tryz.f90 21)):=⟨λ_ _ _ _=>by kernel_rfl,Tryz.func90,Tryz.call90,by kernel_rfl⟩
theorem e91:FO 91 (Tryz.f91,(v_ Tryz.f91 22)):=⟨λ_ _ _ _=>by kernel_rfl,Tryz.func91,Tryz.call91,by kernel_rfl⟩
theorem e92:FO 92 (Tryz.f92,(gB Tryz.f92)):=⟨λ_ _ _ _=>by kernel_rfl,Tryz.func92,Tryz.call92,by kernel_rfl⟩
theorem e93:FO 93 (Tryz.f93,B93):=⟨λ_ _ _ _=>by kernel_rfl,Tryz.func93,Tryz.call93,by kernel_rfl⟩
theorem e94:FO 94 (Tryz.f94,(gB Tryz.f94)):=⟨λ_ _ _ _=>by kernel_rfl,Tryz.func94,Tryz.call94,by kernel_rfl⟩
theorem e97:FO 97 (Tryz.f97,(gB Tryz.f97)):=⟨λ_ _ _ _=>by kernel_rfl,Tryz.func97,Tryz.call97,by kernel_rfl⟩
theorem e98:FO 98 (Tryz.f98,(v_ Tryz.f98 25)):=⟨λ_ _ _ _=>by kernel_rfl,Tryz.func98,Tryz.call98,by kernel_rfl⟩
theorem e99:FO 99 (Tryz.f99,(v_ Tryz.f99 26)):=⟨λ_ _ _ _=>by kernel_rfl,Tryz.func99,Tryz.call99,by kernel_rfl⟩
theorem ajl:FO 100 (Tryz.f100,(gB Tryz.f100)):=⟨λ_ _ _ _=>by kernel_rfl,Tryz.func100,Tryz.call100,by kernel_rfl⟩
theorem ajm:FO 101 (Tryz.f101,(v_ Tryz.f101 27)):=⟨λ_ _ _ _=>by kernel_rfl,Tryz.func101,Tryz.call101,by kernel_rfl⟩
theorem ajn:FO 102 (Tryz.f102,(gB Tryz.f102)):=⟨λ_ _ _ _=>by kernel_rfl,Tryz.func102,Tryz.call102,by kernel_rfl⟩
theorem ajo:FO 103 (Tryz.f103,(gB Tryz.f103)):=⟨λ_ _ _ _=>by kernel_rfl,Tryz.func103,Tryz.call103,by kernel_rfl⟩
theorem ajp:FO 104 (Tryz.f104,agN):=⟨λ_ _ _ _=>by kernel_rfl,Tryz.func104,Tryz.call104,by kernel_rfl⟩
theorem ajq:FO 105 (Tryz.f105,(gB Tryz.f105)):=⟨λ_ _ _ _=>by kernel_rfl,Tryz.func105,Tryz.call105,by kernel_rfl⟩
theorem ajr:FO 106 (Tryz.f106,(v_ Tryz.f106 30)):=⟨λ_ _ _ _=>by kernel_rfl,Tryz.func106,Tryz.call106,by kernel_rfl⟩
theorem ajs:FO 107 (Tryz.f107,(v_ Tryz.f107 31)):=⟨λ_ _ _ _=>by kernel_rfl,Tryz.func107,Tryz.call107,by kernel_rfl⟩
theorem ajt:FO 108 (Tryz.f108,(v_ Tryz.f108 32)):=⟨λ_ _ _ _=>by kernel_rfl,Tryz.func108,Tryz.call108,by kernel_rfl⟩
theorem aju:FO 109 (Tryz.f109,(gB Tryz.f109)):=⟨λ_ _ _ _=>by kernel_rfl,Tryz.func109,Tryz.call109,by kernel_rfl⟩
theorem ajv:FO 111 (Tryz.f111,(v_ Tryz.f111 33)):=⟨λ_ _ _ _=>by kernel_rfl,Tryz.func111,Tryz.call111,by kernel_rfl⟩
theorem ajw:FO 112 (Tryz.f112,(gB Tryz.f112)):=⟨λ_ _ _ _=>by kernel_rfl,Tryz.func112,Tryz.call112,by kernel_rfl⟩
theorem ajx:FO 120 (Tryz.f120,(gB Tryz.f120)):=⟨λ_ _ _ _=>by kernel_rfl,Tryz.func120,Tryz.call120,by kernel_rfl⟩
theorem ajy:FO 121 (Tryz.f121,(v_ Tryz.f121 34)):=⟨λ_ _ _ _=>by kernel_rfl,Tryz.func121,Tryz.call121,by kernel_rfl⟩
theorem ajz:FO 122 (Tryz.f122,(gB Tryz.f122)):=⟨λ_ _ _ _=>by kernel_rfl,Tryz.func122,Tryz.call122,by kernel_rfl⟩
theorem ajA:FO 123 (Tryz.f123,(v_ Tryz.f123 35)):=⟨λ_ _ _ _=>by kernel_rfl,Tryz.func123,Tryz.call123,by kernel_rfl⟩
theorem ajB:FO 124 (Tryz.f124,(gB Tryz.f124)):=⟨λ_ _ _ _=>by kernel_rfl,Tryz.func124,Tryz.call124,by kernel_rfl⟩
theorem ajC:FO 125 (Tryz.f125,(gB Tryz.f125)):=⟨λ_ _ _ _=>by kernel_rfl,Tryz.func125,Tryz.call125,by kernel_rfl⟩
theorem ajD:FO 126 (Tryz.f126,(gB Tryz.f126)):=⟨λ_ _ _ _=>by kernel_rfl,Tryz.func126,Tryz.call126,by kernel_rfl⟩
theorem ajE:FO 127 (Tryz.f127,agO):=⟨λ_ _ _ _=>by kernel_rfl,Tryz.func127,Tryz.call127,by kernel_rfl⟩
theorem ajF:FO 128 (Tryz.f128,agP):=⟨λ_ _ _ _=>by kernel_rfl,Tryz.func128,Tryz.call128,by kernel_rfl⟩
theorem ajG:FO 129 (Tryz.f129,agQ):=⟨λ_ _ _ _=>by kernel_rfl,Tryz.func129,Tryz.call129,by kernel_rfl⟩
theorem ajH:FO 130 (Tryz.f130,agS):=⟨λ_ _ _ _=>by kernel_rfl,Tryz.func130,Tryz.call130,by kernel_rfl⟩
theorem ajI:FO 131 (Tryz.f131,(v_ Tryz.f131 37)):=⟨λ_ _ _ _=>by kernel_rfl,Tryz.func131,Tryz.call131,by kernel_rfl⟩
theorem ajJ:FO 132 (Tryz.f132,agT):=⟨λ_ _ _ _=>by kernel_rfl,Tryz.func132,Tryz.call132,by kernel_rfl⟩
theorem ajK:FO 133 (Tryz.f133,agU):=⟨λ_ _ _ _=>by kernel_rfl,Tryz.func133,Tryz.call133,by kernel_rfl⟩
theorem ajL:FO 134 (Tryz.f134,agV):=⟨λ_ _ _ _=>by kernel_rfl,Tryz.func134,Tryz.call134,by kernel_rfl⟩
theorem ajM:FO 135 (Tryz.f135,agW):=⟨λ_ _ _ _=>by kernel_rfl,Tryz.func135,Tryz.call135,by kernel_rfl⟩
theorem ajN:FO 136 (Tryz.f136,(v_ Tryz.f136 39)):=⟨λ_ _ _ _=>by kernel_rfl,Tryz.func136,Tryz.call136,by kernel_rfl⟩
theorem ajO:FO 137 (Tryz.f137,agX):=⟨λ_ _ _ _=>by kernel_rfl,Tryz.func137,Tryz.call137,by kernel_rfl⟩
theorem ajP:FO 138 (Tryz.f138,(gB Tryz.f138)):=⟨λ_ _ _ _=>by kernel_rfl,Tryz.func138,Tryz.call138,by kernel_rfl⟩
theorem ajQ:FO 139 (Tryz.f139,(gB Tryz.f139)):=⟨λ_ _ _ _=>by kernel_rfl,Tryz.func139,Tryz.call139,by kernel_rfl⟩
theorem ajR:FO 140 (Tryz.f140,(gB Tryz.f140)):=⟨λ_ _ _ _=>by kernel_rfl,Tryz.func140,Tryz.call140,by kernel_rfl⟩
theorem ajS:FO 141 (Tryz.f141,(gB Tryz.f141)):=⟨λ_ _ _ _=>by kernel_rfl,Tryz.func141,Tryz.call141,by kernel_rfl⟩
theorem ajT:FO 142 (Tryz.f142,(gB Tryz.f142)):=⟨λ_ _ _ _=>by kernel_rfl,Tryz.func142,Tryz.call142,by kernel_rfl⟩
theorem ajU:FO 143 (Tryz.f143,(gB Tryz.f143)):=⟨λ_ _ _ _=>by kernel_rfl,Tryz.func143,Tryz.call143,by kernel_rfl⟩
theorem ajV:FO 144 (Tryz.f144,agY):=⟨λ_ _ _ _=>by kernel_rfl,Tryz.func144,Tryz.call144,by kernel_rfl⟩
theorem ajW:FO 145 (Tryz.f145,(v_ Tryz.f145 41)):=⟨λ_ _ _ _=>by kernel_rfl,Tryz.func145,Tryz.call145,by kernel_rfl⟩
theorem ajX:FO 147 (Tryz.f147,(v_ Tryz.f147 42)):=⟨λ_ _ _ _=>by kernel_rfl,Tryz.func147,Tryz.call147,by kernel_rfl⟩
theorem ajY:FO 148 (Tryz.f148,(gB Tryz.f148)):=⟨λ_ _ _ _=>by kernel_rfl,Tryz.func148,Tryz.call148,by kernel_rfl⟩
theorem ajZ:FO 149 (Tryz.f149,(v_ Tryz.f149 43)):=⟨λ_ _ _ _=>by kernel_rfl,Tryz.func149,Tryz.call149,by kernel_rfl⟩
theorem aj_:FO 150 (Tryz.f150,(gB Tryz.f150)):=⟨λ_ _ _ _=>by kernel_rfl,Tryz.func150,Tryz.call150,by kernel_rfl⟩
theorem aka:FO 153 (Tryz.f153,agZ):=⟨λ_ _ _ _=>by kernel_rfl,Tryz.func153,Tryz.call153,by kernel_rfl⟩
theorem akb:FO 154 (Tryz.f154,ag_):=⟨λ_ _ _ _=>by kernel_rfl,Tryz.func154,Tryz.call154,by kernel_rfl⟩
theorem akc:FO 155 (Tryz.f155,aha):=⟨λ_ _ _ _=>by kernel_rfl,Tryz.func155,Tryz.call155,by kernel_rfl⟩
theorem akd:FO 156 (Tryz.f156,(gB Tryz.f156)):=⟨λ_ _ _ _=>by kernel_rfl,Tryz.func156,Tryz.call156,by kernel_rfl⟩
theorem ake:FO 157 (Tryz.f157,(gB Tryz.f157)):=⟨λ_ _ _ _=>by kernel_rfl,Tryz.func157,Tryz.call157,by kernel_rfl⟩
theorem akf:FO 158 (Tryz.f158,ahb):=⟨λ_ _ _ _=>by kernel_rfl,Tryz.func158,Tryz.call158,by kernel_rfl⟩
theorem akg:FO 159 (Tryz.f159,ahc):=⟨λ_ _ _ _=>by kernel_rfl,Tryz.func159,Tryz.call159,by kernel_rfl⟩
theorem akh:FO 160 (Tryz.f160,ahd):=⟨λ_ _ _ _=>by kernel_rfl,Tryz.func160,Tryz.call160,by kernel_rfl⟩
theorem aki:FO 161 (Tryz.f161,ahe):=⟨λ_ _ _ _=>by kernel_rfl,Tryz.func161,Tryz.call161,by kernel_rfl⟩
theorem akj:FO 162 (Tryz.f162,ahf):=⟨λ_ _ _ _=>by kernel_rfl,Tryz.func162,Tryz.call162,by kernel_rfl⟩
theorem akk:FO 163 (Tryz.f163,(gB Tryz.f163)):=⟨λ_ _ _ _=>by kernel_rfl,Tryz.func163,Tryz.call163,by kernel_rfl⟩
theorem akl:FO 164 (Tryz.f164,(gB Tryz.f164)):=⟨λ_ _ _ _=>by kernel_rfl,Tryz.func164,Tryz.call164,by kernel_rfl⟩
theorem akm:FO 165 (Tryz.f165,ahg):=⟨λ_ _ _ _=>by kernel_rfl,Tryz.func165,Tryz.call165,by kernel_rfl⟩
theorem akn:FO 166 (Tryz.f166,(gB Tryz.f166)):=⟨λ_ _ _ _=>by kernel_rfl,Tryz.func166,Tryz.call166,by kernel_rfl⟩
theorem ako:FO 167 (Tryz.f167,ahh):=⟨λ_ _ _ _=>by kernel_rfl,Tryz.func167,Tryz.call167,by kernel_rfl⟩
theorem akp:FO 168 (Tryz.f168,(gB Tryz.f168)):=⟨λ_ _ _ _=>by kernel_rfl,Tryz.func168,Tryz.call168,by kernel_rfl⟩
theorem akq:FO 169 (Tryz.f169,ahi):=⟨λ_ _ _ _=>by kernel_rfl,Tryz.func169,Tryz.call169,by kernel_rfl⟩
theorem akr:FO 170 (Tryz.f170,(gB Tryz.f170)):=⟨λ_ _ _ _=>by kernel_rfl,Tryz.func170,Tryz.call170,by kernel_rfl⟩
theorem aks:FO 171 (Tryz.f171,ahj):=⟨λ_ _ _ _=>by kernel_rfl,Tryz.func171,Tryz.call171,by kernel_rfl⟩
theorem akt:FO 172 (Tryz.f172,ahk):=⟨λ_ _ _ _=>by kernel_rfl,Tryz.func172,Tryz.call172,by kernel_rfl⟩
theorem aku:FO 173 (Tryz.f173,(gB Tryz.f173)):=⟨λ_ _ _ _=>by kernel_rfl,Tryz.func173,Tryz.call173,by kernel_rfl⟩
theorem akv:FO 174 (Tryz.f174,(gB Tryz.f174)):=⟨λ_ _ _ _=>by kernel_rfl,Tryz.func174,Tryz.call174,by kernel_rfl⟩
theorem akw:FO 175 (Tryz.f175,ahl):=⟨λ_ _ _ _=>by kernel_rfl,Tryz.func175,Tryz.call175,by kernel_rfl⟩
theorem akx:FO 176 (Tryz.f176,(gB Tryz.f176)):=⟨λ_ _ _ _=>by kernel_rfl,Tryz.func176,Tryz.call176,by kernel_rfl⟩
theorem aky:FO 177 (Tryz.f177,(gB Tryz.f177)):=⟨λ_ _ _ _=>by kernel_rfl,Tryz.func177,Tryz.call177,by kernel_rfl⟩
theorem akz:FO 178 (Tryz.f178,ahm):=⟨λ_ _ _ _=>by kernel_rfl,Tryz.func178,Tryz.call178,by kernel_rfl⟩
theorem akA:FO 179 (Tryz.f179,ahn):=⟨λ_ _ _ _=>by kernel_rfl,Tryz.func179,Tryz.call179,by kernel_rfl⟩
theorem akB:FO 180 (Tryz.f180,aho):=⟨λ_ _ _ _=>by kernel_rfl,Tryz.func180,Tryz.call180,by kernel_rfl⟩
theorem akC:FO 181 (Tryz.f181,ahp):=⟨λ_ _ _ _=>by kernel_rfl,Tryz.func181,Tryz.call181,by kernel_rfl⟩
theorem akD:FO 182 (Tryz.f182,ahq):=⟨λ_ _ _ _=>by kernel_rfl,Tryz.func182,Tryz.call182,by kernel_rfl⟩
theorem akE:FO 183 (Tryz.f183,(gB Tryz.f183)):=⟨λ_ _ _ _=>by kernel_rfl,Tryz.func183,Tryz.call183,by kernel_rfl⟩
theorem akF:FO 184 (Tryz.f184,(gB Tryz.f184)):=⟨λ_ _ _ _=>by kernel_rfl,Tryz.func184,Tryz.call184,by kernel_rfl⟩
theorem akG:FO 185 (Tryz.f185,(gB Tryz.f185)):=⟨λ_ _ _ _=>by kernel_rfl,Tryz.func185,Tryz.call185,by kernel_rfl⟩
theorem akH:FO 186 (Tryz.f186,(gB Tryz.f186)):=⟨λ_ _ _ _=>by kernel_rfl,Tryz.func186,Tryz.call186,by kernel_rfl⟩
theorem akI:FO 187 (Tryz.f187,ahr):=⟨λ_ _ _ _=>by kernel_rfl,Tryz.func187,Tryz.call187,by kernel_rfl⟩
theorem akJ:FO 188 (Tryz.f188,ahs):=⟨λ_ _ _ _=>by kernel_rfl,Tryz.func188,Tryz.call188,by kernel_rfl⟩
theorem akK:FO 189 (Tryz.f189,(gB Tryz.f189)):=⟨λ_ _ _ _=>by kernel_rfl,Tryz.func189,Tryz.call189,by kernel_rfl⟩
theorem akL:FO 190 (Tryz.f190,(gB Tryz.f190)):=⟨λ_ _ _ _=>by kernel_rfl,Tryz.func190,Tryz.call190,by kernel_rfl⟩
theorem akM:FO 191 (Tryz.f191,(gB Tryz.f191)):=⟨λ_ _ _ _=>by kernel_rfl,Tryz.func191,Tryz.call191,by kernel_rfl⟩
theorem akN:FO 193 (Tryz.f193,(gB Tryz.f193)):=⟨λ_ _ _ _=>by kernel_rfl,Tryz.func193,Tryz.call193,by kernel_rfl⟩
theorem akO:FO 194 (Tryz.f194,aht):=⟨λ_ _ _ _=>by kernel_rfl,Tryz.func194,Tryz.call194,by kernel_rfl⟩
theorem akP:FO 195 (Tryz.f195,(gB Tryz.f195)):=⟨λ_ _ _ _=>by kernel_rfl,Tryz.func195,Tryz.call195,by kernel_rfl⟩
theorem akQ:FO 196 (Tryz.f196,(gB Tryz.f196)):=⟨λ_ _ _ _=>by kernel_rfl,Tryz.func196,Tryz.call196,by kernel_rfl⟩
theorem akR:FO 197 (Tryz.f197,(v_ Tryz.f197 55)):=⟨λ_ _ _ _=>by kernel_rfl,Tryz.func197,Tryz.call197,by kernel_rfl⟩
theorem akS:FO 198 (Tryz.f198,(v_ Tryz.f198 56)):=⟨λ_ _ _ _=>by kernel_rfl,Tryz.func198,Tryz.call198,by kernel_rfl⟩
theorem akT:FO 199 (Tryz.f199,(gB Tryz.f199)):=⟨λ_ _ _ _=>by kernel_rfl,Tryz.func199,Tryz.call199,by kernel_rfl⟩
theorem akU:FO 200 (Tryz.f200,(v_ Tryz.f200 57)):=⟨λ_ _ _ _=>by kernel_rfl,Tryz.func200,Tryz.call200,by kernel_rfl⟩
theorem akV:FO 201 (Tryz.f201,(v_ Tryz.f201 58)):=⟨λ_ _ _ _=>by kernel_rfl,Tryz.func201,Tryz.call201,by kernel_rfl⟩
theorem akW:FO 202 (Tryz.f202,(gB Tryz.f202)):=⟨λ_ _ _ _=>by kernel_rfl,Tryz.func202,Tryz.call202,by kernel_rfl⟩
theorem akX:FO 203 (Tryz.f203,(gB Tryz.f203)):=⟨λ_ _ _ _=>by kernel_rfl,Tryz.func203,Tryz.call203,by kernel_rfl⟩
theorem akY:FO 204 (Tryz.f204,(gB Tryz.f204)):=⟨λ_ _ _ _=>by kernel_rfl,Tryz.func204,Tryz.call204,by kernel_rfl⟩
theorem akZ:FO 205 (Tryz.f205,(gB Tryz.f205)):=⟨λ_ _ _ _=>by kernel_rfl,Tryz.func205,Tryz.call205,by kernel_rfl⟩
theorem ak_:FO 206 (Tryz.f206,(gB Tryz.f206)):=⟨λ_ _ _ _=>by kernel_rfl,Tryz.func206,Tryz.call206,by kernel_rfl⟩
theorem ala:FO 207 (Tryz.f207,(gB Tryz.f207)):=⟨λ_ _ _ _=>by kernel_rfl,Tryz.func207,Tryz.call207,by kernel_rfl⟩
theorem alb:FO 208 (Tryz.f208,(gB Tryz.f208)):=⟨λ_ _ _ _=>by kernel_rfl,Tryz.func208,Tryz.call208,by kernel_rfl⟩
theorem alc:FO 209 (Tryz.f209,(v_ Tryz.f209 59)):=⟨λ_ _ _ _=>by kernel_rfl,Tryz.func209,Tryz.call209,by kernel_rfl⟩
theorem ald:FO 210 (Tryz.f210,(gB Tryz.f210)):=⟨λ_ _ _ _=>by kernel_rfl,Tryz.func210,Tryz.call210,by kernel_rfl⟩
theorem l0:LO d0:=λ_ _ _ _=>by kernel_rfl
theorem l1:LO d1:=λ_ _ _ _=>by kernel_rfl
theorem l2:LO d2:=λ_ _ _ _=>by kernel_rfl
theorem l3:LO d3:=λ_ _ _ _=>by kernel_rfl
theorem l4:LO d4:=λ_ _ _ _=>by kernel_rfl
theorem l5:LO d5:=λ_ _ _ _=>by kernel_rfl
theorem l6:LO d6:=λ_ _ _ _=>by kernel_rfl
theorem l7:LO d7:=λ_ _ _ _=>by kernel_rfl
theorem l8:LO d8:=λ_ _ _ _=>by kernel_rfl
theorem l9:LO d9:=λ_ _ _ _=>by kernel_rfl
theorem l10:LO d10:=λ_ _ _ _=>by kernel_rfl
theorem l11:LO d11:=λ_ _ _ _=>by kernel_rfl
theorem l12:LO d12:=λ_ _ _ _=>by kernel_rfl
theorem l13:LO d13:=λ_ _ _ _=>by kernel_rfl
theorem l14:LO d14:=λ_ _ _ _=>by kernel_rfl
theorem l15:LO d15:=λ_ _ _ _=>by kernel_rfl
theorem l16:LO d16:=λ_ _ _ _=>by kernel_rfl
theorem l17:LO d17:=λ_ _ _ _=>by kernel_rfl
theorem l18:LO d18:=λ_ _ _ _=>by kernel_rfl
theorem l19:LO d19:=λ_ _ _ _=>by kernel_rfl
theorem l20:LO d20:=λ_ _ _ _=>by kernel_rfl
theorem l21:LO d21:=λ_ _ _ _=>by kernel_rfl
theorem l22:LO d22:=λ_ _ _ _=>by kernel_rfl
theorem l23:LO d23:=λ_ _ _ _=>by kernel_rfl
theorem l24:LO d24:=λ_ _ _ _=>by kernel_rfl
theorem l25:LO d25:=λ_ _ _ _=>by kernel_rfl
theorem l26:LO d26:=λ_ _ _ _=>by kernel_rfl
theorem l27:LO d27:=λ_ _ _ _=>by kernel_rfl
theorem l28:LO d28:=λ_ _ _ _=>by kernel_rfl
theorem l29:LO d29:=λ_ _ _ _=>by kernel_rfl
theorem l30:LO d30:=λ_ _ _ _=>by kernel_rfl
theorem l31:LO d31:=λ_ _ _ _=>by kernel_rfl
theorem l32:LO d32:=λ_ _ _ _=>by kernel_rfl
theorem l33:LO d33:=λ_ _ _ _=>by kernel_rfl
theorem l34:LO d34:=λ_ _ _ _=>by kernel_rfl
theorem l35:LO d35:=λ_ _ _ _=>by kernel_rfl
theorem l36:LO d36:=λ_ _ _ _=>by kernel_rfl
theorem l37:LO d37:=λ_ _ _ _=>by kernel_rfl
theorem l38:LO d38:=λ_ _ _ _=>by kernel_rfl
theorem l39:LO d39:=λ_ _ _ _=>by kernel_rfl
theorem l40:LO d40:=λ_ _ _ _=>by kernel_rfl
theorem l41:LO d41:=λ_ _ _ _=>by kernel_rfl
theorem l42:LO d42:=λ_ _ _ _=>by kernel_rfl
theorem l43:LO d43:=λ_ _ _ _=>by kernel_rfl
theorem l44:LO d44:=λ_ _ _ _=>by kernel_rfl
theorem l45:LO d45:=λ_ _ _ _=>by kernel_rfl
theorem l46:LO d46:=λ_ _ _ _=>by kernel_rfl
theorem l47:LO d47:=λ_ _ _ _=>by kernel_rfl
theorem l48:LO d48:=λ_ _ _ _=>by kernel_rfl
theorem l49:LO d49:=λ_ _ _ _=>by kernel_rfl
theorem l50:LO d50:=λ_ _ _ _=>by kernel_rfl
theorem l51:LO d51:=λ_ _ _ _=>by kernel_rfl
theorem l52:LO d52:=λ_ _ _ _=>by kernel_rfl
theorem l53:LO d53:=λ_ _ _ _=>by kernel_rfl
theorem l54:LO d54:=λ_ _ _ _=>by kernel_rfl
theorem l55:LO d55:=λ_ _ _ _=>by kernel_rfl
theorem l56:LO d56:=λ_ _ _ _=>by kernel_rfl
theorem l57:LO d57:=λ_ _ _ _=>by kernel_rfl
theorem l58:LO d58:=λ_ _ _ _=>by kernel_rfl
theorem l59:LO d59:=λ_ _ _ _=>by kernel_rfl
theorem Nq {f:Nat} {e:Func×iA}:Vx f=some e->FO f e:=(rN (rN (rN (rN (rN (rN (rN (rL e10) (rL e12)) (rN (rL e13) (rL e16))) (rN (rN (rL e19) (rL e28)) (rN (rL e35) (rL e36)))) (rN (rN (rN (rL e39) (rL e40)) (rN (rL e41) (rL e46))) (rN (rN (rL e47) (rL e49)) (rN (rL e50) (rN (rL e51) (rL e59)))))) (rN (rN (rN (rN (rL e60) (rL e61)) (rN (rL e63) (rL e64))) (rN (rN (rL e65) (rL e66)) (rN (rL e67) (rN (rL e68) (rL e69))))) (rN (rN (rN (rL e71) (rL e72)) (rN (rL e75) (rL e76))) (rN (rN (rL e77) (rL e78)) (rN (rL e79) (rN (rL e88) (rL e89))))))) (rN (rN (rN (rN (rN (rL e90) (rL e91)) (rN (rL e92) (rL e93))) (rN (rN (rL e94) (rL e97)) (rN (rL e98) (rN (rL e99) (rL ajl))))) (rN (rN (rN (rL ajm) (rL ajn)) (rN (rL ajo) (rL ajp))) (rN (rN (rL ajq) (rL ajr)) (rN (rL ajs) (rN (rL ajt) (rL aju)))))) (rN (rN (rN (rN (rL ajv) (rL ajw)) (rN (rL ajx) (rL ajy))) (rN (rN (rL ajz) (rL ajA)) (rN (rL ajB) (rN (rL ajC) (rL ajD))))) (rN (rN (rN (rL ajE) (rL ajF)) (rN (rL ajG) (rL ajH))) (rN (rN (rL ajI) (rL ajJ)) (rN (rL ajK) (rN (rL ajL) (rL ajM)))))))) (rN (rN (rN (rN (rN (rN (rL ajN) (rL ajO)) (rN (rL ajP) (rL ajQ))) (rN (rN (rL ajR) (rL ajS)) (rN (rL ajT) (rL ajU)))) (rN (rN (rN (rL ajV) (rL ajW)) (rN (rL ajX) (rL ajY))) (rN (rN (rL ajZ) (rL aj_)) (rN (rL aka) (rN (rL akb) (rL akc)))))) (rN (rN (rN (rN (rL akd) (rL ake)) (rN (rL akf) (rL akg))) (rN (rN (rL akh) (rL aki)) (rN (rL akj) (rN (rL akk) (rL akl))))) (rN (rN (rN (rL akm) (rL akn)) (rN (rL ako) (rL akp))) (rN (rN (rL akq) (rL akr)) (rN (rL aks) (rN (rL akt) (rL aku))))))) (rN (rN (rN (rN (rN (rL akv) (rL akw)) (rN (rL akx) (rL aky))) (rN (rN (rL akz) (rL akA)) (rN (rL akB) (rN (rL akC) (rL akD))))) (rN (rN (rN (rL akE) (rL akF)) (rN (rL akG) (rL akH))) (rN (rN (rL akI) (rL akJ)) (rN (rL akK) (rN (rL akL) (rL akM)))))) (rN (rN (rN (rN (rL akN) (rL akO)) (rN (rL akP) (rL akQ))) (rN (rN (rL akR) (rL akS)) (rN (rL akT) (rN (rL akU) (rL akV))))) (rN (rN (rN (rL akW) (rL akX)) (rN (rL akY) (rL akZ))) (rN (rN (rL ak_) (rL ala)) (rN (rL alb) (rN (rL alc) (rL ald)))))))))
theorem aad {f:Nat} {e:(Code×Cx)×iA}:adT f=some e->LO e:=(rN (rN (rN (rN (rN (rL (R:=λ_=>LO) l0) (rN (rL (R:=λ_=>LO) l1) (rL (R:=λ_=>LO) l2))) (rN (rN (rL (R:=λ_=>LO) l3) (rL (R:=λ_=>LO) l4)) (rN (rL (R:=λ_=>LO) l5) (rL (R:=λ_=>LO) l6)))) (rN (rN (rN (rL (R:=λ_=>LO) l7) (rL (R:=λ_=>LO) l8)) (rN (rL (R:=λ_=>LO) l9) (rL (R:=λ_=>LO) l10))) (rN (rN (rL (R:=λ_=>LO) l11) (rL (R:=λ_=>LO) l12)) (rN (rL (R:=λ_=>LO) l13) (rL (R:=λ_=>LO) l14))))) (rN (rN (rN (rL (R:=λ_=>LO) l15) (rN (rL (R:=λ_=>LO) l16) (rL (R:=λ_=>LO) l17))) (rN (rN (rL (R:=λ_=>LO) l18) (rL (R:=λ_=>LO) l19)) (rN (rL (R:=λ_=>LO) l20) (rL (R:=λ_=>LO) l21)))) (rN (rN (rN (rL (R:=λ_=>LO) l22) (rL (R:=λ_=>LO) l23)) (rN (rL (R:=λ_=>LO) l24) (rL (R:=λ_=>LO) l25))) (rN (rN (rL (R:=λ_=>LO) l26) (rL (R:=λ_=>LO) l27)) (rN (rL (R:=λ_=>LO) l28) (rL (R:=λ_=>LO) l29)))))) (rN (rN (rN (rN (rL (R:=λ_=>LO) l30) (rN (rL (R:=λ_=>LO) l31) (rL (R:=λ_=>LO) l32))) (rN (rN (rL (R:=λ_=>LO) l33) (rL (R:=λ_=>LO) l34)) (rN (rL (R:=λ_=>LO) l35) (rL (R:=λ_=>LO) l36)))) (rN (rN (rN (rL (R:=λ_=>LO) l37) (rL (R:=λ_=>LO) l38)) (rN (rL (R:=λ_=>LO) l39) (rL (R:=λ_=>LO) l40))) (rN (rN (rL (R:=λ_=>LO) l41) (rL (R:=λ_=>LO) l42)) (rN (rL (R:=λ_=>LO) l43) (rL (R:=λ_=>LO) l44))))) (rN (rN (rN (rL (R:=λ_=>LO) l45) (rN (rL (R:=λ_=>LO) l46) (rL (R:=λ_=>LO) l47))) (rN (rN (rL (R:=λ_=>LO) l48) (rL (R:=λ_=>LO) l49)) (rN (rL (R:=λ_=>LO) l50) (rL (R:=λ_=>LO) l51)))) (rN (rN (rN (rL (R:=λ_=>LO) l52) (rL (R:=λ_=>LO) l53)) (rN (rL (R:=λ_=>LO) l54) (rL (R:=λ_=>LO) l55))) (rN (rN (rL (R:=λ_=>LO) l56) (rL (R:=λ_=>LO) l57)) (rN (rL (R:=λ_=>LO) l58) (rL (R:=λ_=>LO) l59)))))))
theorem HN:Kx IN xJ:=⟨λh=>(Nq h).1,aad⟩
theorem aac {f:Nat} {e:Func×iA} (h:Vx f=some e):Tryz.prog.funcs[f]? = some e.1∧aW Tryz.prog f∧okF y e.1=true:=(Nq h).2
end
end Go.Gx
end
namespace Go.Gx
open Go Go.Sx
section
variable {P:Program} {gs:Ai} {w0:fC gs} {tb:TB}
theorem Qh:sX P w0 (λ_ _ _=>none):=λf b H g a h=>by cases h
theorem Jf:Ik P w0 tb (λ_ _ _ _=>none):=λb c d H a h=>by cases h
theorem acq {C:CH} {G:LH} (y:fN P tb) (Q:P.follows .mixedOrders=true) (k:∀w0:fC gs,sX P w0 C) (l:Ik P w0 tb G) {f:Nat} {d:Func} {J:List GV} {H:GH} {c:PL} (L:P.funcs[f]? = some d) (A:okF tb d=true) (h:YQ tb C G d J H=some c) (O:c.e = .ret) {t:eG} {w:World} {s:List Value} (R:fW w0 t H w) (E:pS t J s):
  Calls P f s.toArray w λe u=>∃v a,e = .returned v∧t.le a∧fW w0 a c.H u∧Rl a (W_ c.vs) v:=by
 obtain⟨M,N⟩:=QU A;obtain⟨i,D,h⟩:=aF.1 (show ob d.body _=some c from h);obtain⟨K,m,h⟩:=rQ h;rw[List.range_eq_range']at m;have r:=Kz m;have S:s.length<=d.ntmps:=by rw[<-E.len,r];exact N
 refine uC L D ?_;have F:lM t d.ntmps K {tmps:=s.toArray++Array.replicate (d.ntmps - s.toArray.size) undef,defers:=[]}:=by
  refine NZ Z (by simp;omega) E (λj v p=> ?_) m;have z:=bH p;rw[Nat.zero_add,zB9 (by simpa using z)];simpa using p
 refine Dq y Q k l i _ _ _ ⟨K,H⟩ c t _ w _ (M i D) h F R ⟨λI a B u q b n o=> ?_,λid I a B u q b n o=> ?_,λI a B u q b n o=> ?_⟩
 ·obtain⟨x,v,p,g⟩:=HM (fn:=d) y Z n o q;exact Sx.body_end (.inr Z) n.defers g ⟨v,a,rfl,b,by rw[x];exact o,p⟩
 ·have:=Bn q;rw[O]at this;cases this
 ·obtain⟨x,v,p,g⟩:=HM (fn:=d) y Z n o q;exact Sx.body_end (.inl Z) n.defers g ⟨v,a,rfl,b,by rw[x];exact o,p⟩
noncomputable def MP (tb:TB) (f:Nat) (a:Func):CH:=λg b H=>bif Nat.beq g f then No (YQ tb (λ_ _ _=>none) (λ_ _ _ _=>none) a b H)else none
theorem Yw (m:fN P tb) (p:P.follows .mixedOrders=true) {f:Nat} {c:Func} (k:P.funcs[f]? = some c) (n:aW P f) (i:okF tb c=true):sX P w0 (MP tb f c):=λg r H x j h t w s R q=>by
 unfold MP at h;cases b:Nat.beq g f with
 |false=>rw[b]at h;cases h
 |true=>
 rw[b]at h;have b:=zA4 b;subst b;replace h:No (YQ tb (λ_ _ _=>none) (λ_ _ _ _=>none) c r H)=some (x,j):=h;unfold No at h;obtain⟨o,l,a⟩:=aF.1 h;cases d:o.e with
 |normal=>rw[d]at a;cases a
 |exit id=>rw[d]at a;cases a
 |ret=>
  rw[d]at a;cases a;exact .inr ⟨n _ w,acq m p (λ_=>Qh) Jf k i l d R q⟩
theorem Xm {id:Nat} {o:Oper} {l:List Oper} {Q:Exit->Act->List Frame->World->Prop} {a:Act} {d:List Frame} {w:World} (x:l.all kC=true) (C:o.guard=none) (r:(execOp a.eval o).run P w = .ok .recover w)
  (q:recoverD d=none) (h:Sx.wpList P (o::l).toArray (λe g t=>Q e g d t) l (a.put o.dst .nilIface) w):(Code.region id (o::l).toArray false).wpSIn (FR none) 0 P Q a d w:=by
 intro b k B f u c;have y:(o::l).toArray[0]? = some o:=by simp
 obtain⟨e,g,t,E,i⟩:=wp_opsIn (F:=FR none) (n:=0) (Q:=λe g t=>Q e g d t) (ops:=(o::l).toArray) (List.range' 1 l.length) (a.put o.dst .nilIface) w
  (by rw[wpOpsIn_eq_wpListIn l 1 (by intro j;simp[Nat.add_comm 1 j])];exact Sx.wpList_in l _ w x h) b k d f u c
 have H:Region.wanted o (yielded (o::l).toArray a.tmps)=true:=by simp[Region.wanted,C]
 have A:(lone (b.atR a (.inRegion (o::l).toArray (0::List.range' 1 l.length)::k)) d w).fenced P (FR none):=fenced_oper u c y (λ_ _=>trivial);have p:=stepGR_op (P:=P) (b:=b) (k:=k) (cs:=d) (w:=w) (rest:=List.range' 1 l.length) y H;rw[f,Oper.semAt_none]at p;have m:∀v,(b.atR a (.inRegion (o::l).toArray (0::List.range' 1 l.length)::k)).finish v=b.atR (a.put o.dst v) (.inRegion (o::l).toArray (List.range' 1 l.length)::k):=by
  intro v;rw[Frame.finish_atR,y];rfl
 have D:(b.atR a (.inRegion (o::l).toArray (0::List.range' 1 l.length)::k)).kind = .deferred:=B;have s:=tryRecover_deferred D d;have G:List.range (o::l).toArray.size=0::List.range' 1 l.length:=by simp[List.range_eq_range',List.range'_succ]
 have z:=stepR_region (P:=P) (b:=b) (a:=a) (k:=k) (cs:=d) (w:=w) (id:=id) (ops:=(o::l).toArray);rw[G]at z;refine⟨e,g,d,t,rfl,E,.of_steps (.head (fenced_calm u c Z) z (.one A (step_lone_go ?_))) i⟩
 rw[p,<-m];simp only[Frame.atR,f]at s ⊢;simp[stepG.apply,r,s,q]
theorem Ws {ch:CH} {lp:LH} (I:fN P tb) (hm:P.follows .mixedOrders=true) {f:Nat} {i:Func} {id m d:Nat} {o:Oper} {l:List Oper} {b:Code} {U:Cx} {q:PL} {a:Array Value} {w:World}
  (c:∀w0:fC noG,sX P w0 ch) (p:Ik P (fC.one w) tb lp) (X:P.funcs[f]? = some i) (V:i.body=some (.seq (.region id (o::l).toArray false) b)) (B:o.guard=none) (W:o.dst=some d) (A:d<i.ntmps)
  (u:∀ρ w,(execOp ρ o).run P w = .ok .recover w) (K:l.all (IG i.ntmps)=true) (hr:If tb i.ntmps b=true) (s:i.results = #[]) (aa:a.size<=i.ntmps)
  (h:Gc tb ch (o::l) (evC tb ch lp b m U (HL [])) l ⟨[(d,.inil)],H0⟩=some q) (J:q.e = .normal):
  CallsDIn (FR none) 0 P f a .returning w λe u' E=>∃v,e = .returned v∧u' = .returning∧NN w E:=by
 have D:l.all kC=true:=zA5.2 λo C=>(uK (zA5.1 K o C)).1;refine callsDIn_of_wpSIn X V trivial λk T M=> ?_;have r:recoverD (k::T)=none:=by simp[recoverD,M]
 refine wpSIn_seq (Xm D B (u _ _) r ?_);have F:lM (λ_=>none) i.ntmps [(d,.inil)] (({tmps:=a++Array.replicate (i.ntmps - a.size) undef,defers:=[]}:Act).put o.dst .nilIface):=by
  rw[W];refine lM.put ⟨rfl,by simp;omega,λt g B=>(by cases B)⟩ A ?_;exact .inil
 refine Hu I (c (fC.one w)) l ⟨[(d,.inil)],H0⟩ _ _ w K F (fW.start (fC.one w) Z) h λs' G S E Y L Q R=> ?_;refine wpSIn_of_wpIn Z ?_;refine Dq I hm c p b _ _ _ s' q G S E _ hr Y Q R ⟨λN x H O j n y z=> ?_,λid N x H O j n y z=> ?_,λN x H O j n y z=> ?_⟩
 ·refine⟨y.defers,k.mode,rfl,.tuple #[],?_,_,rfl,M,z.ext.ext⟩
  simp[results,s]
 ·have:=Bn j;rw[J]at this;cases this
 ·have:=OO j;rw[J]at this;cases this
theorem Kf {o:Oper} {l:List Oper} {b:Array Oper} {Q:Exit->Act->World->Prop} {a:Act} {w w':World} {v:Value} (c:o.guard=none) (d:(execOp a.eval o).run P w = .ok (.value v) w') (h:Sx.wpList P b Q l (a.put o.dst v) w'):Sx.wpList P b Q (o::l) a w:=by
 unfold Sx.wpList;rw[if_pos (by simp[Region.wanted,c])];exact .inl (by simp only[Oper.wp,d,Oper.upon];exact h)
theorem Sg {o:Oper} {l:List Oper} {b:Array Oper} {Q:Exit->Act->World->Prop} {a:Act} {w w':World} (c:o.guard=none) (d:(execOp a.eval o).run P w = .ok .skip w') (h:Sx.wpList P b Q l (a.put o.dst undef) w'):Sx.wpList P b Q (o::l) a w:=by
 unfold Sx.wpList;rw[if_pos (by simp[Region.wanted,c])];exact .inl (by simp only[Oper.wp,d,Oper.upon];exact h)
theorem Xn {o:Oper} {l:List Oper} {b:Array Oper} {Q:Exit->Act->World->Prop} {a:Act} {w:World} {f:Nat} {args:Array Value} {S:Value->World->Prop} (d:o.guard=none) (g:(execOp a.eval o).run P w = .ok (.enter f args) w)
  (c:Calls P f args w λe w'=>∃v,e = .returned v∧S v w') (h:∀v w',S v w'->Sx.wpList P b Q l (a.put o.dst v) w'):Sx.wpList P b Q (o::l) a w:=by
 unfold Sx.wpList;rw[if_pos (by simp[Region.wanted,d])];refine .inl ?_;simp only[Oper.wp,g,Oper.upon];refine c.mono ?_;rintro e w' ⟨v,rfl,i⟩;exact h v w' i
theorem afk (M:fN P tb) {c cc T1 T2 i0 i1 i2 i3 y0 y1 y2 y3 y4 y5 y6 y7:Nat} {p0 p1 p2 p3 p4 p5 p6 p7:String} {e0 e1 e2 e3 e4 e5 e6 e7:Array Edge} {z:Func} (hf:P.funcs[c]? = some z) (ag:aW P c) (ah:aW P cc)
  (hb:z.body=some (.seq (.region i0 #[⟨some 2,.alloc T1,y0,p0,e0,none⟩,⟨some 3,.alloc T2,y1,p1,e1,none⟩] false)
   (.seq (.region i1 #[⟨some 4,.makeFunc (.func cc) #[] #[.tmp 2,.tmp 3],y2,p2,e2,none⟩,⟨none,.defer ⟨.value (.tmp 4),#[],#[]⟩,y3,p3,e3,none⟩] false)
   (.seq (.region i2 #[⟨some 5,.move (.tmp 0),y4,p4,e4,none⟩,⟨some 6,.call ⟨.value (.tmp 5),#[],#[]⟩,y5,p5,e5,none⟩] false)
   (.seq (.region i3 #[⟨none,.store T1 (.tmp 2) (.const (.int .i64 0)),y6,p6,e6,none⟩,⟨none,.store T2 (.tmp 3) (.const (.int .i64 0)),y7,p7,e7,none⟩] false) .ret)))))
  (hn:z.ntmps=7) (Q:z.results = #[.cell 2 T1,.cell 3 T2])
  (aa:∀H,oK tb T1 H=some (.ptr H.n 0,H.new (.cells [yX]))) (ab:∀H,oK tb T2 H=some (.ptr H.n 0,H.new (.cells [yX])))
  (ae:∀H h c,GH.cells H h=some [c]->oA tb T1 (.ptr h 0) yX H=some (.un,H.set h (.cells [yX]))) (af:∀H h c,GH.cells H h=some [c]->oA tb T2 (.ptr h 0) yX H=some (.un,H.set h (.cells [yX])))
  (ac:∀H h,GH.cells H h=some [yX]->vN tb T1 (.ptr h 0) H=some yX) (ad:∀H h,GH.cells H h=some [yX]->vN tb T2 (.ptr h 0) H=some yX)
  (N:∀o w,o.size=2->CallsDIn (FR none) 0 P cc o .returning w λe u' l=>∃v,e = .returned v∧u' = .returning∧NN w l)
  {G:eG} {g:Nat} {k j:List Value} {w:World} {H s:GH} {c1 c2:GV} (R:fW w0 G H w) (hc:∀i l,G.le i->fW w0 i ((H.new (.cells [yX])).new (.cells [yX])) l->∃x,kP P w0 i g (k++j) l x s) (h1:s.cells H.n=some [c1]) (J:s.cells (H.n+1)=some [c2]):
  kP P w0 G c [.func (.func g) k.toArray j.toArray] w (.tup [yX,yX]) ((((s.set H.n (.cells [yX])).set (H.n+1) (.cells [yX])).del H.n).del (H.n+1)):=by
 refine .inr ⟨ag _ w,?_⟩;refine Qi (r:=none) (n:=0) (callsIn_of_wp_defers hf hb trivial ?_);rw[hn];obtain⟨b,w1,ap,aj,C,R1,U⟩:=IV (P:=P) M R (aa H);obtain⟨d,y,I,ak,p,R2,V⟩:=IV (P:=P) M R1 (ab _);obtain⟨x,hx⟩:=hc I y (eG.le_trans C p) R2;refine wpIn_seq (t_ Z ?_);refine Kf Z (v:=b) (w':=w1) (by simp[execOp,aj]) ?_;refine Kf Z (v:=d) (w':=y) (by simp[execOp,ak]) ?_;show Code.wpIn (FR none) 0 P _ _ (⟨#[.func (.func g) k.toArray j.toArray,undef,b,d,undef,undef,undef],[]⟩:Act) y;refine wpIn_seq (wpIn_region_lit ?_);refine wpListIn_plain Z λK hK=>⟨λ_ _=>trivial,?_⟩
 have hm:(Oper.semAt (FR none).round (⟨#[.func (.func g) k.toArray j.toArray,undef,b,d,undef,undef,undef],[]⟩:Act).eval ⟨some 4,.makeFunc (.func cc) #[] #[.tmp 2,.tmp 3],y2,p2,e2,none⟩).run P y = .ok (.value (.func (.func cc) #[] #[b,d])) y:=by
  rw[show(FR none).round=none from rfl,Oper.semAt_none];simp[execOp,Instr.makeFunc,Act.eval]
 rw[hm];refine hK _ _ ?_;show wpListIn _ _ _ _ _ _ (⟨#[.func (.func g) k.toArray j.toArray,undef,b,d,.func (.func cc) #[] #[b,d],undef,undef],[]⟩:Act) y;refine wpListIn_plain Z λK hK=>⟨λ_ _=>trivial,?_⟩
 have hm:(Oper.semAt (FR none).round (⟨#[.func (.func g) k.toArray j.toArray,undef,b,d,.func (.func cc) #[] #[b,d],undef,undef],[]⟩:Act).eval ⟨none,.defer ⟨.value (.tmp 4),#[],#[]⟩,y3,p3,e3,none⟩).run P y = .ok (.defer ⟨.fn (.func cc) #[b,d],#[]⟩) y:=by
  rw[show(FR none).round=none from rfl,Oper.semAt_none];simp[execOp,resolve,Act.eval,Deferred.ofValue]
 rw[hm];refine hK _ _ ?_;show Code.wpIn (FR none) 0 P _ _ (⟨#[.func (.func g) k.toArray j.toArray,undef,b,d,.func (.func cc) #[] #[b,d],undef,undef],[⟨.fn (.func cc) #[b,d],#[]⟩]⟩:Act) y;refine wpIn_seq (t_ Z ?_);refine Kf Z (v:= .func (.func g) k.toArray j.toArray) (w':=y) (by simp[execOp,Act.eval]) ?_;show Sx.wpList _ _ _ _ (⟨#[.func (.func g) k.toArray j.toArray,undef,b,d,.func (.func cc) #[] #[b,d],.func (.func g) k.toArray j.toArray,undef],[⟨.fn (.func cc) #[b,d],#[]⟩]⟩:Act) y;have go:∀v D m,I.le m->fW w0 m s D->Code.wpIn (FR none) 0 P (.seq (.region i3 #[⟨none,.store T1 (.tmp 2) (.const (.int .i64 0)),y6,p6,e6,none⟩,⟨none,.store T2 (.tmp 3) (.const (.int .i64 0)),y7,p7,e7,none⟩] false) .ret) (bodyPostDIn (FR none) 0 P z λe l=>∃v i,e = .returned v∧G.le i∧fW w0 i ((((s.set H.n (.cells [yX])).set (H.n+1) (.cells [yX])).del H.n).del (H.n+1)) l∧Rl i (.tup [yX,yX]) v) (⟨#[.func (.func g) k.toArray j.toArray,undef,b,d,.func (.func cc) #[] #[b,d],.func (.func g) k.toArray j.toArray,v],[⟨.fn (.func cc) #[b,d],#[]⟩]⟩:Act) D:=by
  intro v D m a L;have hz:∀G,Rl G yX (.int .i64 0):=λG=> .int _ _;obtain⟨_,w4,aq,al,q,R4⟩:=IW (P:=P) (T:=T1) M L ((U.le p).le a) (hz _) (ae _ _ _ h1);have Y:(s.set H.n (.cells [yX])).cells (H.n+1)=some [c2]:=by
   rw[jB]at J ⊢;rw[sY,if_neg (by omega)];exact J
  obtain⟨_,X,W,am,u,R5⟩:=IW (P:=P) (T:=T2) M R4 ((V.le a).le q) (hz _) (af _ _ _ Y);refine wpIn_seq (t_ Z ?_);refine Sg Z (w':=w4) (by simp[execOp,Act.eval,al]) ?_;refine Sg Z (w':=X) (by simp[execOp,Act.eval,Act.put,am]) ?_;refine wpIn_ret ?_;show LeavesIn (FR none) 0 P z #[.func (.func g) k.toArray j.toArray,undef,b,d,.func (.func cc) #[] #[b,d],.func (.func g) k.toArray j.toArray,v] _ [⟨.fn (.func cc) #[b,d],#[]⟩] .returning X;refine leavesIn_cons (f:=cc) (args:= #[b,d]) (by simp) (by simp[FR,Fence.wide]) (by simp[invoke,ah _ X]) (λ_ _=>trivial) ?_;refine(N #[b,d] X Z).mono ?_;rintro e u' w6 ⟨x6,rfl,rfl,O⟩;have R6:=R5.ext' O;have F:lM W 7 [(2,.ptr H.n 0),(3,.ptr (H.n+1) 0)] (⟨#[.func (.func g) k.toArray j.toArray,undef,b,d,.func (.func cc) #[] #[b,d],.func (.func g) k.toArray j.toArray,v],[]⟩:Act):=by
   refine⟨rfl,rfl,λt g B=> ?_⟩
   rw[BA]at B;by_cases J:t=2
   ·rw[if_pos J]at B;cases B;rw[J];exact(((U.le p).le a).le q).le u
   ·rw[if_neg J,BA]at B;by_cases h3:t=3
    ·rw[if_pos h3]at B;cases B;rw[h3];exact((V.le a).le q).le u
    ·rw[if_neg h3]at B;cases B
  have E:TQ tb ⟨z.results.toList,0,[]⟩ ⟨[(2,.ptr H.n 0),(3,.ptr (H.n+1) 0)],(s.set H.n (.cells [yX])).set (H.n+1) (.cells [yX])⟩=some ⟨.ret,[yX,yX],(s.set H.n (.cells [yX])).set (H.n+1) (.cells [yX])⟩:=by
   rw[Q];have q1:vN tb T1 (.ptr H.n 0) ((s.set H.n (.cells [yX])).set (H.n+1) (.cells [yX]))=some yX:=ac _ _ (by rw[jB,sY,if_neg (by omega),sY,if_pos Z]);have q2:vN tb T2 (.ptr (H.n+1) 0) ((s.set H.n (.cells [yX])).set (H.n+1) (.cells [yX]))=some yX:=ad _ _ (by rw[jB,sY,if_pos Z]);show ob (ob (vN tb T1 (.ptr H.n 0) _) λv=>ob (ob (vN tb T2 (.ptr (H.n+1) 0) _) λv=>ob (some []) λvs=>some (v::vs)) λvs=>some (v::vs)) _=_;rw[q1,q2];rfl
  obtain⟨_,v6,ao,an⟩:=HM (fn:=z) (P:=P) M Z F R6 E;exact⟨v6,an,v6,W,rfl,eG.le_trans C (eG.le_trans p (eG.le_trans a (eG.le_trans q u))),(R6.del _).del _,ao⟩
 rcases hx with⟨v,D,m,hr,a,L,_⟩|⟨hr,A⟩
 ·refine Kf Z (v:=v) (w':=D) (by simpa [execOp,resolve,Act.eval,Deferred.ofValue,invoke]using hr) ?_;exact go v D m a L
 ·refine Xn Z (f:=g) (args:=(k++j).toArray) (S:=λv l=>∃i,I.le i∧fW w0 i s l) (by simpa [execOp,resolve,Act.eval,Deferred.ofValue,invoke]using hr) (A.mono ?_) λv D ⟨m,a,L⟩=>go v D m a L;rintro e l ⟨v,i,rfl,ai,R',_⟩;exact⟨v,rfl,i,ai,R'⟩
end
noncomputable section
def Tt (n c:Nat) (a:Nat):Nat->Option Nat:=Nat.rec (motive:=λ_=>Nat->Option Nat) (λ_=>none) (λ_ b i=>Bool.casesOn (motive:=λ_=>Option Nat) (Nat.beq (Nat.mod (Nat.shiftRight n (Nat.mul 8 i)) 256) c) (b (Nat.succ i)) (some i)) a
def aln (k:IntKind):Bool:=match k with
 | .u8=>true
 |_=>false
def Zc (b:Nat) (f:Nat) (d:List GV):Option GV:=bif Nat.beq f b then List.casesOn (motive:=λ_=>Option GV) d none (λa r=>List.casesOn (motive:=λ_=>Option GV) r none λc r=>List.casesOn (motive:=λ_=>Option GV) r (ob a.asStr λs=>ob c.asI λp=>ob (asN p.2) λk=>
 bif aln p.1 then(bif Nat.blt k 256 then Option.casesOn (motive:=λ_=>Option GV) (Tt s.1 k s.2 0) (some (.int .i64 (.negSucc 0))) (λi=>some (.int .i64 (.ofNat i)))else none)else none) λ_ _=>none)else none
theorem U_ (x:List UInt8) (c:Nat) (m:c<256):∀k i,i+k=x.length->(match Tt (mG x) c k i with|none=>(-1:Int)|some j=>(j:Int))=(if Lib.indexByte (x.drop i) c.toUInt8 = -1 then -1 else Lib.indexByte (x.drop i) c.toUInt8+i)
 |0,i,h=>by
  rw[List.drop_of_length_le (by omega)];simp[Tt,Lib.indexByte]
 | k + 1, i, h => by
  have o:=U_ x c m k (i+1) (by omega);have g:i<x.length:=by omega
  have e:Tt (mG x) c (k+1) i=Bool.casesOn (motive:=λ_=>Option Nat) (Nat.beq (Nat.mod (Nat.shiftRight (mG x) (Nat.mul 8 i)) 256) c) (Tt (mG x) c k (i+1)) (some i):=rfl;rw[e,US x i g,List.drop_eq_getElem_cons g];have a:(x[i]).toNat=c↔x[i]=c.toUInt8:=by
   rw[<-UInt8.toNat_inj];have:c.toUInt8.toNat=c:=by simp[Nat.toUInt8];omega
   rw[this]
  unfold Lib.indexByte;cases d:Nat.beq (x[i]).toNat c with
  |true=>
   have:=a.1 (zA4 d);simp[this]
  | false =>
   have f:¬x[i]=c.toUInt8:=λl=>by
    have:=a.2 l;rw[this]at d;simp at d
   have n:=Lib.indexByte_ge (x.drop (i+1)) c.toUInt8;simp only[beq_iff_eq,f,if_false];rw[o];by_cases b:Lib.indexByte (x.drop (i+1)) c.toUInt8 = -1
   ·simp[b]
   ·rw[if_neg b,if_neg b,if_neg (by omega)]
    push_cast;omega
section
variable {P:Program} {gs:Ai} {w0:fC gs}
theorem acy {u:Nat} {l:Func} (F:P.funcs[u]? = some l) (e:(l.name == "runtime.NumGoroutine")=false) (D:l.body.isNone=true) (I:Extern.findNext l=none) (E:Extern.find l=some Extern.BytealgIndexByte.indexByte)
  {f:Nat} {i:List GV} {g:GV} (h:Zc u f i=some g) (q:eG) (w:World) (o:List Value) (H:GH) (R:fW w0 q H w) (m:pS q i o):kP P w0 q f o w g H:=by
 unfold Zc at h;replace h:=bP.1 h;have C:=zA4 h.1;replace h:=h.2;subst C;cases i with
 |nil=>cases h
 |cons a i=>
 cases i with
 |nil=>cases h
 |cons c i=>
 cases i with
 |cons _ _=>cases h
 |nil=>
 obtain⟨s,L,h⟩:=aF.1 (show ob a.asStr _=some g from h);obtain⟨p,J,h⟩:=aF.1 h;obtain⟨k,G,h⟩:=aF.1 h;obtain⟨x,h⟩:=bP.1 h;obtain⟨d,h⟩:=bP.1 h;obtain⟨v,o,rfl,y,m⟩:=m.of_cons;obtain⟨N,o,rfl,b,m⟩:=m.of_cons;rw[m.of_nil];rw[qJ L]at y;rw[oJ J]at b;obtain⟨S,rfl,A,M⟩:=y.str_inv;have b:=b.int_inv;subst b;have t:p.1 = .u8:=by cases K:p.1<;>rw[K]at x<;>first|rfl|cases x
 have r:p.2=(k:Int):=Ip G;have d:k<256:=by simpa using d
 refine .inl ⟨.int .i64 (Lib.indexByte S.data.toList p.2.toNat.toUInt8),w,q,?_,eG.le_refl _,R,?_⟩
 ·rw[run_callFunc_extern F e D I E,t,Lib.run_indexByteString];rfl
 ·have n:=U_ (bL S) k d s.2 0 (by omega);rw[A]at h;rw[List.drop_zero]at n;have B:Lib.indexByte S.data.toList p.2.toNat.toUInt8=(match Tt (mG (bL S)) k s.2 0 with|none=>(-1:Int)|some j=>(j:Int)):=by
   rw[n,r];have:bL S=S.data.toList:=rfl;rw[this];simp only[zAd];split
   ·assumption
   ·omega
  rw[B];cases z:Tt (mG (bL S)) k s.2 0 with
  |none=>rw[z]at h;cases h;exact .int _ _
  |some j=>rw[z]at h;cases h;exact .int _ _
end
end
noncomputable section
def afq {a:Type} (c:Nat) (d:List GV->Option a) (n:Nat):List GV->Option (List a):=Nat.rec (motive:=λ_=>List GV->Option (List a)) (λ_=>some []) (λ_ e b=>ob (d (b.take c)) λy=>ob (e (b.drop c)) λf=>some (y::f)) n
def Oj {b:Type} (H:GH) (a:Nat) (d:List GV->Option b) (v:GV):Option (List b):=ob (uD H a v) λp=>bif Nat.ble p.1 1099511627776 then afq a d p.1 p.2 else none
def dI (k:IntKind) (a:List GV):Option Int:=List.casesOn (motive:=λ_=>Option Int) a none λc r=>List.casesOn (motive:=λ_=>Option Int) r (ob c.asI λp=>bif decide (p.1=k)then some p.2 else none) λ_ _=>none
def dP {b c:Type} (n:Nat) (d:List GV->Option b) (e:List GV->Option c) (a:List GV):Option (b×c):=ob (d (a.take n)) λx=>ob (e (a.drop n)) λy=>some (x,y)
def dS {a:Type} (H:GH) (e:Nat) (d:List GV->Option a) (b:List GV):Option (List a):=List.casesOn (motive:=λ_=>Option (List a)) b none λc r=>List.casesOn (motive:=λ_=>Option (List a)) r (Oj H e d c) λ_ _=>none
end
section
variable {P:Program} {gs:Ai} {w0:fC gs} {w:World} {ρ:eG} {H:GH} {S:Nat->Prop}
def All (_:Nat):Prop:=True
def iN {b c:Type} (S:Nat->Prop) (ρ:eG) (w:World) (d:List GV->Option c) (r:eQ b) (e:b->c):Prop:=∀gs a y,pS ρ gs a->d gs=some y->gs.length=r.sz->∃z,e z=y∧r.R w S a z
theorem iN.int (k:IntKind):iN S ρ w (dI k) (eQ.int k) id:=λgs f y b h _=>by
 cases gs with
 |nil=>cases h
 |cons c gs=>
 cases gs with
 |cons _ _=>cases h
 |nil=>
 obtain⟨p,e,h⟩:=aF.1 (show ob c.asI _=some y from h);obtain⟨a,h⟩:=bP.1 h;cases h;obtain⟨v,f,rfl,d,b⟩:=b.of_cons;rw[b.of_nil];rw[oJ e]at d;rw[d.int_inv];have a:=of_decide_eq_true a;exact⟨p.2,rfl,by rw[a];rfl⟩
theorem iN.pair {q t b c:Type} {d:List GV->Option b} {e:List GV->Option c} {r:eQ q} {s:eQ t} {m:q->b} {n:t->c} (u:iN S ρ w d r m) (A:iN S ρ w e s n):iN S ρ w (dP r.sz d e) (eQ.pair r s) (λz=>(m z.1,n z.2)):=λgs l y f h p=>by
 obtain⟨x,B,h⟩:=aF.1 (show ob (d (gs.take r.sz)) _=some y from h);obtain⟨F,j,h⟩:=aF.1 h;cases h;have p:gs.length=r.sz+s.sz:=p;have E:=f.len;obtain⟨z,rfl,C⟩:=u _ (l.take r.sz) _ (by simpa using f.sub 0 r.sz) B (by simp;omega);obtain⟨D,rfl,k⟩:=A _ (l.drop r.sz) _ ⟨by simp;omega,λi g v o a=>by rw[zAu]at o a;exact f.at' _ _ _ o a⟩ j (by simp;omega);exact⟨(z,D),rfl,_,_,(List.take_append_drop r.sz l).symm,C,k⟩
theorem UQ {C D:Type} {d:List GV->Option D} {r:eQ C} {E:C->D} (F:iN S ρ w d r E) (b:Nat):∀(n:Nat) (f:List GV) (m:List Value) (a:Nat) (l:List D),afq r.sz d n f=some l->pS ρ f m->f.length=n*r.sz->(∀(j:Nat) x,m[j]? = some x->w.cell? ⟨b,a+j,none⟩=some x)->
  ∃p:List C,p.map E=l∧p.length=n∧∀(i:Nat) z,p[i]? = some z->∃q,(∀(j:Nat) e,q[j]? = some e->w.cell? ⟨b,a+(i*r.sz+j),none⟩=some e)∧r.R w S q z
 |0,f,m,a,l,h,hr,hl,hc=>by
  cases h;exact⟨[],rfl,rfl,λi z t=>by simp at t⟩
 | n + 1, f, m, a, l, h, hr, hl, hc => by
  obtain⟨y,M,h⟩:=aF.1 (show ob (d (f.take r.sz)) (λy=>ob (afq r.sz d n (f.drop r.sz)) λl=>some (y::l))=some l from h);obtain⟨B,s,h⟩:=aF.1 h;cases h;rw[Nat.succ_mul]at hl;have O:=hr.len;obtain⟨z,rfl,t⟩:=F _ (m.take r.sz) _ (by simpa using hr.sub 0 r.sz) M (by simp;omega);obtain⟨p,rfl,u,A⟩:=UQ F b n (f.drop r.sz) (m.drop r.sz) (a+r.sz) B s ⟨by simp;omega,λi g v G o=>by rw[zAu]at G o;exact hr.at' _ _ _ G o⟩ (by simp;omega) (λj x J=>by
   rw[zAu]at J;rw[Nat.add_assoc];exact hc _ _ J)
  refine⟨z::p,rfl,by simp[u],λi N c=> ?_⟩
  cases i with
  | zero =>
   simp at c;subst c;refine⟨_,λj e k=> ?_,t⟩
   rw[zAt]at k;by_cases I:j<r.sz
   ·rw[if_pos I]at k;have:=hc j e k;simpa using this
   ·rw[if_neg I]at k;cases k
  |succ i=>
   simp at c;obtain⟨q,K,L⟩:=A i N c;refine⟨q,λj e k=> ?_,L⟩
   have:=K j e k;rw[Nat.succ_mul];rw[show a+(i*r.sz+r.sz+j)=a+r.sz+(i*r.sz+j) by omega];exact this
theorem Qm (R:fW w0 ρ H w) {v:GV} {V:Value} {B:Nat} {p:Nat×List GV} (t:Rl ρ v V) (h:uD H B v=some p):
  p.2.length=p.1*B∧∃a c,V = .slice a p.1 c∧p.1<=c∧(p.1=0∨∃b i o,a=some ⟨b,i,none⟩∧w0.mine b∧pS ρ p.2 o∧∀(j:Nat) x,o[j]? = some x->w.cell? ⟨b,i+j,none⟩=some x):=by
 obtain⟨o,C⟩:=Dn R t h;refine⟨by rw[C.rel.len,C.len],?_⟩
 obtain⟨f,c,y,D,F⟩:=C.val;refine⟨f,c,y,D,?_⟩
 rcases F with⟨_,m,_⟩|⟨A,rfl,d⟩
 ·exact .inl m
 ·by_cases m:p.1=0
  ·exact .inl m
  ·refine .inr ?_;unfold uD at h;cases z:v.isSnil with
   |true=>rw[z]at h;cases h;exact absurd Z m
   | false =>
    rw[z]at h;obtain⟨s,I,h⟩:=aF.1 (show ob v.asS _=some p from h);rw[Cm I,y]at t;obtain⟨l,u,K,G,e,E,n⟩:=t.sl_inv;injection e with k M N;injection k with k;rcases n with n|⟨n,_⟩
    ·omega
    ·rw[n]at k;subst k;have r:w0.mine l.b:=by
      obtain⟨_,h⟩:=bP.1 h;obtain⟨L,q,_⟩:=aF.1 h;obtain⟨O,g,r,_⟩:=R.live _ _ (jB.1 q);rw[G]at g;cases g;exact r
     exact⟨l.b,l.off+s.2.1,o,rfl,r,C.rel,λj x J=>by have:=d j x J;rwa[eR]at this⟩
theorem Do {m n:Type} {d:List GV->Option n} {r:eQ m} {o:m->n} (R:fW w0 ρ H w) (t:∀k,w0.mine k->S k) (u:iN S ρ w d r o) {v:GV} {V:Value} {j:List n} (B:Rl ρ v V) (h:Oj H r.sz d v=some j):∃l:List m,l.map o=j∧Ic r w S V l:=by
 obtain⟨p,z,h⟩:=aF.1 (show ob (uD H r.sz v) _=some j from h);obtain⟨g,h⟩:=bP.1 h;have g:p.1<=1099511627776:=by simpa using g
 obtain⟨i,a,f,rfl,E,x⟩:=Qm R B z;rcases x with q|⟨b,e,D,rfl,y,A,c⟩
 ·rw[q]at h;cases h;exact⟨[],rfl,a,f,by rw[q];rfl,by simp,.inl Z⟩
 ·obtain⟨l,rfl,s,C⟩:=UQ u b p.1 p.2 D e j h A i c;exact⟨l,rfl,some ⟨b,e,none⟩,f,by rw[s],by rw[s];omega,.inr ⟨b,e,rfl,t b y,C⟩⟩
theorem iN.sl {e f:Type} {d:List GV->Option f} {r:eQ e} {b:e->f} (R:fW w0 ρ H w) (g:∀k,w0.mine k->S k) (i:iN S ρ w d r b):iN S ρ w (dS H r.sz d) (eQ.sl r) (λz=>z.2.map b):=λgs vs y a h n=>by
 cases gs with
 |nil=>cases h
 |cons c gs=>
 cases gs with
 |cons _ _=>cases h
 |nil=>
 have h:Oj H r.sz d c=some y:=h;obtain⟨v,vs,rfl,j,a⟩:=a.of_cons;rw[a.of_nil];obtain⟨m,rfl,l⟩:=Do R g i j h;exact⟨(v,m),rfl,rfl,l⟩
end
noncomputable section
def wC {c:Type} (e:Nat) (g:c->List GV) (a:List (List c)):GH->List GV×GH:=List.rec (motive:=λ_=>GH->List GV×GH) (λH=>([],H)) (λb _ d H=>let r:=d (H.new (.cells (b.flatMap g)));(.sl H.n 0 b.length e::r.1,r.2)) a
end
section
variable {P:Program} {gs:Ai} {w0:fC gs} {w:World} {ρ:eG} {H:GH}
def FY (ρ:eG) (H:GH) (B:Nat->Prop):Prop:=∀h o l,H.get h=some o->ρ h=some l->¬B l.b
theorem FY.mono {B b:Nat->Prop} (h:FY ρ H B) (f:∀k,b k->B k):FY ρ H b:=λa o l c d e=>h a o l c d (f _ e)
theorem FY.start (R:fW w0 ρ H w):FY ρ H (λk=>w.heap.size<=k):=λh o l b c e=>by
 obtain⟨f,a,_,d⟩:=R.live h o b;rw[c]at a;cases a;have:=d.lt;omega
theorem IB {N:Type} {e:dD N} {d:List N} {cs:List GV} {v:Value} {B F:Nat->Prop} (R:fW w0 ρ H w) (A:FY ρ H B) (U:∀k,B k->w0.mine k) (s:∀k,F k->B k) (V:Eg e w F v d) (E:d≠[]) (t:pS ρ cs (cellsOf e d)):
  ∃f,ρ.le f∧fW w0 f (H.new (.cells cs)) w∧Rl f (.sl H.n 0 d.length e.sz) v∧FY f (H.new (.cells cs)) (λk=>B k∧¬F k):=by
 obtain⟨_,y,W⟩:=V;rcases W with⟨_,S⟩|⟨b,p,r,T,c,rfl,C,I,D,G,a⟩
 ·exact absurd S E
 have M:(cellsOf e d).length=d.length*e.sz:=by
  rw[<-a];simp;have:d.length*e.sz<=r*e.sz:=zB7 _ D;omega
 have u:ρ.le (ρ.upd H.n ⟨b,p,c.size,.cells c T (0,0),.cells cs⟩):=zD (R.fresh _ (zAf _));have J:d.length*e.sz<=r*e.sz:=zB7 _ D;obtain⟨_,O⟩:=R.new (o:= .cells cs) (l:=⟨b,p,c.size,.cells c T (0,0),.cells cs⟩) R.ext (λh o' Y j m=>⟨rfl,λQ=>A h o' Y j m (by rw[Q];exact s _ C)⟩) (U _ (s _ C)) ⟨c,T,I,rfl,by
   show p+cs.length<=c.size;have:=t.len;omega,λi g j=>by
   obtain⟨x,q,X⟩:=t.get j;refine⟨x,?_,X.le u,zA5.1 y x (zAl q)⟩
   rw[<-a,zAt]at q;by_cases K:i<d.length*e.sz
   ·rw[if_pos K,zAu,zAj]at q;exact q
   ·rw[if_neg K]at q;cases q⟩ I
 refine⟨_,u,O,.sl (by simp[eG.upd];rfl) D (.inr ⟨rfl,G⟩),λh o l j m L=> ?_⟩
 rw[rC]at j;by_cases z:h=H.n
 ·rw[z]at m;simp[eG.upd]at m;subst m;exact L.2 C
 ·rw[if_neg z]at j;simp only[eG.upd,if_neg z]at m;exact A h o l j m L.1
theorem On {b:Type} {e:dD b} {g:b->List GV} (c:∀x,pS ρ (g x) (e.enc x)):∀a:List b,pS ρ (a.flatMap g) (cellsOf e a)
 | []=> .nil
 |x::a=>(c x).append (On c a)
theorem Lb {o:Type} {e:dD o} {g:o->List GV} (r:∀ρ x,pS ρ (g x) (e.enc x)):∀(a:List (List o)) (vs:List Value) (G:Nat->Nat->Prop) (B:Nat->Prop) (ρ:eG) (H:GH),fW w0 ρ H w->FY ρ H B->(∀k,B k->w0.mine k)->vs.length=a.length->
  (∀xs∈a,xs≠[])->(∀i v xs,vs[i]? = some v->a[i]? = some xs->Eg e w (G i) v xs)->(∀i k,G i k->B k)->(∀i j k,G i k->G j k->i=j)->
  ∃c,ρ.le c∧fW w0 c (wC e.sz g a H).2 w∧pS c (wC e.sz g a H).1 vs∧FY c (wC e.sz g a H).2 (λk=>B k∧∀i,¬G i k)
 | [],vs,G,B,ρ,H,R,A,hB,hl,_,h1,h2,h3=>by
  have:vs=[]:=zAn hl;subst this;exact⟨ρ,eG.le_refl _,R,.nil,A.mono λk b=>b.1⟩
 |xs::a,[],G,B,ρ,H,R,A,hB,hl,_,h1,h2,h3=>by simp at hl
 |xs::a,v::vs,G,B,ρ,H,R,A,hB,hl,hne,h1,h2,h3=>by
  obtain⟨p,f,u,F,s⟩:=IB R A hB (h2 0) (h1 0 v xs Z Z) (hne xs (by simp)) (On (r ρ) xs);obtain⟨q,d,z,l,t⟩:=Lb r a vs (λi=>G (i+1)) _ p _ u s (λk b=>hB k b.1) (by simpa using hl) (λy I=>hne y (by simp[I])) (λi J n h m=>h1 (i+1) J n (by simpa using h) (by simpa using m)) (λi k b=>⟨h2 _ k b,λC=>by have:=h3 _ _ k b C;omega⟩) (λi j k D E=>by have:=h3 _ _ k D E;omega);refine⟨q,eG.le_trans f d,z,.cons (F.le d) l,t.mono λk b=>⟨⟨b.1,b.2 0⟩,λi=>b.2 (i+1)⟩⟩
theorem Nn:∀vs:List Value,cellsOf dD.raw vs=vs
 | []=>rfl
 |v::vs=>by show v::cellsOf dD.raw vs=_;rw[Nn vs]
end
section
variable {P:Program} {gs:Ai} {w0:fC gs} {w:World} {ρ:eG} {H:GH}
theorem Dv {f:Nat} {a:List Value} {L:List bE} {V:Value} {g:GV} (c:aW P f) (d:aY P f a.toArray L (λ_:Unit=>V) (λ_ l=>l) (λ_ l=>l)) (R:fW w0 ρ H w) (b:∀h∈L,h.p w All) (i:∀ρ,Rl ρ g V):kP P w0 ρ f a w g H:=by
 refine .inr ⟨c _ w,(d w All b).mono ?_⟩;rintro e j ⟨_,rfl,t⟩;exact⟨V,ρ,rfl,eG.le_refl _,R.ext' t.old.ext,i _⟩
theorem Ts {V W:Type} {e:dD V} {g:V->List GV} {q:dD W} {s:W->List GV} (hg:∀ρ x,pS ρ (g x) (e.enc x)) (I:∀ρ x,pS ρ (s x) (q.enc x)) {f:Nat} {S:List Value} {L:List bE} {r:List V×List (List W)} (C:r.1≠[]) (D:r.2≠[]) (h3:∀U∈r.2,U≠[]) (hb:aW P f)
  (hm:aY P f S.toArray L (λx:Value×Value×List Value=>Value.agg #[x.1,x.2.1]) (λx l=>Ar e x.1 r.1::Ar dD.raw x.2.1 x.2.2::lK q x.2.2 r.2::l) (λ_ l=>l)) (R:fW w0 ρ H w) (hL:∀h∈L,h.p w All):
  kP P w0 ρ f S w (.agg [.sl H.n 0 r.1.length e.sz,.sl (wC q.sz s r.2 (H.new (.cells (r.1.flatMap g)))).2.n 0 r.2.length 1]) ((wC q.sz s r.2 (H.new (.cells (r.1.flatMap g)))).2.new (.cells (wC q.sz s r.2 (H.new (.cells (r.1.flatMap g)))).1)):=by
 refine .inr ⟨hb _ w,(hm w All hL).mono ?_⟩;rintro en A ⟨x,rfl,t⟩;obtain⟨F,O,_⟩:=t.own;have q0:Eg _ A (F 0) x.1 r.1:=O.res 0 _ Z;have q1:Eg dD.raw A (F 1) x.2.1 x.2.2:=O.res 1 _ Z;obtain⟨z,G,q2,Q,q4⟩:(lK q x.2.2 r.2).p A (F 2):=O.res 2 _ Z;have R':=R.ext' t.old.ext;have E:∀i k,F i k->w.heap.size<=k:=λi k c=>by
  rcases(O.rng i k c).1 with h|h
  ·exact h
  exact h.elim
 obtain⟨X,y,R1,K,A1⟩:=IB (B:=λk=>w.heap.size<=k) R' (λa o l C D=>FY.start R a o l C D) (λk c=> .inl (zB5 R.ext.size c)) (E 0) q0 C (On (hg ρ) r.1);obtain⟨ad,j,R2,M,A2⟩:=Lb I r.2 x.2.2 G _ X _ R1 A1 (λk c=> .inl (zB5 R.ext.size c.1)) z h3 q2 (λi k c=>⟨E _ _ (Q i k c),λu=>by have:=O.dis _ _ k (Q i k c) u;omega⟩) q4;have J:x.2.2≠[]:=λu=>by rw[u]at z;exact D (zAn z.symm)
 obtain⟨Y,m,R3,N,_⟩:=IB (cs:=(wC q.sz s r.2 (H.new (.cells (r.1.flatMap g)))).1) (F:=F 1) R2 A2 (λk c=> .inl (zB5 R.ext.size c.1.1)) (λk c=>⟨⟨E _ _ c,λu=>by have:=O.dis _ _ k c u;omega⟩,λi hi=>by have:=O.dis _ _ k c (Q i k hi);omega⟩) q1 J (by rw[Nn];exact M);refine⟨_,Y,rfl,eG.le_trans y (eG.le_trans j m),R3,?_⟩
 refine Hf (vs:=[x.1,x.2.1]) (.cons ((K.le j).le m) (.cons (by rw[<-z];exact N) .nil)) λv hv=>?_;have d:∀{γ:Type} {e:dD γ} {F:Nat->Prop} {v:Value} {U:List γ},Eg e A F v U->one v=true:=λh=>by
  obtain⟨_,_,h⟩:=h;rcases h with⟨rfl,_⟩|⟨b,ac,aa,T,ab,rfl,_⟩<;>rfl
 simp at hv;rcases hv with rfl|rfl
 ·exact d q0
 exact d q1
end
noncomputable section
def MS (H:GH) (v:GV):Option (List Int):=Oj H 1 (dI .i64) v
def YF (H:GH) (v:GV):Option (List (List (Int×Int))):=Oj H 1 (dS H 2 (dP 1 (dI .i64) (dI .i64))) v
def adI (H:GH) (v:GV):Option (List (List Int)):=Oj H 1 (dS H 1 (dI .i64)) v
def Te (H:GH) (v:GV):Option (List Int×List (List (Int×Int))):=ob v.asA λc=>List.casesOn (motive:=λ_=>Option (List Int×List (List (Int×Int)))) c none λa r=>List.casesOn (motive:=λ_=>Option (List Int×List (List (Int×Int)))) r none λb r=>List.casesOn (motive:=λ_=>Option (List Int×List (List (Int×Int)))) r (ob (MS H a) λx=>ob (YF H b) λy=>some (x,y)) λ_ _=>none
end
section
variable {P:Program} {gs:Ai} {w0:fC gs} {w:World} {ρ:eG} {H:GH}
theorem Hs (R:fW w0 ρ H w) {v:GV} {V:Value} {a:List Int} (b:Rl ρ v V) (h:MS H v=some a):(Sl (eQ.int .i64) V a).p w All:=by
 obtain⟨d,rfl,c⟩:=Do R (λ_ _=>trivial) (iN.int .i64) b h;rw[List.map_id];exact c
theorem YE (R:fW w0 ρ H w) {v:GV} {V:Value} {b:List (List Int)} (c:Rl ρ v V) (h:adI H v=some b):∃a,(S2 (eQ.int .i64) V a b).p w All:=by
 obtain⟨a,rfl,d⟩:=Do R (λ_ _=>trivial) (iN.sl R (λ_ _=>trivial) (iN.int .i64)) c h;exact⟨a,d,by simp⟩
theorem Wy (R:fW w0 ρ H w) {v:GV} {V:Value} {b:List (List (Int×Int))} (c:Rl ρ v V) (h:YF H v=some b):∃a,(S2 (eQ.pair (eQ.int .i64) (eQ.int .i64)) V a b).p w All:=by
 obtain⟨a,rfl,d⟩:=Do R (λ_ _=>trivial) (iN.sl R (λ_ _=>trivial) (iN.pair (iN.int .i64) (iN.int .i64))) c h;exact⟨a,d,by simp⟩
theorem MR (R:fW w0 ρ H w) {v:GV} {V:Value} {p:List Int×List (List (Int×Int))} (j:Rl ρ v V) (h:Te H v=some p):∃e f i,V = .agg #[e,f]∧(Sl (eQ.int .i64) e p.1).p w All∧(S2 (eQ.pair (eQ.int .i64) (eQ.int .i64)) f i p.2).p w All:=by
 obtain⟨c,g,h⟩:=aF.1 (show ob v.asA _=some p from h);rw[KA g]at j;obtain⟨k,rfl,d,_⟩:=j.agg_inv;cases c with
 |nil=>cases h
 |cons a c=>
 cases c with
 |nil=>cases h
 |cons b c=>
 cases c with
 |cons _ _=>cases h
 |nil=>
 obtain⟨x,n,h⟩:=aF.1 (show ob (MS H a) _=some p from h);obtain⟨y,o,h⟩:=aF.1 h;cases h;obtain⟨e,k,rfl,l,d⟩:=d.of_cons;obtain⟨f,k,rfl,m,d⟩:=d.of_cons;rw[d.of_nil];obtain⟨i,q⟩:=Wy R m o;exact⟨e,f,i,rfl,Hs R l n,q⟩
end
end Go.Gx