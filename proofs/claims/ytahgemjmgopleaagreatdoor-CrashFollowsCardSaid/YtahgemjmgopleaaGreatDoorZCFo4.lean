/- Models and proofs. Conditions: none. -/
import Derived.Test.YtahgemjmgopleaaGreatDoorZCFo3
import Derived.Test.YtahgemjmgopleaaGreatDoorZCFo1
import Derived.RecoverIn
import Derived.DefersIn
import Derived.Lib.Bytealg
set_option linter.unusedVariables false
set_option linter.unusedSimpArgs false
set_option maxHeartbeats 4000000
set_option maxRecDepth 20000
namespace Go.Gx
open Go Go.Sx Go.RowKit
section
variable {R α:Type}
theorem Bv (r:OR) (k:GV->GH->Option R):gU r k=gU (gU r Kt) k:=by
 cases r with
 |none=>rfl
 |some p=>rfl
theorem eQ (x:Option α) {f:α->Option R} {g:α->OR} {k:GV->GH->Option R} (h:∀a,f a=gU (g a) k):ob x f=gU (ob x g) k:=by
 cases x with
 |none=>rfl
 |some a=>exact h a
theorem acK {n:TB} {s:CH} {d:GF} {H:GH} (o:Op) (k:GV->GH->Option R):Rk n s o d H k=gU (Rk n s o d H Kt) k:=by
 have e:∀x (f:GV->Option GV),k1 x f d H k=gU (k1 x f d H Kt) k:=λx f=>eQ _ λx=>eQ _ λv=>eQ _ λg=>rfl;have j:∀x y (f:GV->GV->Option GV),k2 x y f d H k=gU (k2 x y f d H Kt) k:=λx y f=>eQ _ λx=>eQ _ λv=>eQ _ λu=>eQ _ λg=>rfl;have B:∀x y z (f:GV->GV->GV->Option GV),k3 x y z f d H k=gU (k3 x y z f d H Kt) k:=λx y z f=>eQ _ λx=>eQ _ λv=>eQ _ λu=>eQ _ λt=>eQ _ λg=>rfl;cases o with
 |move x=>exact eQ _ λv=>rfl
 |assign x=>exact eQ _ λv=>rfl
 |pick c x y=>exact B _ _ _ _
 |alloc T=>exact Bv _ _
 |box T x=>exact eQ _ λv=>Bv _ _
 |build T G=>exact eQ _ λJ=>eQ _ λg=>rfl
 |buildSlice T m G=>exact eQ _ λx=>Bv _ _
 |load T x=>exact eQ _ λv=>eQ _ λg=>rfl
 |store T x y=>exact eQ _ λv=>eQ _ λu=>Bv _ _
 |nilCheck x=>exact e _ _
 |binOp F T x y A=>exact j _ _ _
 |unOp F T x=>exact e _ _
 |convert S D x=>exact e _ _
 |makeFunc C first r=>
  cases C with
  |func f=>exact eQ _ λI=>eQ _ λJ=>rfl
  |_=>rfl
 |makeMap T q=>
  cases q with
  |none=>exact Bv _ _
  |some x=>rfl
 |makeSlice T x y=>exact eQ _ λv=>eQ _ λu=>Bv _ _
 |slice T x L K E=>
  cases E with
  |none=>exact eQ _ λv=>eQ _ λl=>eQ _ λh=>eQ _ λg=>rfl
  |some y=>rfl
 |fieldAddr T x f=>exact e _ _
 |field T x f=>exact e _ _
 |indexAddr T x y=>exact j _ _ _
 |index T x y=>exact j _ _ _
 |lookup T x y M=>exact eQ _ λv=>eQ _ λu=>eQ _ λg=>rfl
 |mapUpdate T x y z=>exact eQ _ λv=>eQ _ λu=>eQ _ λt=>Bv _ _
 |extract x i=>exact e _ _
 | call c =>
  obtain⟨p,a,w⟩:=c;cases p with
  |value f=>exact eQ _ λv=>eQ _ λg=>eQ _ λI=>Bv _ _
  |invoke x m=>rfl
  | builtin b =>
   show UD n a w b d H k=gU (UD n a w b d H Kt) k;obtain⟨a⟩:=a;cases b with
   |len=>
    match a with
    | []=>rfl
    | [x]=>exact eQ _ λT=>eQ _ λv=>eQ _ λg=>rfl
    |_::_::_=>rfl
   |max=>
    match a with
    | []=>rfl
    | [x]=>rfl
    | [x,y]=>exact j _ _ _
    |_::_::_::_=>rfl
   |min=>
    match a with
    | []=>rfl
    | [x]=>rfl
    | [x,y]=>exact j _ _ _
    |_::_::_::_=>rfl
   |append=>
    match a with
    | []=>rfl
    | [x]=>rfl
    | [x,y]=>exact eQ _ λT=>eQ _ λA=>eQ _ λv=>eQ _ λu=>Bv _ _
    |_::_::_::_=>rfl
   |copy=>
    match a with
    | []=>rfl
    | [x]=>rfl
    | [x,y]=>exact eQ _ λT=>eQ _ λv=>eQ _ λu=>Bv _ _
    |_::_::_::_=>rfl
   |cap=>
    match a with
    | []=>rfl
    | [x]=>exact eQ _ λT=>eQ _ λv=>eQ _ λg=>rfl
    |_::_::_=>rfl
   |_=>rfl
 |_=>rfl
theorem Ff {b a:GF}:∀{xs:List Operand},(∀x∈xs,lB b x=lB a x)->Iz b xs=Iz a xs
 | [],_=>rfl
 |x::xs,h=>by
  show ob (lB b x) (λv=>ob (Iz b xs) λc=>some (v::c))=ob (lB a x) (λv=>ob (Iz a xs) λc=>some (v::c));rw[h x zAb,Ff λy d=>h y (zAf _ d)]
theorem Fg {b a:GF}:∀{xs:List (Nat×Operand)},(∀x∈xs,lB b x.2=lB a x.2)->wN b xs=wN a xs
 | [],_=>rfl
 |x::xs,h=>by
  show ob (lB b x.2) (λv=>ob (wN b xs) λc=>some ((x.1,v)::c))=ob (lB a x.2) (λv=>ob (wN a xs) λc=>some ((x.1,v)::c));rw[h x zAb,Fg λy d=>h y (zAf _ d)]
theorem MR {b a:GF} {o:Option Operand} (h:∀x∈o.toArray,lB b x=lB a x):Kl b o=Kl a o:=by
 cases o with
 |none=>rfl
 |some x=>
  show ob (lB b x) (λv=>some (some v))=ob (lB a x) (λv=>some (some v));rw[h x (by simp)]
theorem Xk {n:TB} {G:CH} {j a:GF} {H:GH} {o:Op} {k:GV->GH->Option R} (h:∀x∈o.operands,lB j x=lB a x):Rk n G o j H k=Rk n G o a H k:=by
 have s:∀x (f:GV->Option GV),lB j x=lB a x->k1 x f j H k=k1 x f a H k:=λx f e=>by simp only[k1,ob,e]
 have t:∀x y (f:GV->GV->Option GV),lB j x=lB a x->lB j y=lB a y->k2 x y f j H k=k2 x y f a H k:=λx y f e w=>by simp only[k2,ob,e,w]
 have J:∀x y z (f:GV->GV->GV->Option GV),lB j x=lB a x->lB j y=lB a y->lB j z=lB a z->k3 x y z f j H k=k3 x y z f a H k:=λx y z f e w A=>by simp only[k3,ob,e,w,A]
 cases o with
 |move x=>show KZ x j H k=KZ x a H k;simp only[KZ,ob,h x (by simp[Op.operands])]
 |assign x=>show KZ x j H k=KZ x a H k;simp only[KZ,ob,h x (by simp[Op.operands])]
 |pick c x y=>exact J _ _ _ _ (h _ (by simp[Op.operands])) (h _ (by simp[Op.operands])) (h _ (by simp[Op.operands]))
 |alloc T=>rfl
 |box T x=>show acX x j H k=acX x a H k;simp only[acX,ob,h x (by simp[Op.operands])]
 | build T ps =>
  show ob (wN j ps.toList) _=ob (wN a ps.toList) _;rw[Fg λx d=>h x.2 (by
   have:x∈ps:=by simpa using d
   simp only[Op.operands,List.mem_toArray,zB4];exact⟨x,d,rfl⟩)]
 | buildSlice T m ps =>
  show ob (wN j ps.toList) _=ob (wN a ps.toList) _;rw[Fg λx d=>h x.2 (by
   simp only[Op.operands,List.mem_toArray,zB4];exact⟨x,d,rfl⟩)]
 |load T x=>show VI n T x j H k=VI n T x a H k;simp only[VI,ob,h x (by simp[Op.operands])]
 |store T x y=>show Qs n T x y j H k=Qs n T x y a H k;simp only[Qs,ob,h x (by simp[Op.operands]),h y (by simp[Op.operands])]
 |nilCheck x=>exact s _ _ (h _ (by simp[Op.operands]))
 |binOp L T x y M=>exact t _ _ _ (h _ (by simp[Op.operands])) (h _ (by simp[Op.operands]))
 |unOp L T x=>exact s _ _ (h _ (by simp[Op.operands]))
 |convert S D x=>exact s _ _ (h _ (by simp[Op.operands]))
 | makeFunc fn first caps =>
  cases fn with
  | func f =>
   show ob (Iz j first.toList) _=ob (Iz a first.toList) _;rw[Ff λx d=>h x (by simp only[Op.operands,Array.mem_append];exact .inl (by simpa using d)),
    Ff (xs:=caps.toList) λx d=>h x (by simp only[Op.operands,Array.mem_append];exact .inr (by simpa using d))]
  |_=>rfl
 |makeMap T q=>
  cases q with
  |none=>rfl
  |some x=>rfl
 |makeSlice T x y=>show VK n T x y j H k=VK n T x y a H k;simp only[VK,ob,h x (by simp[Op.operands]),h y (by simp[Op.operands])]
 | slice T x lo hi mx =>
  cases mx with
  |none=>
   show ob (some x) (λx=>ob (lB j x) λv=>ob (Kl j lo) λl=>ob (Kl j hi) λh=>ob (Cs n T v l h H) λg=>k g H)=ob (some x) (λx=>ob (lB a x) λv=>ob (Kl a lo) λl=>ob (Kl a hi) λh=>ob (Cs n T v l h H) λg=>k g H);have C:Kl j lo=Kl a lo:=MR λy F=>h y (by simp only[Op.operands,Array.mem_append];exact .inl (.inl (.inr F)));have B:Kl j hi=Kl a hi:=MR λy F=>h y (by simp only[Op.operands,Array.mem_append];exact .inl (.inr F));have d:lB j x=lB a x:=h x (by simp only[Op.operands,Array.mem_append];exact .inl (.inl (.inl (by simp))));simp only[ob,C,B,d]
  |some y=>rfl
 |fieldAddr T x f=>exact s _ _ (h _ (by simp[Op.operands]))
 |field T x f=>exact s _ _ (h _ (by simp[Op.operands]))
 |indexAddr T x y=>exact t _ _ _ (h _ (by simp[Op.operands])) (h _ (by simp[Op.operands]))
 |index T x y=>exact t _ _ _ (h _ (by simp[Op.operands])) (h _ (by simp[Op.operands]))
 |lookup T x y I=>show VJ n T x y I j H k=VJ n T x y I a H k;simp only[VJ,ob,h x (by simp[Op.operands]),h y (by simp[Op.operands])]
 |mapUpdate T x y z=>show Qr n T x y z j H k=Qr n T x y z a H k;simp only[Qr,ob,h x (by simp[Op.operands]),h y (by simp[Op.operands]),h z (by simp[Op.operands])]
 |extract x i=>exact s _ _ (h _ (by simp[Op.operands]))
 | call c =>
  obtain⟨u,p,r⟩:=c;cases u with
  |value f=>
   have K:lB j f=lB a f:=h f (by simp[Op.operands,Call.operands]);have E:Iz j p.toList=Iz a p.toList:=Ff λx d=>h x (by simp[Op.operands,Call.operands];exact .inr (by simpa using d));show ob (lB j f) _=ob (lB a f) _;simp only[ob,K,E]
  |invoke x m=>rfl
  | builtin b =>
   show UD n p r b j H k=UD n p r b a H k;have d:∀x∈p,lB j x=lB a x:=λx d=>h x (by simp[Op.operands,Call.operands];exact d);obtain⟨p⟩:=p;cases b with
   |len=>
    match p,d with
    | [],_=>rfl
    | [x],d=>show Xq n r.toList x j H k=Xq n r.toList x a H k;simp only[Xq,ob,d x (by simp)]
    |_::_::_,_=>rfl
   |max=>
    match p,d with
    | [],_=>rfl
    | [x],_=>rfl
    | [x,y],d=>exact t _ _ _ (d _ (by simp)) (d _ (by simp))
    |_::_::_::_,_=>rfl
   |min=>
    match p,d with
    | [],_=>rfl
    | [x],_=>rfl
    | [x,y],d=>exact t _ _ _ (d _ (by simp)) (d _ (by simp))
    |_::_::_::_,_=>rfl
   |append=>
    match p,d with
    | [],_=>rfl
    | [x],_=>rfl
    | [x,y],d=>show ZK n r.toList x y j H k=ZK n r.toList x y a H k;simp only[ZK,ob,d x (by simp),d y (by simp)]
    |_::_::_::_,_=>rfl
   |copy=>
    match p,d with
    | [],_=>rfl
    | [x],_=>rfl
    | [x,y],d=>show Su n r.toList x y j H k=Su n r.toList x y a H k;simp only[Su,ob,d x (by simp),d y (by simp)]
    |_::_::_::_,_=>rfl
   |cap=>
    match p,d with
    | [],_=>rfl
    | [x],d=>show Xp n r.toList x j H k=Xp n r.toList x a H k;simp only[Xp,ob,d x (by simp)]
    |_::_::_,_=>rfl
   |_=>rfl
 |_=>rfl
end
noncomputable def HF (c:TB) (b:CH) (all:List Oper) (o:Oper) (a:GF) (H:GH):OR:=Option.casesOn (motive:=λ_=>OR) o.guard (Rk c b o.op a H Kt) λg=>ob (JX all g.1) λe=>ob e.dst λd=>ob (HG a d) λv=>evG c b o ⟨a,H⟩ g.2 v
theorem acB {b:TB} {a:CH} {all:List Oper} {o:Oper} {k:GS->RS} {s:GS}:MK b a all o k s=gU (HF b a all o s.σ s.H) (opK o.dst s k):=by
 unfold MK HF;cases o.guard with
 |none=>exact acK _ _
 |some g=>exact eQ _ λd=>eQ _ λc=>eQ _ λv=>rfl
theorem Hj {d:TB} {c:CH} {all:List Oper} {o:Oper} {k:GS->RS} {s:GS} {a:RE} (h:MK d c all o k s=some a):∃g b,HF d c all o s.σ s.H=some (g,b)∧k ⟨putD o.dst g s.σ,b⟩=some a:=by
 rw[acB]at h;obtain⟨g,b,e,f⟩:=nX h;exact⟨g,b,e,f⟩
theorem Un {c:TB} {b:CH} {all:List Oper} {o:Oper} {d a:GF} {H:GH} (h:∀t∈o.looksAt all.toArray,HG d t=HG a t):HF c b all o d H=HF c b all o a H:=by
 have e:Rk c b o.op d H Kt=Rk c b o.op a H Kt:=Xk λx l=>by
  cases x with
  |tmp t=>exact h t (List.mem_append_left _ (List.mem_filterMap.2 ⟨.tmp t,by simpa using l,rfl⟩))
  |_=>rfl
 unfold HF;cases j:o.guard with
 |none=>exact e
 | some g =>
  show ob (JX all g.1) _=ob (JX all g.1) _;cases f:JX all g.1 with
  |none=>rfl
  | some oj =>
   show ob oj.dst _=ob oj.dst _;cases i:oj.dst with
   |none=>rfl
   | some dj =>
    have k:dj∈o.looksAt all.toArray:=by
     rw[wP]at f;simp[Oper.looksAt,j,f,i]
    show ob (HG d dj) (λv=>evG c b o ⟨d,H⟩ g.2 v)=ob (HG a dj) (λv=>evG c b o ⟨a,H⟩ g.2 v);rw[h dj k];cases HG a dj with
    |none=>rfl
    | some v =>
     show evG c b o ⟨d,H⟩ g.2 v=evG c b o ⟨a,H⟩ g.2 v;cases v with
     |bool q=>
      show Bool.casesOn (motive:=λ_=>OR) (VD q g.2) (some (.un,H)) (Rk c b o.op d H Kt)=Bool.casesOn (motive:=λ_=>OR) (VD q g.2) (some (.un,H)) (Rk c b o.op a H Kt);rw[e]
     |_=>rfl
section
variable {P:Program} {tb:TB} {gs:BV} {w0:fR gs}
theorem Hi {u:CH} {all:List Oper} {n:Nat} {o:Oper} {r:GF} {H k:GH} {g:GV} {ρ:fC} {a:Act} (F:lP ρ n r a) (h:HF tb u all o r H=some (g,k)):
  (Region.wanted o (yielded all.toArray a.tmps)=true∧Rk tb u o.op r H Kt=some (g,k))∨(Region.wanted o (yielded all.toArray a.tmps)=false∧g = .un∧k=H):=by
 unfold HF at h;cases l:o.guard with
 |none=>
  rw[l]at h;exact .inl ⟨by simp[Region.wanted,l],h⟩
 | some gd =>
  rw[l]at h;obtain⟨A,m,h⟩:=aF.1 (show ob (JX all gd.1) _=some (g,k)from h);obtain⟨i,s,h⟩:=aF.1 h;obtain⟨v,y,j⟩:=aF.1 h;have e:=F.slot i v y;rw[wP]at m;have t:yielded all.toArray a.tmps gd.1=(match a.tmps[i]? with|some (.bool b)=>some b|_=>none):=by
   unfold yielded;have:(all.toArray[gd.1]?).bind (·.dst)=some i:=by simp[m,s]
   rw[this];rfl
  cases v with
  | bool q =>
   have d:=e.bool_inv;have x:a.tmps[i]? = some (.bool q):=by
    simp only[Act.eval,Array.getD_eq_getD_getElem?]at d;cases p:a.tmps[i]? with
    |none=>rw[p]at d;cases d
    |some z=>rw[p]at d;simp at d;rw[d]
   rw[x]at t;have c:Bool.casesOn (motive:=λ_=>OR) (VD q gd.2) (some (.un,H)) (Rk tb u o.op r H Kt)=some (g,k):=j;rw[Ix]at c;have w:Region.wanted o (yielded all.toArray a.tmps)=(q==gd.2):=by
    simp only[Region.wanted,l];rw[t];cases q<;>cases gd.2<;>rfl
   cases f:(q==gd.2)with
   |true=>rw[f]at c;exact .inl ⟨by rw[w,f],c⟩
   |false=>rw[f]at c;cases c;exact .inr ⟨by rw[w,f],rfl,rfl⟩
  | un =>
   have d:=e.un_inv;cases j;refine .inr ⟨?_,rfl,rfl⟩;simp only[Region.wanted,l];rw[t];have:(match a.tmps[i]? with|some (.bool b)=>some b|_=>none)=(none:Option Bool):=by
    simp only[Act.eval,Array.getD_eq_getD_getElem?]at d;cases p:a.tmps[i]? with
    |none=>rfl
    |some z=>rw[p]at d;simp at d;rw[d];rfl
   rw[this];rfl
  |_=>cases j
theorem LP {f:CH} (k:gG P tb) (c:tZ P w0 f) {all:List Oper} {n:Nat} {o:Oper} {e:GF} {H b:GH} {g:GV} {d:fC} {a:Act} {w:World} (p:Ks n o=true) (F:lP d n e a) (R:gH w0 d H w) (h:HF tb f all o e H=some (g,b)):
  (Region.wanted o (yielded all.toArray a.tmps)=true∧Es P w0 d e a w o g H b)∨(Region.wanted o (yielded all.toArray a.tmps)=false∧g = .un∧b=H):=by
 obtain⟨_,_,j⟩:=vY p;rcases Hi F h with⟨r,l⟩|h
 ·obtain⟨s,i,m,q⟩:=Uw k c F R j l;cases m;exact .inl ⟨r,q⟩
 ·exact .inr h
def aaA (tb:TB) (T:TypeId):Bool:=match tb T with
 |some t=>(match t.desc with|.array .. => false|_=>true)
 |none=>false
def pureOp (tb:TB):Op->Bool
 | .move _ | .assign _ | .pick .. | .build .. | .nilCheck _ | .binOp .. | .unOp .. | .convert .. | .makeFunc .. | .fieldAddr .. | .field .. | .indexAddr .. | .index .. | .extract .. => true
 | .slice T _ _ _ _=>aaA tb T
 | .call ⟨.builtin .len,_,_⟩ | .call ⟨.builtin .max,_,_⟩ | .call ⟨.builtin .min,_,_⟩=>true
 |_=>false
def isFloat:Op->Bool
 | .buildSlice .. | .alloc .. | .box .. => true
 |_=>false
theorem iM {b:fC} {g:GV} {s:Sem Value} {a:Act} {o:Oper} (h:EP P b s g) (c:∀w v,s.run P w = .ok v w->(execOp a.eval o).run P w = .ok (.value v) w):∃v,Rl b g v∧∀w,(execOp a.eval o).run P w = .ok (.value v) w:=
 let ⟨v,hv,hr⟩:=h;⟨v,hv,λw=>c w v (hr w)⟩
theorem ZE {ih:CH} (E:gG P tb) {ρ:fC} {n:Nat} {s:GF} {a:Act} (F:lP ρ n s a) {o:Oper} {H r:GH} {g:GV} (R:pureOp tb o.op=true) (aa:Nj o.op=true) (h:Rk tb ih o.op s H Kt=some (g,r)):
  r=H∧∃v,Rl ρ g v∧∀w,(execOp a.eval o).run P w = .ok (.value v) w:=by
 obtain⟨d,W,J,ad,ac,gd⟩:=o;cases W with
 |move x=>
  obtain⟨v,q,h⟩:=aF.1 (show ob (lB s x) _=some (g,r)from h);cases h;exact⟨rfl,_,dA F q,λw=>by simp[execOp]⟩
 |assign x=>
  obtain⟨v,q,h⟩:=aF.1 (show ob (lB s x) _=some (g,r)from h);cases h;exact⟨rfl,_,dA F q,λw=>by simp[execOp]⟩
 |pick c x y=>
  obtain⟨v,q,h⟩:=aF.1 (show ob (lB s c) _=some (g,r)from h);obtain⟨u,C,h⟩:=aF.1 h;obtain⟨t,ht,h⟩:=aF.1 h;obtain⟨z,k,h⟩:=aF.1 h;cases h;obtain⟨b,hb,k⟩:=aF.1 (show ob v.asB _=some g from k);have Y:=dA F q;rw[DW hb]at Y;cases b with
  |true=>cases k;exact⟨rfl,_,dA F C,λw=>by simp[execOp,Y.bool_inv,asBool]⟩
  |false=>cases k;exact⟨rfl,_,dA F ht,λw=>by simp[execOp,Y.bool_inv,asBool]⟩
 | build T ps =>
  obtain⟨vs,N,h⟩:=aF.1 (show ob (wN s ps.toList) _=some (g,r)from h);obtain⟨z,k,h⟩:=aF.1 h;cases h;exact⟨rfl,iM (Pm E (Ey F N) k) (λw v j=>by
   have e:(ps.toList.map λp=>(p.1,a.eval p.2)).toArray=ps.map λp=>(p.1,a.eval p.2):=by apply Array.toList_inj.1;simp
   rw[e]at j;simp[execOp,j])⟩
 |nilCheck x=>
  obtain⟨v,q,h⟩:=aF.1 (show ob (lB s x) _=some (g,r)from h);obtain⟨z,k,h⟩:=aF.1 h;cases h;obtain⟨rfl,j⟩:=SI (P:=P) (dA F q) k;exact⟨rfl,_,dA F q,λw=>j _ x a.eval Z Z w⟩
 | binOp W T x y T' =>
  obtain⟨v,q,h⟩:=aF.1 (show ob (lB s x) _=some (g,r)from h);obtain⟨u,C,h⟩:=aF.1 h;obtain⟨z,k,h⟩:=aF.1 h;cases h;exact⟨rfl,iM (Wx E x y (dA F q) (dA F C) k) (λw v j=>by
   simp only[execOp];simp at j ⊢;cases V:Sem.run P (eqGuard W T x y (a.eval x) (a.eval y)) w with
   |ok u w1=>rw[V]at j;simp at j;simp[j]
   |halt h1 w1=>rw[V]at j;cases j)⟩
 |unOp W T x=>
  obtain⟨v,q,h⟩:=aF.1 (show ob (lB s x) _=some (g,r)from h);obtain⟨z,k,h⟩:=aF.1 h;cases h;exact⟨rfl,iM (aaU (dA F q) k) (λw v j=>by simp[execOp,j])⟩
 |convert S D x=>
  obtain⟨v,q,h⟩:=aF.1 (show ob (lB s x) _=some (g,r)from h);obtain⟨z,k,h⟩:=aF.1 h;cases h;exact⟨rfl,iM (Tn E (dA F q) k) (λw v j=>by simp[execOp,j])⟩
 | makeFunc fn first caps =>
  cases fn with
  |func f=>
   obtain⟨us,ab,h⟩:=aF.1 (show ob (Iz s first.toList) _=some (g,r)from h);obtain⟨vs,N,h⟩:=aF.1 h;cases h;refine⟨rfl,_,Rl.fn' (Hk F ab) (Hk F N),λw=> ?_⟩
   have e1:(first.toList.map a.eval).toArray=first.map a.eval:=by apply Array.toList_inj.1;simp
   have e2:(caps.toList.map a.eval).toArray=caps.map a.eval:=by apply Array.toList_inj.1;simp
   rw[e1,e2];simp[execOp,Instr.makeFunc]
  |_=>cases h
 |fieldAddr T x f=>
  obtain⟨v,q,h⟩:=aF.1 (show ob (lB s x) _=some (g,r)from h);obtain⟨z,k,h⟩:=aF.1 h;cases h;exact⟨rfl,iM (Pn E (dA F q) k) (λw v j=>by simp[execOp,j])⟩
 |field T x f=>
  obtain⟨v,q,h⟩:=aF.1 (show ob (lB s x) _=some (g,r)from h);obtain⟨z,k,h⟩:=aF.1 h;cases h;exact⟨rfl,iM (Tq E (dA F q) k) (λw v j=>by simp[execOp,j])⟩
 |indexAddr T x y=>
  obtain⟨v,q,h⟩:=aF.1 (show ob (lB s x) _=some (g,r)from h);obtain⟨u,C,h⟩:=aF.1 h;obtain⟨z,k,h⟩:=aF.1 h;cases h;exact⟨rfl,iM (Po E (dA F q) (dA F C) k) (λw v j=>by simp[execOp,j])⟩
 |index T x y=>
  obtain⟨v,q,h⟩:=aF.1 (show ob (lB s x) _=some (g,r)from h);obtain⟨u,C,h⟩:=aF.1 h;obtain⟨z,k,h⟩:=aF.1 h;cases h;exact⟨rfl,iM (aaM E (dA F q) (dA F C) k) (λw v j=>by simp[execOp,j])⟩
 | slice T x lo hi mx =>
  cases mx with
  | none =>
   obtain⟨v,q,h⟩:=aF.1 (show ob (lB s x) _=some (g,r)from h);obtain⟨l,hl,h⟩:=aF.1 h;obtain⟨e,he,h⟩:=aF.1 h;obtain⟨z,k,h⟩:=aF.1 h;cases h;have hA:∀t,tb T=some t->tdA t.desc=none:=λt ht=>by
    have U:aaA tb T=true:=R;unfold aaA at U;rw[ht]at U;simp only at U;cases V:t.desc<;>rw[V]at U<;>first|rfl|cases U
   exact⟨rfl,iM (Pp (gs:=noG) E (.inr hA) (dA F q) (LU F hl) (LU F he) k) (λw v j=>by simp[execOp,j])⟩
  |some y=>cases h
 |extract x i=>
  obtain⟨v,q,h⟩:=aF.1 (show ob (lB s x) _=some (g,r)from h);obtain⟨z,k,h⟩:=aF.1 h;cases h;exact⟨rfl,iM (Wz (dA F q) k) (λw v j=>by simp[execOp,j])⟩
 | call c =>
  obtain⟨X,Q,B⟩:=c;cases X with
  |value f=>cases R
  |invoke x m=>cases R
  | builtin b =>
   have A:B.size=Q.size:=zA2 aa;have h:UD tb Q B b s H Kt=some (g,r):=h;cases b with
   | len =>
    obtain⟨x,O,h⟩:=Fj (show MX Q.toList (Xq tb B.toList) s H Kt=some (g,r)from h);obtain⟨T,M,h⟩:=aF.1 (show ob (JX B.toList 0) _=some (g,r)from h);obtain⟨v,q,h⟩:=aF.1 h;obtain⟨z,k,h⟩:=aF.1 h;cases h;have L:=Mc O;subst L;have K:B = #[T]:=by
     rw[wP]at M;obtain⟨l⟩:=B
     match l,A with
     | [t],_=>simp at M;subst M;rfl
    subst K;exact⟨rfl,iM (WA E (ty:=J) (dA F q) k) (λw v j=>by simp[execOp,resolve,invoke,builtin,j])⟩
   | cap =>
    obtain⟨x,O,h⟩:=Fj (show MX Q.toList (Xp tb B.toList) s H Kt=some (g,r)from h);obtain⟨T,M,h⟩:=aF.1 (show ob (JX B.toList 0) _=some (g,r)from h);obtain⟨v,q,h⟩:=aF.1 h;obtain⟨z,k,h⟩:=aF.1 h;cases h;have L:=Mc O;subst L;have K:B = #[T]:=by
     rw[wP]at M;obtain⟨l⟩:=B
     match l,A with
     | [t],_=>simp at M;subst M;rfl
    subst K;exact⟨rfl,iM (Wy E (ty:=J) (dA F q) k) (λw v j=>by simp[execOp,resolve,invoke,builtin,j])⟩
   | max =>
    obtain⟨x,y,O,h⟩:=Bl (show Gz Q.toList (λx y=>k2 x y UW) s H Kt=some (g,r)from h);obtain⟨v,q,h⟩:=aF.1 (show ob (lB s x) _=some (g,r)from h);obtain⟨u,C,h⟩:=aF.1 h;obtain⟨z,k,h⟩:=aF.1 h;cases h;have L:=HA O;subst L;obtain⟨G,I,K⟩:∃G I,B = #[G,I]:=by
     obtain⟨l⟩:=B
     match l,A with
     | [t,t'],_=>exact⟨t,t',rfl⟩
    subst K;exact⟨rfl,iM (WE (t1:=G) (t2:=I) (ty:=J) (dA F q) (dA F C) k) (λw v j=>by simp[execOp,resolve,invoke,builtin,j])⟩
   | min =>
    obtain⟨x,y,O,h⟩:=Bl (show Gz Q.toList (λx y=>k2 x y aaT) s H Kt=some (g,r)from h);obtain⟨v,q,h⟩:=aF.1 (show ob (lB s x) _=some (g,r)from h);obtain⟨u,C,h⟩:=aF.1 h;obtain⟨z,k,h⟩:=aF.1 h;cases h;have L:=HA O;subst L;obtain⟨G,I,K⟩:∃G I,B = #[G,I]:=by
     obtain⟨l⟩:=B
     match l,A with
     | [t,t'],_=>exact⟨t,t',rfl⟩
    subst K;exact⟨rfl,iM (WF (t1:=G) (t2:=I) (ty:=J) (dA F q) (dA F C) k) (λw v j=>by simp[execOp,resolve,invoke,builtin,j])⟩
   |_=>cases R
 |_=>cases R
theorem Tm (hG:gG P tb) {T:TypeId} {n:Nat} {l:List (Nat×GV)} {parts:List (Nat×Value)} {ρ:fC} {H H':GH} {g:GV} (hp:RlP ρ l parts) (h:AO tb T n l H=some (g,H')):
  ∃cs a' T' len sz,H'=H.new (.cells cs)∧g = .sl H.n 0 len sz∧WN ρ cs a'∧cs.length=a'.size∧∀w:World,∃V,(Instr.buildSlice T n parts.toArray).run P w = .ok V (w.alloc (.cells a' T'))∧∀ρ':fC,ρ' H.n=some ⟨w.heap.size,0,a'.size,.cells a' T',.cells cs⟩->Rl ρ' g V:=by
 obtain⟨te,hte,h⟩:=aF.1 (show ob (CZ tb T) _=some (g,H')from h);obtain⟨zc,hz,h⟩:=aF.1 h;obtain⟨hlen,h⟩:=bW.1 h;obtain⟨hbig,h⟩:=bW.1 h;obtain⟨h0,h⟩:=kS.1 h;obtain⟨cs,hfill,h⟩:=aF.1 h;rw[jG]at h;cases h;obtain⟨⟨d,hd,hde⟩,hE,htab⟩:=Bh hG hte;obtain⟨dz,hdz,_,hC⟩:=zP (ρ:=ρ) hG hz;rw[htab]at hdz;cases hdz;have hlen:zc.length=te.2.size:=zA2 hlen;have h0:te.2.size≠0:=λe=>by rw[e]at h0;cases h0
 have hbig:n*te.2.size<16777216:=by simpa [zAv]using hbig
 have hrep:=L_ hC (by omega) n;rw[hlen]at hrep;obtain⟨a',f1,f2⟩:=Hl hp hrep hfill;have hsz0:cs.length=a'.size:=by have:=f2.r.len;simpa using this
 have hsz:a'.size=n*te.2.size:=by
  have e1:=f2.r.len;have:cs.length=(TG zc n).length:=IA hfill;rw[this,Jv,hlen]at e1;simp at e1;omega
 refine⟨cs,a',te.1,n,te.2.size,rfl,rfl,f2,hsz0,λw=>⟨.slice (some ⟨w.heap.size,0,none⟩) n n,?_,λρ' hρ=> .sl (l:=⟨w.heap.size,0,a'.size,.cells a' te.1,.cells cs⟩) hρ (zAd _) (.inr ⟨rfl,by simp[hsz]⟩)⟩⟩
 have hu:=hd.run_und w;rw[hde]at hu;by_cases hn:n*te.2.size=0
 ·have hz0:n=0:=by rcases Nat.mul_eq_zero.1 hn with h|h;exact h;exact absurd h h0
  subst hz0;have e0:(Array.range (0*te.2.size)).map (te.2.zero.cells[· % te.2.zero.cells.size]!)=(#[]:Array Value):=by simp
  rw[e0]at f1;have e1:(Array.range 0).map (λ_=>(default:Value)) = #[]:=by simp
  simp[Instr.buildSlice,hu,hE.run_size w,newRow];simp[e1,f1]
 ·simp[Instr.buildSlice,hu,hE.run_size w,hE.run_zero w,hn,f1,newRow,show¬(16777216<n*te.2.size) by omega]
theorem Ym {t u w:fC} (x:∀h A l,t h=some A->u h=some l->w h=some l) {g:GV} {v:Value} (C:Rl u g v):∀{r:Value},Rl t g r->Rl w g v:=by
 induction C with
 |int k n=>exact λ_=> .int k n
 |bool b=>exact λ_=> .bool b
 |str s=>exact λ_=> .str s
 |ptr y q=>exact λj=>by cases j with|ptr _ m=>exact .ptr y (x _ _ _ m q)
 |pnil=>exact λ_=> .pnil
 |sl q E D=>exact λj=>by cases j with|sl m _ _=>exact .sl (x _ _ _ m q) E D
 |snil=>exact λ_=> .snil
 |map q=>exact λj=>by cases j with|map m=>exact .map (x _ _ _ m q)
 | fn f a b c d ihb ihd =>
   intro r j;cases j with
   | fn _ z p B d0 =>
    refine .fn f a (λi g v e o=> ?_) c (λi g v e o=> ?_)
    ·have:=bP e;exact ihb i g v e o (p i g _ e (zA0 (by omega)))
    ·have:=bP e;exact ihd i g v e o (d0 i g _ e (zA0 (by omega)))
 |fnil=>exact λ_=> .fnil
 |inil=>exact λ_=> .inil
 | agg a b c ihb =>
   intro r j;cases j with
   |agg z p B=>
    refine .agg a (λi g v e o=> ?_) c;have:=bP e;exact ihb i g v e o (p i g _ e (zA0 (by omega)))
 | tup a b ihb =>
   intro r j;cases j with
   |tup z p=>
    refine .tup a (λi g v e o=> ?_);have:=bP e;exact ihb i g v e o (p i g _ e (zA0 (by omega)))
 |un=>exact λ_=> .un
 |bad v=>exact λ_=> .bad v
 | opn v h hx =>
   intro r j;obtain⟨A,a,_⟩:=j.opn_inv;exact .opn v (x _ _ _ a h) hx
structure Trc (tb:TB) (ih:CH) (all l:List Oper) (S:Nat->GF) (HH:Nat->GH) (gg:Nat->GV):Prop where
 st:∀i o,l[i]? = some o->HF tb ih all o (S i) (HH i)=some (gg i,HH (i+1))
 up:∀i o,l[i]? = some o->S (i+1)=putD o.dst (gg i) (S i)
theorem OH {d:CH} {all:List Oper} {k:GS->RS} {b:RE}:∀(l:List Oper) (s:GS),HU tb d all k l s=some b->∃S c e,S 0=s.σ∧c 0=s.H∧Trc tb d all l S c e∧k ⟨S l.length,c l.length⟩=some b
 | [],s,h=>⟨λ_=>s.σ,λ_=>s.H,λ_=> .un,rfl,rfl,⟨λi o a=>by simp at a,λi o a=>by simp at a⟩,h⟩
 | o :: l, s, h => by
  obtain⟨g,t,p,q⟩:=Hj (show MK tb d all o (HU tb d all k l) s=some b from h);obtain⟨S,c,e,m,n,j,r⟩:=OH l _ q;refine⟨λi=>Nat.casesOn i s.σ S,λi=>Nat.casesOn i s.H c,λi=>Nat.casesOn i g e,rfl,rfl,⟨λi f a=> ?_,λi f a=> ?_⟩,r⟩
  ·cases i with
   |zero=>simp at a;subst a;show HF tb d all o s.σ s.H=some (g,c 0);rw[p,n]
   |succ i=>exact j.st i f (by simpa using a)
  ·cases i with
   |zero=>simp at a;subst a;exact m
   |succ i=>exact j.up i f (by simpa using a)
theorem De {o:Op} (h:pB o=true):fI o=false:=by
 cases o<;>first|rfl|cases h
structure Vrs (all l:List Oper) (m:List Nat) (i:Nat) (S:Nat->GF) (HH:Nat->GH) (pr:List (Nat×Option (Nat×Nat))) (hs:List (Nat×GH)):Prop where
 pr:∀q h v,(q,some (h,v))∈pr->∀j oj,l[j]? = some oj->fI oj.op=true->before m (i+j) q=false->(HH (j+1)).ver h=some v
 hs:∀k ok h,l[k]? = some ok->pB ok.op=true->ldH (S k) ok.op=some h->∃v,(HH k).ver h=some v∧∀q Hq,(q,Hq)∈hs->before m (i+k) q=false->Hq.ver h=some v
 lo:∀k ok h v,l[k]? = some ok->pB ok.op=true->ldH (S k) ok.op=some h->(HH k).ver h=some v->
  (∀j oj,j<k->l[j]? = some oj->fI oj.op=true->before m (i+k) (i+j)=false->(HH j).ver h=some v)∧(∀j oj,k<j->l[j]? = some oj->fI oj.op=true->before m (i+j) (i+k)=false->(HH (j+1)).ver h=some v)
theorem Vrs.cons {all l:List Oper} {m:List Nat} {i:Nat} {S:Nat->GF} {B:Nat->GH} {G x:List (Nat×Option (Nat×Nat))} {F u:List (Nat×GH)} {o:Oper} {L:GF} {H:GH} (V:Vrs all l m (i+1) S B x u)
  (E:∀p∈G,p∈x) (C:∀p∈F,p∈u) (I:fI o.op=true->(i,H)∈u∧∀p∈G,before m i p.1=false->∀d,p.2=some d->(B 0).ver d.1=some d.2)
  (J:pB o.op=true->∀h,ldH L o.op=some h->∃v,H.ver h=some v∧(i,some (h,v))∈x∧∀q y,(q,y)∈F->before m i q=false->y.ver h=some v):
  Vrs all (o::l) m i (λj=>Nat.casesOn j L S) (λj=>Nat.casesOn j H B) G F:=by
 have e:∀j,i+(j+1)=i+1+j:=λj=>by omega
 refine⟨λq h v z j w g s f=> ?_,λk A h n s t=> ?_,λk A h v n s t d=>⟨λj w D g r f=> ?_,λj w D g r f=> ?_⟩⟩
 ·cases j with
  |zero=>simp at g;subst g;exact(I s).2 _ z (by simpa using f) _ Z
  |succ j=>exact V.pr q h v (E _ z) j w (by simpa using g) s (by rw[<-e];exact f)
 ·cases k with
  |zero=>
   simp at n;subst n;obtain⟨v,a,_,c⟩:=J s h t;exact⟨v,a,λq y z f=>c q y z (by simpa using f)⟩
  |succ k=>
   obtain⟨v,a,b⟩:=V.hs k A h (by simpa using n) s t;exact⟨v,a,λq y z f=>b q y (C _ z) (by rw[<-e];exact f)⟩
 ·cases k with
  |zero=>omega
  | succ k =>
   have n:l[k]? = some A:=by simpa using n
   cases j with
   |zero=>
    simp at g;subst g;obtain⟨K,a,b⟩:=V.hs k A h n s t;have a:(B k).ver h=some K:=a;have d:(B k).ver h=some v:=d;rw[a]at d;cases d;exact b i H (I r).1 (by rw[<-e];simpa using f)
   |succ j=>exact(V.lo k A h v n s t d).1 j w (by omega) (by simpa using g) r (by rw[<-e,<-e];exact f)
 ·cases j with
  |zero=>omega
  | succ j =>
   have g:l[j]? = some w:=by simpa using g
   cases k with
   |zero=>
    simp at n;subst n;obtain⟨K,a,b,_⟩:=J s h t;have d:H.ver h=some v:=d;rw[a]at d;cases d;exact V.pr i h v b j w g r (by rw[<-e];simpa using f)
   |succ k=>exact(V.lo k A h v (by simpa using n) s t d).2 j w (by omega) g r (by rw[<-e,<-e];exact f)
theorem LQ {x:CH} {all:List Oper} {m:List Nat} {k:GS->RS} {A:RE}:∀(l:List Oper) (i:Nat) (J:List (Nat×Option (Nat×Nat))) (D:List (Nat×GH)) (s:GS),evW tb x all m k l i J D s=some A->
  ∃S a r,S 0=s.σ∧a 0=s.H∧Trc tb x all l S a r∧Vrs all l m i S a J D∧k ⟨S l.length,a l.length⟩=some A
 | [],i,J,D,s,h=>⟨λ_=>s.σ,λ_=>s.H,λ_=> .un,rfl,rfl,⟨λi o d=>by simp at d,λi o d=>by simp at d⟩,⟨λ_ _ _ _ j Y V=>by simp at V,λk X h f=>by simp at f,λk X h v f=>by simp at f⟩,h⟩
 | o :: l, i, J, D, s, h => by
  have t:Zs tb x all m o (evW tb x all m k l) i J D s=some A:=h;have B:∀{g:GV} {C:GH} {S:Nat->GF} {a:Nat->GH} {r:Nat->GV},HF tb x all o s.σ s.H=some (g,C)->S 0=putD o.dst g s.σ->a 0=C->Trc tb x all l S a r->Trc tb x all (o::l) (λj=>Nat.casesOn j s.σ S) (λj=>Nat.casesOn j s.H a) (λj=>Nat.casesOn j g r):=λ{g C S a r} z y n w=>⟨λi O d=>by
    cases i with
    |zero=>simp at d;subst d;show HF tb x all o s.σ s.H=some (g,a 0);rw[z,n]
    |succ i=>exact w.st i O (by simpa using d),λi O d=>by
    cases i with
    |zero=>simp at d;subst d;exact y
    |succ i=>exact w.up i O (by simpa using d)⟩
  unfold Zs at t;cases b:fI o.op with
  |true=>
   rw[b]at t;obtain⟨g,C,z,E⟩:=Hj t;obtain⟨_,u,K⟩:=aF.1 E;have u:=Gs u;obtain⟨S,a,r,y,n,w,I,f⟩:=LQ l _ _ _ _ K;refine⟨_,_,_,rfl,rfl,B z y n w,I.cons (λ_ h=>h) (λp G=>zAf _ G) (λ_=>⟨zAb,λp G L M U=>by rw[n];exact u p G L M U⟩) (λc=>by rw[De c]at b;cases b),f⟩
  | false =>
   rw[b]at t;cases c:pB o.op with
   |true=>
    simp only[c]at t;obtain⟨g,C,z,E⟩:=Hj t;obtain⟨e,u,K⟩:=aF.1 E;obtain⟨S,a,r,y,n,w,I,f⟩:=LQ l _ _ _ _ K;refine⟨_,_,_,rfl,rfl,B z y n w,I.cons (λp G=>zAf _ G) (λ_ h=>h) (λh=>by rw[b]at h;cases h) (λ_ Q F=> ?_),f⟩
    rw[F]at u;obtain⟨v,N,u⟩:=aF.1 (show ob (s.H.ver Q) (λv=>MC m i Q v D)=some e from u);obtain⟨rfl,T⟩:=Gt u;exact⟨v,N,zAb,λq R W L=>T (q,R) W L⟩
   |false=>
    simp only[c]at t;obtain⟨g,C,z,E⟩:=Hj t;obtain⟨S,a,r,y,n,w,I,f⟩:=LQ l _ _ _ _ E;exact⟨_,_,_,rfl,rfl,B z y n w,I.cons (λ_ h=>h) (λ_ h=>h) (λh=>by rw[b]at h;cases h) (λh=>by rw[c]at h;cases h),f⟩
theorem Zr {s:CH} (t:gG P tb) (p:tZ P w0 s) {all:List Oper} {n:Nat} {o:Oper} {q:GF} {H k:GH} {g:GV} {d:fC} {a:Act} {w:World} (r:Ks n o=true) (F:lP d n q a) (R:gH w0 d H w) (h:HF tb s all o q H=some (g,k)):
  ∃b i e,d.le b∧gH w0 b k e∧lP b n (putD o.dst g q) i:=by
 obtain⟨_,c,_⟩:=vY r;rcases LP t p r F R h with⟨_,x⟩|⟨_,rfl,rfl⟩
 ·rcases x with⟨_,_,_,rfl,v,f,_⟩|⟨_,_,rfl,v,_,_,_,_,_,f,_⟩|⟨_,_,rfl,v,f,_⟩|⟨_,u⟩
  ·exact⟨d,_,w,fC.le_refl _,R,F.putD c f⟩
  ·exact⟨d,_,w,fC.le_refl _,R,F.putD c f⟩
  ·exact⟨d,_,w,fC.le_refl _,R,F.putD c f⟩
  ·obtain⟨i,e,b,v,j,l,m,rfl⟩:=SN (u (λi e=>∃b v,d.le b∧gH w0 b k e∧Rl b g v∧i=a.put o.dst v) λb e v j l m=>⟨b,v,j,l,m,rfl⟩);exact⟨b,_,e,j,l,(F.le j).putD c m⟩
 ·exact⟨d,_,w,fC.le_refl _,R,F.putD c .un⟩
theorem Pg {q:CH} (p:gG P tb) (f:tZ P w0 q) {all:List Oper} {n:Nat} (c:all.all (Ks n)=true) {S:Nat->GF} {g:Nat->GH} {u:Nat->GV} (T:Trc tb q all all S g u) {k:fC} {a:Act} {w:World} (F:lP k n (S 0) a) (R:gH w0 k (g 0) w):
    ∀m,m<=all.length->∃b:Nat->fC,(∀i,i<=m->∃a w,gH w0 (b i) (g i) w∧lP (b i) n (S i) a)∧∀i,i<m->(b i).le (b (i+1))
  | 0, _ => ⟨λ_ => k, λi h => by
      have : i = 0 := by omega
      subst this;exact⟨a,w,R,F⟩,λi h=>by omega⟩
  | m + 1, hm => by
    obtain⟨b,o,v⟩:=Pg p f c T F R m (by omega);obtain⟨A,B,s,r⟩:=o m (zAd _);have d:all[m]? = some all[m]:=zA0 (by omega);obtain⟨l,t,z,j,x,y⟩:=Zr p f (zA4.1 c _ (List.getElem_mem (by omega))) r s (T.st m _ d);refine⟨λi=>if i<=m then b i else l,λi h=> ?_,λi h=> ?_⟩
    · by_cases e:i<=m
      · simp only[e,if_true];exact o i e
      · have:i=m+1:=by omega
        subst this;simp only[e,if_false];exact⟨t,z,x,by rw[T.up m _ d];exact y⟩
    · by_cases e:i+1<=m
      · simp only[e,show i<=m by omega,if_true];exact v i (by omega)
      · have:i=m:=by omega
        subst this;simp only[e,zAd,if_true,if_false];exact j
theorem Ti {a:Nat->GH} {m:Nat} (b:∀i,i<m->(a i).n<=(a (i+1)).n) {i:Nat}:∀{j:Nat},i<=j->j<=m->(a i).n<=(a j).n
  | 0, h, _ => by
      have : i = 0 := by omega
      subst this;exact zAd _
  | j + 1, h, hj => by
    by_cases e:i=j+1
    · subst e;exact zAd _
    · exact zB3 (Ti b (by omega) (by omega)) (b j (by omega))
theorem NK {w:CH} {all:List Oper} {S:Nat->GF} {u:Nat->GH} {n:Nat->GV} (T:Trc tb w all all S u n) {t:Nat} {g:GV}:∀k,k<=all.length->HG (S k) t=some g->
  (∃i o,i<k∧all[i]? = some o∧o.dst=some t∧n i=g∧∀j a,i<j->j<k->all[j]? = some a->a.dst≠some t)∨((∀j a,j<k->all[j]? = some a->a.dst≠some t)∧HG (S 0) t=some g)
 |0,_,h=> .inr ⟨λj a s=>by omega,h⟩
 | k + 1, hk, h => by
  have c:all[k]? = some all[k]:=zA0 (by omega);rw[T.up k _ c]at h;have m:all[k].dst≠some t->HG (S k) t=some g->_:=λl h=>
   match NK T k (by omega) h with
   | .inl ⟨i, o, q, p, h3, h4, h5⟩ => (.inl ⟨i, o, by omega, p, h3, h4, λj a r s b => by
     by_cases e:j=k
     ·subst e;rw[c]at b;cases b;exact l
     ·exact h5 j a r (by omega) b⟩:(∃i o,i<k+1∧all[i]? = some o∧o.dst=some t∧n i=g∧∀j a,i<j->j<k+1->all[j]? = some a->a.dst≠some t)∨((∀j a,j<k+1->all[j]? = some a->a.dst≠some t)∧HG (S 0) t=some g))
   | .inr ⟨q, p⟩ => .inr ⟨λj a s b => by
     by_cases e:j=k
     ·subst e;rw[c]at b;cases b;exact l
     ·exact q j a (by omega) b,p⟩
  cases f:all[k].dst with
  |none=>
   rw[f]at h;exact m (by rw[f];simp) h
  | some d =>
   rw[f]at h;have h:HG ((d,n k)::S k) t=some g:=h;rw[Da]at h;by_cases e:t=d
   ·subst e;rw[if_pos Z]at h;cases h;exact .inl ⟨k,_,by omega,c,f,rfl,λj a q p=>by omega⟩
   ·rw[if_neg e]at h;exact m (by rw[f];intro v;cases v;exact e Z) h
def sM (o:Op):Bool:=fI o && !isFloat o
def MZ (tb:TB) (x o:Op):Bool:=pureOp tb x||pureOp tb o||isFloat o||(!fI x && !fI o)||(pB x&&fI o)||(fI x&&pB o)
def chkF (tb:TB) (l:List Oper) (m:List Nat):Bool:=
 (List.range l.length).all λi=>match l[i]? with
  |none=>false
  |some o=>
   (wC o).all (λe=>Nat.blt e i&&before m i e&&(List.range i).all (λk=> !before m e k||before m i k)) &&
   (List.range l.length).all (λk=> !before m i k||(Nat.blt k i&&(wC o).any (λe=>Nat.beq e k||before m e k))) &&
   !Ez o.op &&
   (List.range i).all (λx=>before m i x||(match l[x]? with|none=>false|some a=>a.apart l.toArray o&&MZ tb a.op o.op))
structure XU (tb:TB) (l:List Oper) (m:List Nat):Prop where
 edge:∀(i:Nat) (o:Oper),l[i]? = some o->∀e∈wC o,e<i∧before m i e=true
 trans:∀(i:Nat) (o:Oper),l[i]? = some o->∀k,before m i k=true->k<l.length->k<i∧∃e∈wC o,e=k∨before m e k=true
 ind:∀(i x:Nat) (oi ox:Oper),l[i]? = some oi->l[x]? = some ox->x<i->before m i x=false->ox.apart l.toArray oi=true∧MZ tb ox.op oi.op=true
theorem Kf {l:List Oper} {m:List Nat} (h:chkF tb l m=true):XU tb l m:=by
 have b:∀(i:Nat) (o:Oper),l[i]? = some o->
   ((wC o).all (λe=>Nat.blt e i&&before m i e&&(List.range i).all (λk=> !before m e k||before m i k))=true)∧
   ((List.range l.length).all (λk=> !before m i k||(Nat.blt k i&&(wC o).any (λe=>Nat.beq e k||before m e k)))=true)∧Ez o.op=false∧
   ((List.range i).all (λx=>before m i x||(match l[x]? with|none=>false|some g=>g.apart l.toArray o&&MZ tb g.op o.op))=true):=by
  intro i o c;have:=zA4.1 h i (zAm.2 (bP c));simp only[c,zA3,Bool.not_eq_true']at this;exact⟨this.1.1.1,this.1.1.2,this.1.2,this.2⟩
 refine⟨?_,?_,?_⟩
 ·intro i o c e f;have:=zA4.1 (b i o c).1 e f;simp only[zA3,zAv]at this;exact⟨this.1.1,this.1.2⟩
 ·intro i o c k q a;have:=zA4.1 (b i o c).2.1 k (zAm.2 a);simp only[q,Bool.not_true,Bool.false_or,zA3,zAv,List.any_eq_true,zAz]at this;obtain⟨j,e,f,d⟩:=this;refine⟨j,e,f,?_⟩
  rcases d with d|d
  ·exact .inl (zA2 d)
  ·exact .inr d
 ·intro i x s g p r a n;have:=(b i s p).2.2.2;have:=zA4.1 this x (zAm.2 a);simp only[n,Bool.false_or,r,zA3]at this;exact this
theorem ON {X:CH} (I:gG P tb) {all:List Oper} {n:Nat} {o:Oper} {z:GF} {H f:GH} {g:GV} {y:fC} {a:Act} (S:isFloat o.op=true) (F:lP y n z a) (h:HF tb X all o z H=some (g,f)):
  (Region.wanted o (yielded all.toArray a.tmps)=false∧g = .un∧f=H)∨
  (Region.wanted o (yielded all.toArray a.tmps)=true∧∃k i u,f=H.new (.cells k)∧WN y k i∧k.length=i.size∧∀w:World,∃V,(execOp a.eval o).run P w = .ok (.value V) (w.alloc (.cells i u))∧∀c:fC,c H.n=some ⟨w.heap.size,0,i.size,.cells i u,.cells k⟩->Rl c g V):=by
 rcases Hi F h with⟨U,b⟩|h
 ·refine .inr ⟨U,?_⟩;obtain⟨d,op,ty,aa,L,gd⟩:=o;cases op with
  |buildSlice T m D=>
   obtain⟨vs,C,b⟩:=aF.1 (show ob (wN z D.toList) _=some (g,f)from b);obtain⟨E,q,b,s⟩:=nX b;cases s;obtain⟨k,i,u,Y,sz,A,h2,M,N,O⟩:=Tm (P:=P) I (Ey F C) b;refine⟨k,i,u,A,M,N,λw=> ?_⟩
   obtain⟨V,t,B⟩:=O w;refine⟨V,?_,B⟩
   have e:(D.toList.map λp=>(p.1,a.eval p.2)).toArray=D.map λp=>(p.1,a.eval p.2):=by apply Array.toList_inj.1;simp
   rw[e]at t;simp[execOp,t]
  |alloc T=>
   obtain⟨E,q,b,s⟩:=nX (show gU (vG tb T H) Kt=some (g,f)from b);cases s;obtain⟨K,W,b⟩:=aF.1 (show ob (En tb T) _=some (g,f)from b);rw[jG]at b;cases b;obtain⟨d,hd,Q,G⟩:=zP (ρ:=y) I W;refine⟨K,d.zero.cells,T,rfl,G,by have:=G.r.len;simpa using this,λw=>⟨_,?_,λc j=> .ptr (l:=⟨w.heap.size,0,d.zero.cells.size,.cells d.zero.cells T,.cells K⟩) 0 j⟩⟩
   simp[execOp,Kx w Q]
  |box T x=>
   obtain⟨v,B,b⟩:=aF.1 (show ob (lB z x) (λv=>gU (Rf v H) Kt)=some (g,f)from b);obtain⟨E,q,b,s⟩:=nX b;cases s;obtain⟨J,R,b⟩:=aF.1 (show ob v.cells _=some (g,f)from b);rw[jG]at b;cases b;obtain⟨vs,e,t,A⟩:=(dA F B).cells R;refine⟨J,(a.eval x).cells,T,rfl,by rw[e];exact⟨t,A⟩,by rw[e];have:=t.len;simpa using this,λw=>⟨_,?_,λc j=> .ptr (l:=⟨w.heap.size,0,(a.eval x).cells.size,.cells (a.eval x).cells T,.cells J⟩) 0 j⟩⟩
   simp[execOp,Instr.box,newVar,newRow]
  |_=>cases S
 ·exact .inl h
end
def IP (b a:fC):fC:=λh=>match b h with
 |some l=>some l
 |none=>a h
theorem Ag {a b:fC} {h:Nat} {l:Ov} (e:a h=some l):IP a b h=some l:=by simp[IP,e]
theorem Af {b a:fC} {h:Nat} (e:b h=none):IP b a h=a h:=by simp[IP,e]
theorem Jn {a b:fC}:a.le (IP a b):=λ_ _ e=>Ag e
def SlD (all:List Oper) (b:GF) (c:Nat->GV) (D:Nat->Bool) (t:Nat) (g:GV):Prop:=
 (∃i o,D i=true∧all[i]? = some o∧o.dst=some t∧c i=g∧∀j a,D j=true->all[j]? = some a->a.dst=some t->j<=i)∨((∀j a,D j=true->all[j]? = some a->a.dst≠some t)∧HG b t=some g)
def ins (D:Nat->Bool) (k:Nat):Nat->Bool:=λj=>j==k||D j
theorem Dd (D:Nat->Bool) (k:Nat):ins D k k=true:=by simp[ins]
theorem Ck {D:Nat->Bool} {k j:Nat} (h:j≠k):ins D k j=D j:=by simp[ins,h]
theorem Dc {D:Nat->Bool} {k j:Nat} (h:D j=true):ins D k j=true:=by simp[ins,h]
noncomputable def FP (σ:GF) (L:gZ):GF:=L.filterMap λt=>(HG σ t).map λg=>(t,g)
theorem Ew {σ:GF} {t:Nat}:∀{L:gZ},HG (FP σ L) t=if t∈L then HG σ t else none
 | []=>rfl
 | x :: L => by
  have c:=Ew (σ:=σ) (t:=t) (L:=L);cases b:HG σ x with
  |none=>
   have e:FP σ (x::L)=FP σ L:=by simp[FP,b]
   rw[e,c];by_cases a:t=x
   ·subst a;simp[b]
   ·simp[a]
  |some g=>
   have e:FP σ (x::L)=(x,g)::FP σ L:=by simp[FP,b]
   rw[e,Da,c];by_cases a:t=x
   ·subst a;simp[b]
   ·simp[a]
section
variable {P:Program} {tb:TB} {gs:BV} {w0:fR gs} {ih:CH} {all:List Oper} {n:Nat} {S:Nat->GF} {HH:Nat->GH} {gg:Nat->GV}
structure yU (P:Program) (tb:TB) {gs:BV} (w0:fR gs) (ih:CH) (all:List Oper) (n:Nat) (S:Nat->GF) (HH:Nat->GH) (gg:Nat->GV):Prop where
 tab:gG P tb
 call:∀w0:fR gs,tZ P w0 ih
 ops:all.all (Ks n)=true
 chk:XU tb all (qJ all)
 trc:Trc tb ih all all S HH gg
 vrs:∀k ok h v,all[k]? = some ok->pB ok.op=true->ldH (S k) ok.op=some h->(HH k).ver h=some v->
  (∀j oj,j<k->all[j]? = some oj->fI oj.op=true->before (qJ all) k j=false->(HH j).ver h=some v)∧(∀j oj,k<j->all[j]? = some oj->fI oj.op=true->before (qJ all) j k=false->(HH (j+1)).ver h=some v)
 chain:∃ρs:Nat->fC,(∀i,i<=all.length->∃a w,gH w0 (ρs i) (HH i) w∧lP (ρs i) n (S i) a)∧∀i,i<all.length->(ρs i).le (ρs (i+1))
theorem yU.ghost (E:yU P tb w0 ih all n S HH gg) (i:Nat) (c:i<=all.length):∃b a w,gH w0 b (HH i) w∧lP b n (S i) a:=
 let ⟨ρs,h,_⟩:=E.chain
 ⟨ρs i,h i c⟩
theorem yU.mono (E:yU P tb w0 ih all n S HH gg) (i:Nat) (a:i<all.length):(HH i).n<=(HH (i+1)).n:=by
 obtain⟨e,h,b⟩:=E.chain;obtain⟨_,_,c,_⟩:=h i (Nat.le_of_lt a);obtain⟨_,_,d,_⟩:=h (i+1) a;exact c.mono d (b i a)
theorem Sg {a:Nat->fC} {m:Nat} (h:∀i,i<m->(a i).le (a (i+1))) {i:Nat}:∀{j:Nat},i<=j->j<=m->(a i).le (a j)
  | 0, h1, _ => by
      have : i = 0 := by omega
      subst this;exact fC.le_refl _
  | j + 1, h1, hj => by
    by_cases e:i=j+1
    · subst e;exact fC.le_refl _
    · exact fC.le_trans (Sg h (by omega) (by omega)) (h j (by omega))
theorem yU.same (E:yU P tb w0 ih all n S HH gg) {i j:Nat} (b:i<=j) (u:j<=all.length) {h v:Nat} (q:(HH i).ver h=some v) (r:(HH j).ver h=some v):(HH i).get h=(HH j).get h:=by
 obtain⟨J,s,e⟩:=E.chain;have A:=Sg e b u;obtain⟨_,K,l,_⟩:=s i (by omega);obtain⟨_,L,m,_⟩:=s j u;have a:∀{k:Nat},(HH k).ver h=some v->∃o,(HH k).get h=some o:=λ{k} hv=>by
  obtain⟨p,B,_⟩:=aF.1 (show ob ((HH k).t.get h) _=some v from hv);exact⟨p.2,by unfold GH.get;rw[B];rfl⟩
 obtain⟨H,f⟩:=a q;obtain⟨I,g⟩:=a r;obtain⟨C,c,_⟩:=l.live h H f;obtain⟨D,d,_⟩:=m.live h I g;obtain⟨F,w,_,y⟩:=l.vers h v C q c;obtain⟨G,x,_,z⟩:=m.vers h v D r d;have:=A _ _ w;rw[x]at this;cases this;rw[y,z]
theorem yU.op (E:yU P tb w0 ih all n S HH gg) {k:Nat} {o:Oper} (a:all[k]? = some o):Ks n o=true:=zA4.1 E.ops o (zAq a)
theorem yU.quiet (E:yU P tb w0 ih all n S HH gg) {k:Nat} {o:Oper} (b:all[k]? = some o) (c:fI o.op=false):HH (k+1)=HH k:=by
 obtain⟨e,a,w,R,F⟩:=E.ghost k (Nat.le_of_lt (bP b));rcases LP E.tab (E.call w0) (E.op b) F R (E.trc.st k o b)with⟨_,d⟩|⟨_,_,h⟩
 ·rcases d with⟨_,_,_,h,_⟩|⟨_,_,h,_⟩|⟨_,_,h,_⟩|⟨h,_⟩
  ·exact h
  ·exact h
  ·exact h
  ·rw[c]at h;cases h
 ·exact h
theorem yU.floats (E:yU P tb w0 ih all n S HH gg) {k:Nat} {o:Oper} (c:all[k]? = some o) (d:isFloat o.op=true):HH (k+1)=HH k∨∃b,HH (k+1)=(HH k).new (.cells b):=by
 obtain⟨e,a,w,R,F⟩:=E.ghost k (Nat.le_of_lt (bP c));rcases ON (P:=P) E.tab d F (E.trc.st k o c)with⟨_,_,h⟩|⟨_,b,_,_,h,_⟩
 ·exact .inl h
 ·exact .inr ⟨b,h⟩
theorem ZY {H:GH} {o:GO} (h:H=H.new o):False:=by
 have:H.n=H.n+1:=congrArg GH.n h;omega
theorem Xx {H:GH} {c a:List GV} (h:H.new (.cells c)=H.new (.cells a)):c=a:=by
 have b:=rX H (.cells c) H.n;have d:=rX H (.cells a) H.n;rw[if_pos Z]at b d;rw[h,d]at b;cases b;rfl
theorem yU.mono' (E:yU P tb w0 ih all n S HH gg) {i j:Nat} (h:i<=j) (a:j<=all.length):(HH i).n<=(HH j).n:=Ti E.mono h a
theorem yU.apart (E:yU P tb w0 ih all n S HH gg) {i j:Nat} {b c:List GV} (k:i<all.length) (l:j<all.length) (d:HH (i+1)=(HH i).new (.cells b)) (f:HH (j+1)=(HH j).new (.cells c)) (h:(HH i).n=(HH j).n):i=j:=by
 have e:(HH (i+1)).n=(HH i).n+1:=by rw[d];rfl
 have g:(HH (j+1)).n=(HH j).n+1:=by rw[f];rfl
 rcases zAx i j with a|a|a
 ·have:=E.mono' (i:=i+1) (j:=j) (by omega) (by omega);omega
 ·exact a
 ·have:=E.mono' (i:=j+1) (j:=i) (by omega) (by omega);omega
structure zQ {gs:BV} (w0:fR gs) (ρb:fC) (n:Nat) (all:List Oper) (S0:GF) (HH:Nat->GH) (gg:Nat->GV) (D:Nat->Bool) (a:Act) (w:World) (t:Nat) (ρ pm:fC):Prop where
 tm:t<=all.length
 lou:∀j o,all[j]? = some o->sM o.op=true->(D j=true↔j<t)
 flo:∀j o,all[j]? = some o->isFloat o.op=true->j<t->D j=true
 rel:gH w0 ρ (HH t) w
 up:ρb.le ρ
 defers:a.defers=[]
 size:a.tmps.size=n
 slot:∀s g,SlD all S0 gg D s g->Rl (IP ρ pm) g (a.eval (.tmp s))
 pend:∀i o cs,all[i]? = some o->isFloat o.op=true->HH (i+1)=(HH i).new (.cells cs)->t<=i->D i=true->∃l,pm (HH i).n=some l∧w0.mine l.b∧¬XW ρ (HH t) l.b∧w.heap[l.b]? = some l.x∧AU (IP ρ pm) w l (.cells cs)∧l.o = .cells cs
 only:∀h l,pm h=some l->∃i o cs,all[i]? = some o∧isFloat o.op=true∧HH (i+1)=(HH i).new (.cells cs)∧t<=i∧D i=true∧h=(HH i).n
 inj:∀h h' l l',pm h=some l->pm h'=some l'->l.b=l'.b->h=h'
variable {D:Nat->Bool} {a:Act} {w:World} {t:Nat} {ρ pm ρb:fC}
theorem zQ.low (E:yU P tb w0 ih all n S HH gg) (I:zQ w0 ρb n all (S 0) HH gg D a w t ρ pm) {h:Nat} {l:Ov} (d:pm h=some l):(HH t).n<=h:=by
 obtain⟨i,o,e,b,_,_,c,_,rfl⟩:=I.only h l d;exact E.mono' c (Nat.le_of_lt (bP b))
theorem zQ.adopt (E:yU P tb w0 ih all n S HH gg) (I:zQ w0 ρb n all (S 0) HH gg D a w t ρ pm) {o:Oper} (Y:all[t]? = some o) (hl:sM o.op=false) (hf:isFloat o.op=true->D t=true):
  ∃c b,zQ w0 ρb n all (S 0) HH gg D a w (t+1) c b∧IP c b=IP ρ pm:=by
 have ht:=bP Y;have G:∀j o,all[j]? = some o->sM o.op=true->(D j=true↔j<t+1):=λj oj N Q=>by
  have q:j≠t:=λe=>by subst e;rw[Y]at N;cases N;rw[hl]at Q;cases Q
  rw[I.lou j oj N Q];omega
 have C:∀j o,all[j]? = some o->isFloat o.op=true->j<t+1->D j=true:=λj oj N ab ah=>by
  by_cases e:j=t
  ·subst e;rw[Y]at N;cases N;exact hf ab
  ·exact I.flo j oj N ab (by omega)
 -- nothing is taken up
 have H:HH (t+1)=HH t->∃c b,zQ w0 ρb n all (S 0) HH gg D a w (t+1) c b∧IP c b=IP ρ pm:=λe=>
  ⟨ρ,pm,⟨ht,G,C,by rw[e];exact I.rel,I.up,I.defers,I.size,I.slot,λi W B f r y h4 K=>by rw[e];exact I.pend i W B f r y (by omega) K,λh l hp=>by
   obtain⟨i,W,B,f,r,y,h4,K,h6⟩:=I.only h l hp;refine⟨i,W,B,f,r,y,?_,K,h6⟩
   by_cases e':i=t
   ·subst e';rw[e]at y;exact(ZY y).elim
   ·omega,I.inj⟩,rfl⟩
 cases z:isFloat o.op with
 |false=>exact H (E.quiet Y (by simpa [sM,z]using hl))
 | true =>
  rcases E.floats Y z with e|⟨B,e⟩
  ·exact H e
  obtain⟨l,hp,U,M,hx,ad,ag⟩:=I.pend t o B Y z e (zAd _) (hf z);have m:ρ (HH t).n=none:=I.rel.fresh _ (zAd _);let c:=ρ.upd (HH t).n l;let b:fC:=λh=>if h=(HH t).n then none else pm h;have k:c (HH t).n=some l:=by simp[c,fC.upd]
  have u:∀h,h≠(HH t).n->c h=ρ h:=λh hh=>by simp[c,fC.upd,hh]
  have O:IP c b=IP ρ pm:=by
   funext h;by_cases d:h=(HH t).n
   ·subst d;rw[Ag k,Af m,hp]
   ·unfold IP;rw[u h d];simp[b,d]
  have hn:(HH (t+1)).n=(HH t).n+1:=by rw[e];rfl
  -- what the object holds is older
  have aa:∀{g:GV} {v v0:Value} {x:fC},(∀h l,x h=some l->h<(HH (t+1)).n)->Rl (IP ρ pm) g v->Rl x g v0->Rl c g v:=λ{g v v0 x} hlow f h0=>by
   refine Ym (λh l0 l1 e0 X=> ?_) f h0;have ah:=hlow h l0 e0;by_cases d:h=(HH t).n
   ·subst d;rw[Af m,hp]at X;rw[k];exact X
   ·rw[u h d];cases hr:ρ h with
    |some l2=>rw[Ag hr]at X;exact X
    |none=>
     rw[Af hr]at X;have:=I.low E X;omega
  obtain⟨x,a0,wg,R0,F0⟩:=E.ghost (t+1) ht;have R:∀h l,x h=some l->h<(HH (t+1)).n:=λh l hl=>by
   rcases zAo h (HH (t+1)).n with J|J
   ·exact J
   ·rw[R0.fresh h J]at hl;cases hl
  have L:(HH (t+1)).get (HH t).n=some (.cells B):=by rw[e,rX,if_pos Z]
  obtain⟨l0,_,_,ac⟩:=R0.live _ _ L;obtain⟨ai,T0,q1,q2,q3,q4⟩:=ac;have V:AU c w l (.cells B):=by
   obtain⟨ae,T,p1,p2,p3,p4⟩:=ad;refine⟨ae,T,p1,p2,p3,λi g F=> ?_⟩
   obtain⟨v,r1,r2,r3⟩:=p4 i g F;obtain⟨v0,_,s2,_⟩:=q4 i g F;exact⟨v,r1,aa R r2 s2,r3⟩
  obtain⟨af,R'⟩:=I.rel.new (o:= .cells B) (l:=l) I.rel.ext (λh o' l' F p=>⟨rfl,λeb=>M ⟨h,o',l',F,p,eb⟩⟩) U V hx ag;rw[<-e]at R';refine⟨c,b,⟨ht,G,C,R',fC.le_trans I.up af,I.defers,I.size,λs g hs=>by rw[O];exact I.slot s g hs,λi W ci f r y h4 K=> ?_,λh l1 A=> ?_,λh J l1 l2 f r hb=> ?_⟩,O⟩
  ·obtain⟨li,a1,a2,a3,a4,a5,a6⟩:=I.pend i W ci f r y (by omega) K;have q:(HH i).n≠(HH t).n:=λd=>by
    have:=E.apart (bP f) ht y e d;omega
   refine⟨li,by simp[b,q,a1],a2,?_,a4,by rw[O];exact a5,a6⟩
   rintro⟨h,o',l',F,p,eb⟩;rw[e,rX]at F;by_cases d:h=(HH t).n
   ·subst d;rw[k]at p;cases p;exact q (I.inj _ _ _ _ a1 hp eb.symm)
   ·rw[if_neg d]at F;rw[u h d]at p;exact a3 ⟨h,o',l',F,p,eb⟩
  ·have q:h≠(HH t).n:=λd=>by subst d;simp[b]at A
   have A:pm h=some l1:=by simpa [b,q]using A
   obtain⟨i,W,ci,f,r,y,h4,K,h6⟩:=I.only h l1 A;refine⟨i,W,ci,f,r,y,?_,K,h6⟩
   by_cases e':i=t
   ·subst e';exact absurd h6 q
   ·omega
  ·have f:pm h=some l1:=by
    by_cases d:h=(HH t).n
    ·simp[b,d]at f
    ·simpa [b,d]using f
   have r:pm J=some l2:=by
    by_cases d:J=(HH t).n
    ·simp[b,d]at r
    ·simpa [b,d]using r
   exact I.inj h J l1 l2 f r hb
theorem zQ.adoptTo (E:yU P tb w0 ih all n S HH gg):∀(d t k:Nat) (ρ pm:fC),zQ w0 ρb n all (S 0) HH gg D a w t ρ pm->t+d=k->k<=all.length->(∀j o,t<=j->j<k->all[j]? = some o->sM o.op=false∧(isFloat o.op=true->D j=true))->
  ∃c b,zQ w0 ρb n all (S 0) HH gg D a w k c b∧IP c b=IP ρ pm
 |0,t,k,ρ,pm,I,hd,hk,_=>by
  have:t=k:=by omega
  subst this;exact⟨ρ,pm,I,rfl⟩
 |d+1,t,k,ρ,pm,I,hd,hk,h=>by
  have p:all[t]? = some all[t]:=zA0 (by omega);obtain⟨m,e⟩:=h t _ (zAd _) (by omega) p;obtain⟨i,f,q,s⟩:=I.adopt E p m e;obtain⟨l,g,r,u⟩:=zQ.adoptTo E d (t+1) k i f q (by omega) hk (λj o m e=>h j o (by omega) e);exact⟨l,g,r,by rw[u,s]⟩
def Cl (all:List Oper) (D:Nat->Bool):Prop:=∀j k,D j=true->before (qJ all) j k=true->k<all.length->D k=true
structure TT (all:List Oper) (D:Nat->Bool) (k:Nat) (o:Oper):Prop where
 get:all[k]? = some o
 undone:D k=false
 past:∀j,before (qJ all) k j=true->j<all.length->D j=true
theorem TT.behind (C:XU tb all (qJ all)) (c:Cl all D) {k:Nat} {o:Oper} (e:TT all D k o) {j:Nat} {b:Oper} (h:all[j]? = some b) (g:D j=true) (d:k<j):o.apart all.toArray b=true∧MZ tb o.op b.op=true:=by
 cases f:before (qJ all) j k with
 |false=>exact C.ind j k b o h e.get d f
 |true=>
  have:=c j k g f (bP e.get);rw[e.undone]at this;cases this
theorem TT.ahead (C:XU tb all (qJ all)) {k:Nat} {o:Oper} (f:TT all D k o) {j:Nat} {b:Oper} (e:all[j]? = some b) (c:j<k):D j=true∨b.apart all.toArray o=true∧MZ tb b.op o.op=true:=by
 cases d:before (qJ all) k j with
 |true=>exact .inl (f.past j d (bP e))
 |false=>exact .inr (C.ind k j o b f.get e c d)
theorem TT.look (E:yU P tb w0 ih all n S HH gg) (q:Cl all D) {k:Nat} {o:Oper} (p:TT all D k o) {s:Nat} {g:GV} (u:s∈o.looksAt all.toArray) (y:HG (S k) s=some g):SlD all (S 0) gg D s g:=by
 have b:∀j c,D j=true->all[j]? = some c->c.dst=some s->j<k:=λj c d f e=>by
  rcases zAx j k with h|h|h
  ·exact h
  ·subst h;rw[p.undone]at d;cases d
  ·obtain⟨l,_⟩:=p.behind E.chk q f d h;exact absurd u ((Oper.apart_spec l).2.2 s e)
 rcases NK E.trc k (Nat.le_of_lt (bP p.get)) y with⟨i,z,l,m,r,v,x⟩|⟨l,m⟩
 ·refine .inl ⟨i,z,?_,m,r,v,λj c d f e=> ?_⟩
  ·rcases p.ahead E.chk m l with h|⟨h,_⟩
   ·exact h
   ·exact absurd u ((Oper.apart_spec h).1 s r)
  ·have:=b j c d f e;rcases zAo i j with h|h
   ·exact absurd e (x j c h this f)
   ·exact h
 ·exact .inr ⟨λj c d f e=>l j c (b j c d f e) f e,m⟩
theorem TT.slot (C:XU tb all (qJ all)) (F:Cl all D) {K:GF} {k:Nat} {o:Oper} (y:TT all D k o) (x:∀d,o.dst=some d->d<n) (I:a.tmps.size=n) {z u:fC} (G:z.le u) (q:∀s g,SlD all K gg D s g->Rl z g (a.eval (.tmp s))) {v:Value} (Q:Rl u (gg k) v):
  ∀s g,SlD all K gg (ins D k) s g->Rl u g ((a.put o.dst v).eval (.tmp s)):=λs g L=>by
 have c:∀j r,D j=true->all[j]? = some r->o.dst=some s->r.dst=some s->j<k:=λj r m O f p=>by
  rcases zAx j k with h|h|h
  ·exact h
  ·subst h;rw[y.undone]at m;cases m
  ·obtain⟨b,_⟩:=y.behind C F O m h;exact absurd p ((Oper.apart_spec b).2.1 s f)
 by_cases f:o.dst=some s
 ·have N:gg k=g:=by
   rcases L with⟨i,J,b,l,A,B,E⟩|⟨b,_⟩
   ·have R:=E k o (Dd D k) y.get f;by_cases e:i=k
    ·subst e;exact B
    ·rw[Ck e]at b;have:=c i J b l f A;omega
   ·exact absurd f (b k o (Dd D k) y.get)
  rw[f,<-N];have H:=x s f;have:(a.put (some s) v).eval (.tmp s)=v:=by simp[Act.put,Act.eval,I,H]
  rw[this];exact Q
 ·have M:(a.put o.dst v).eval (.tmp s)=a.eval (.tmp s):=Act.eval_put λd p e=>by cases e;exact f p
  rw[M];refine(q s g ?_).le G;rcases L with⟨i,J,b,l,A,B,E⟩|⟨b,l⟩
  ·have e:i≠k:=λe=>by subst e;rw[y.get]at l;cases l;exact f A
   rw[Ck e]at b;exact .inl ⟨i,J,b,l,A,B,λj r m=>E j r (Dc m)⟩
  ·exact .inr ⟨λj r m=>b j r (Dc m),l⟩
theorem Hx (a:Act) (d:Option Tmp) (v:Value):(a.put d v).defers=a.defers∧(a.put d v).tmps.size=a.tmps.size:=by
 cases d with
 |none=>exact⟨rfl,rfl⟩
 |some d=>exact⟨rfl,by simp[Act.put]⟩
theorem zQ.plain (E:yU P tb w0 ih all n S HH gg) (u:Cl all D) (I:zQ w0 ρb n all (S 0) HH gg D a w t ρ pm) {k:Nat} {o:Oper} (q:TT all D k o) (F:sM o.op=false) (C:isFloat o.op=true->HH (k+1)=HH k) {v:Value} (H:Rl (IP ρ pm) (gg k) v):
  zQ w0 ρb n all (S 0) HH gg (ins D k) (a.put o.dst v) w t ρ pm:=by
 obtain⟨_,f,_⟩:=vY (E.op q.get);obtain⟨J,K⟩:=Hx a o.dst v;refine⟨I.tm,λj A g b=> ?_,λj A g x y=>Dc (I.flo j A g x y),I.rel,I.up,by rw[J];exact I.defers,by rw[K];exact I.size,q.slot E.chk u f I.size (fC.le_refl _) I.slot H,λi z r c m d s p=> ?_,λh l G=> ?_,I.inj⟩
 ·have e:j≠k:=λe=>by subst e;rw[q.get]at g;cases g;rw[F]at b;cases b
  rw[Ck e];exact I.lou j A g b
 ·have e:i≠k:=λe=>by
   subst e;rw[q.get]at c;cases c;rw[C m]at d;exact ZY d
  rw[Ck e]at p;exact I.pend i z r c m d s p
 ·obtain⟨i,z,r,c,m,d,s,p,B⟩:=I.only h l G;exact⟨i,z,r,c,m,d,s,Dc p,B⟩
def PC (all:List Oper) (D:Nat->Bool) (t:Nat):Prop:=t=0∨∃o,all[t - 1]? = some o∧sM o.op=true∧D (t - 1)=true
theorem PC.ins {k:Nat} (h:PC all D t):PC all (ins D k) t:=by
 rcases h with h|⟨o,b,c,d⟩
 ·exact .inl h
 ·exact .inr ⟨o,b,c,Dc d⟩
theorem Hw {o:Op} (h:pureOp tb o=true):fI o=false:=by
 unfold pureOp at h;split at h<;>first|rfl|cases h
theorem Iy {o:Op} (h:isFloat o=true):fI o=true:=by
 unfold isFloat at h;split at h<;>first|rfl|cases h
theorem MM {o:Op} (h:isFloat o=true):pureOp tb o=false:=by
 cases b:pureOp tb o with
 |false=>rfl
 |true=>have:=Hw b;rw[Iy h]at this;cases this
theorem zQ.reach (E:yU P tb w0 ih all n S HH gg) (u:Cl all D) (I:zQ w0 ρb n all (S 0) HH gg D a w t ρ pm) (i:PC all D t) {k:Nat} {o:Oper} (r:TT all D k o) (z:pureOp tb o.op=false) (B:isFloat o.op=false) (m:pB o.op=false):
  ∃q p,zQ w0 ρb n all (S 0) HH gg D a w k q p∧IP q p=IP ρ pm:=by
 have F:=bP r.get;have C:t<=k:=by
  rcases i with h|⟨d,x,f,s⟩
  ·omega
  ·rcases zAo (t - 1) k with h|h
   ·omega
   ·exfalso;by_cases e:t - 1=k
    ·rw[e,r.undone]at s;cases s
    ·obtain⟨_,A⟩:=r.behind E.chk u x s (by omega);simp only[sM,zA3,Bool.not_eq_true']at f;have:pureOp tb d.op=false:=by
      cases v:pureOp tb d.op with
      |false=>rfl
      |true=>have:=Hw v;rw[f.1]at this;cases this
     have c:pB d.op=false:=by
      cases v:pB d.op with
      |false=>rfl
      |true=>rw[De v]at f;cases f.1
     simp[MZ,z,this,f.1,f.2,m,c]at A
 refine I.adoptTo E (k - t) t k ρ pm (by omega) (by omega) λj d x f y=> ?_;have g:D j=true∨fI d.op=false∨pureOp tb d.op=true:=by
  rcases r.ahead E.chk y f with h|⟨_,h⟩
  ·exact .inl h
  ·simp only[MZ,z,B,m,Bool.or_false,Bool.and_false,zAz,zA3,Bool.not_eq_true']at h;rcases h with(h|h)|h
   ·exact .inr (.inr h)
   ·exact .inr (.inl h.1)
   ·exact .inr (.inl (De h.1))
 refine⟨?_,λl=> ?_⟩
 ·cases c:sM d.op with
  |false=>rfl
  |true=>
   exfalso;have b:=c;simp only[sM,zA3,Bool.not_eq_true']at b;rcases g with h|h|h
   ·have:=(I.lou j d y c).1 h;omega
   ·rw[b.1]at h;cases h
   ·have:=Hw h;rw[b.1]at this;cases this
 ·rcases g with h|h|h
  ·exact h
  ·rw[Iy l]at h;cases h
  ·rw[MM l]at h;cases h
theorem zQ.frame (E:yU P tb w0 ih all n S HH gg) (c:Cl all D) (I:zQ w0 ρb n all (S 0) HH gg D a w t ρ pm) {k:Nat} {o:Oper} (e:TT all D k o):lP (IP ρ pm) n (FP (S k) (o.looksAt all.toArray)) a:=
 ⟨I.defers,I.size,λs g b=>by
  rw[Ew]at b;by_cases d:s∈o.looksAt all.toArray
  ·rw[if_pos d]at b;exact I.slot s g (e.look E c d b)
  ·rw[if_neg d]at b;cases b⟩
theorem zQ.frame' (E:yU P tb w0 ih all n S HH gg) (e:Cl all D) {k:Nat} (I:zQ w0 ρb n all (S 0) HH gg D a w k ρ pm) {o:Oper} (i:TT all D k o):lP ρ n (FP (S k) (o.looksAt all.toArray)) a:=by
 have F:=I.frame E e i;obtain⟨u,v,z,p,m⟩:=E.ghost k (Nat.le_of_lt (bP i.get));refine⟨F.defers,F.size,λs g b=> ?_⟩
 have q:=F.slot s g b;rw[Ew]at b;by_cases j:s∈o.looksAt all.toArray
 ·rw[if_pos j]at b;refine Ym (λh x l f d=> ?_) q (m.slot s g b);cases c:ρ h with
  |some y=>rw[Ag c]at d;exact d
  |none=>
   rw[Af c]at d;have r:=I.low E d;rw[p.fresh h r]at f;cases f
 ·rw[if_neg j]at b;cases b
theorem yU.st (E:yU P tb w0 ih all n S HH gg) {k:Nat} {o:Oper} (b:all[k]? = some o):HF tb ih all o (FP (S k) (o.looksAt all.toArray)) (HH k)=some (gg k,HH (k+1)):=by
 rw[<-E.trc.st k o b];exact Un λs c=>by rw[Ew,if_pos c]
theorem zQ.loads (E:yU P tb w0 ih all n S HH gg) (N:Cl all D) (I:zQ w0 ρb n all (S 0) HH gg D a w t ρ pm) (s:PC all D t) {k:Nat} {o:Oper} (z:TT all D k o) (c:pB o.op=true) {h:Nat} {W:GO} (hh:ldH (S k) o.op=some h) (i:(HH k).get h=some W):
    ∃p K J,zQ w0 ρb n all (S 0) HH gg D a w p K J∧IP K J=IP ρ pm∧(HH p).get h=some W:=by
  have hk:=bP z.get;have hq:=De c;have ae:pureOp tb o.op=false:=by cases Q:o.op<;>rw[Q]at c<;>first|rfl|cases c
  have aa:isFloat o.op=false:=by cases Q:o.op<;>rw[Q]at c<;>first|rfl|cases c
  obtain⟨v,V⟩:∃v,(HH k).ver h=some v:=by
    obtain⟨p,hp,_⟩:=aF.1 (show Gx.ob ((HH k).t.get h) _=some W from i);exact⟨p.1,by unfold GH.ver;rw[hp];rfl⟩
  obtain⟨v1,v2⟩:=E.vrs k o h v z.get c hh V;rcases zAo k t with H|H
  · -- later than in the text
    rcases s with e|⟨b,y,B,q⟩
    · omega
    have F:=B;simp only[sM,zA3]at F;have r:before (qJ all) (t - 1) k=false:=by
      cases r:before (qJ all) (t - 1) k with
      |false=>rfl
      |true=>have:=N _ _ q r hk;rw[z.undone]at this;cases this
    have ab:t - 1≠k:=λe=>by rw[e,z.undone]at q;cases q
    have:=v2 (t - 1) b (by omega) y F.1 r;rw[show t - 1+1=t by omega]at this;exact⟨t,ρ,pm,I,rfl,by rw[<-E.same (Nat.le_of_lt H) I.tm V this];exact i⟩
  · -- earlier,or there
    let f:Nat->Oper->Bool:=λj b=>sM b.op||(isFloat b.op && !D j)
    have first:∀d g,g+d=k->t<=g->(∀j b,t<=j->j<g->all[j]? = some b->f j b=false)->∃p,t<=p∧p<=k∧(∀j b,t<=j->j<p->all[j]? = some b->f j b=false)∧(p=k∨∃A,all[p]? = some A∧f p A=true):=by
      intro d
      induction d with
      |zero=>exact λg e U h=>⟨g,U,by omega,h,.inl (by omega)⟩
      | succ d ihd =>
        intro g e U h;have m:all[g]? = some all[g]:=zA0 (by omega);cases hl:f g all[g]with
        |true=>exact⟨g,U,by omega,h,.inr ⟨_,m,hl⟩⟩
        | false =>
          refine ihd (g+1) (by omega) (by omega) λj b y B C=> ?_;by_cases e:j=g
          · subst e;rw[m]at C;cases C;exact hl
          · exact h j b y (by omega) C
    obtain⟨p,ac,ad,R,T⟩:=first (k - t) t (by omega) (zAd _) (λj b y B=>by omega)
    obtain⟨Y,X,I1,e1⟩:=I.adoptTo E (p - t) t p ρ pm (by omega) (by omega) λj b y B C=>by
      have q:=R j b y B C;simp only[f,Bool.or_eq_false_iff,Bool.and_eq_false_iff,Bool.not_eq_false']at q;exact ⟨q.1, λO => by
          rcases q.2 with L | L; · rw [O] at L; cases L
          · exact L⟩
    refine⟨p,Y,X,I1,e1,?_⟩
    rcases T with e|⟨A,l,x⟩
    · rw[e];exact i
    · simp only[f,zAz,zA3,Bool.not_eq_true']at x;have u:fI A.op=true:=by
        rcases x with h|h
        · simp only[sM,zA3]at h;exact h.1
        · exact Iy h.1
      have G:p<k:=by
        rcases zAo p k with h|h
        · exact h
        · have:p=k:=by omega
          subst this;rw[z.get]at l;cases l;rw[hq]at u;cases u
      have M:D p=false:=by
        rcases x with h|h
        · cases hd:D p with
          |false=>rfl
          |true=>have:=(I.lou p A l h).1 hd;omega
        · exact h.2
      have r:before (qJ all) k p=false:=by
        cases r:before (qJ all) k p with
        |false=>rfl
        |true=>have:=z.past p r (by omega);rw[M]at this;cases this
      rw[E.same (Nat.le_of_lt G) (Nat.le_of_lt hk) (v1 p A G l u r) V];exact i
theorem zQ.step (E:yU P tb w0 ih all n S HH gg) (z:Cl all D) (I:zQ w0 ρb n all (S 0) HH gg D a w t ρ pm) (m:PC all D t) {k:Nat} {o:Oper} (A:TT all D k o) {Q:Exit->Act->World->Prop} {K:Act->World->Prop}
  (hK:∀a' w' t' aY O,zQ w0 ρb n all (S 0) HH gg (ins D k) a' w' t' aY O->PC all (ins D k) t'->K a' w'):Sx.wpOp P all.toArray Q k K a w:=by
 have hk:=bP A.get;obtain⟨_,ai,aS⟩:=vY (E.op A.get);have am:=E.st A.get;unfold Sx.wpOp;simp only[List.getElem?_toArray,A.get];cases hp:pureOp tb o.op with
 | true =>
  have Y:sM o.op=false:=by simp[sM,Hw hp]
  have aE:isFloat o.op=false:=by
   cases hf:isFloat o.op with
   |false=>rfl
   |true=>rw[MM hf]at hp;cases hp
  have F:=I.frame E z A;rcases Hi F am with⟨N,C⟩|⟨N,C,hH⟩
  ·rw[if_pos N];have aG:Nj o.op=true:=by
    rcases aS with h|⟨c,f,y,G⟩
    ·exact h
    ·obtain⟨a8,xs,ts⟩:=c;simp only at G;rw[y,G]at hp;cases hp
   obtain⟨_,v,hv,u⟩:=ZE (P:=P) E.tab F hp aG C;left;simp only[Oper.wp,u w,Oper.upon];exact hK _ _ t ρ pm (I.plain E z A Y (λh=>by rw[aE]at h;cases h) hv) m.ins
  ·rw[if_neg (by rw[N];simp)];exact hK _ _ t ρ pm (I.plain E z A Y (λh=>by rw[aE]at h;cases h) (by rw[C];exact .un)) m.ins
 | false =>
  cases hf:isFloat o.op with
  | true =>
   have Y:sM o.op=false:=by simp[sM,hf]
   have F:=I.frame E z A;rcases ON (P:=P) E.tab hf F am with⟨N,C,hH⟩|⟨N,cs,a',T',hH,hC,a0,u⟩
   ·rw[if_neg (by rw[N];simp)];exact hK _ _ t ρ pm (I.plain E z A Y (λ_=>hH) (by rw[C];exact .un)) m.ins
   ·rw[if_pos N];obtain⟨V,hV,aI⟩:=u w;left;simp only[Oper.wp,hV,Oper.upon];have aJ:t<=k:=by
     rcases zAo k t with h|h
     ·have:=I.flo k o A.get hf h;rw[A.undone]at this;cases this
     ·exact h
    let l:Ov:=⟨w.heap.size,0,a'.size,.cells a' T',.cells cs⟩
    have e:Oo w (w.alloc (.cells a' T')):=(Below.refl _ _).alloc (zAd _) _;have aX:ρ (HH k).n=none:=I.rel.fresh _ (E.mono' aJ (by omega));have aT:pm (HH k).n=none:=by
     cases U:pm (HH k).n with
     |none=>rfl
     |some W=>
      obtain⟨i,L,R,y,G,h3,h4,h5,h6⟩:=I.only _ _ U;have:=E.apart (bP y) hk h3 hH h6.symm;subst this;rw[A.undone]at h5;cases h5
    let O:=pm.upd (HH k).n l;have M:O (HH k).n=some l:=by simp[O,fC.upd]
    have J:∀h,h≠(HH k).n->O h=pm h:=λh hh=>by simp[O,fC.upd,hh]
    have ad:(IP ρ pm).le (IP ρ O):=λh W y=>by
     cases H:ρ h with
     |some l2=>rw[Ag H]at y;rw[Ag H];exact y
     |none=>
      rw[Af H]at y;rw[Af H,J h (λeh=>by subst eh;rw[aT]at y;cases y)];exact y
    have aP:IP ρ O (HH k).n=some l:=by rw[Af aX,M]
    obtain⟨p1,p2⟩:=Hx a o.dst V;have az:∀h W,pm h=some W->W.b<w.heap.size:=λh W y=>by
     obtain⟨i,L,R,q1,q2,q3,q4,q5,rfl⟩:=I.only _ _ y;obtain⟨l2,r1,_,_,r4,_⟩:=I.pend i L R q1 q2 q3 q4 q5;rw[y]at r1;cases r1;exact(zA9.1 r4).1
    refine hK _ _ t ρ O ⟨I.tm,λj oj hj ak=> ?_,λj oj hj ao aD=>Dc (I.flo j oj hj ao aD),I.rel.ext' e,I.up,by rw[p1];exact I.defers,by rw[p2];exact I.size,A.slot E.chk z ai I.size ad I.slot (aI _ aP),λi L R y G h3 h4 h5=> ?_,λh W ar=> ?_,λh h' W l2 y G hb=> ?_⟩ m.ins
    ·have e:j≠k:=λe=>by subst e;rw[A.get]at hj;cases hj;rw[Y]at ak;cases ak
     rw[Ck e];exact I.lou j oj hj ak
    ·by_cases ei:i=k
     ·subst ei;rw[hH]at h3;have:=Xx h3;subst this;refine⟨l,M,.inl I.rel.ext.size,?_,heap_alloc_new w _,⟨a',T',heap_alloc_new w _,rfl,by show 0+cs.length<=a'.size;omega,λj g C=> ?_⟩,rfl⟩
      ·rintro⟨h,o',l',C,ax,eb⟩;obtain⟨l2,r1,_,r3⟩:=I.rel.live h o' C;rw[ax]at r1;cases r1;have:=r3.lt;rw[eb]at this;exact absurd this (Nat.lt_irrefl _)
      ·obtain⟨x,hx,aU⟩:=hC.r.get C;rw[zAe]at hx;exact⟨x,by show a'[0+j]? = some x;simpa using hx,aU.le ad,Qm hC.one hx⟩
     ·rw[Ck ei]at h5;obtain⟨W,a1,a2,a3,a4,a5,a6⟩:=I.pend i L R y G h3 h4 h5;have aR:(HH i).n≠(HH k).n:=λeh=>ei (E.apart (bP y) hk h3 hH eh);have hb:=az _ _ a1;exact⟨W,by rw[J _ aR];exact a1,a2,a3,by rw[e.block _ hb];exact a4,a5.move ad (e.block _ hb),a6⟩
    ·by_cases eh:h=(HH k).n
     ·exact⟨k,o,cs,A.get,hf,hH,aJ,Dd D k,eh⟩
     ·rw[J h eh]at ar;obtain⟨i,L,R,q1,q2,q3,q4,q5,q6⟩:=I.only h W ar;exact⟨i,L,R,q1,q2,q3,q4,Dc q5,q6⟩
    ·by_cases eh:h=(HH k).n
     ·by_cases ah:h'=(HH k).n
      ·rw[eh,ah]
      ·rw[J h' ah]at G;subst eh;rw[M]at y;cases y;have:=az _ _ G;rw[<-hb]at this;exact absurd this (Nat.lt_irrefl _)
     ·rw[J h eh]at y;by_cases ah:h'=(HH k).n
      ·subst ah;rw[M]at G;cases G;have:=az _ _ y;rw[hb]at this;exact absurd this (Nat.lt_irrefl _)
      ·rw[J h' ah]at G;exact I.inj h h' W l2 y G hb
  | false =>
   cases aj:pB o.op with
   | true =>
    have Y:sM o.op=false:=by simp[sM,De aj]
    have F0:=I.frame E z A;rcases Hi F0 am with⟨N,C⟩|⟨N,C,hH⟩
    ·rw[if_pos N];have aH:∃T x,o.op = .load T x:=by
      cases ho:o.op<;>rw[ho]at aj<;>first|exact⟨_,_,rfl⟩|cases aj
     obtain⟨T,x,al⟩:=aH;rw[al]at C;obtain⟨va,aL,C⟩:=aF.1 (show ob (lB (FP (S k) (o.looksAt all.toArray)) x) _=some (gg k,HH (k+1))from C);obtain⟨g',av,aQ⟩:=aF.1 C;have eg:g'=gg k:=by
      have:=congrArg (λo=>o.map Prod.fst) (show some (g',HH k)=some (gg k,HH (k+1))from aQ);simpa using this
     rw[eg]at av;obtain⟨q,U,hc⟩:=aF.1 (show ob va.asP _=some (gg k)from av);obtain⟨cs,aO,hc⟩:=aF.1 hc;have aA:=jL.1 aO;have aW:∀s,x = .tmp s->s∈o.looksAt all.toArray:=λs e=>List.mem_append_left _ (List.mem_filterMap.2 ⟨.tmp s,by rw[al,e];simp[Op.operands],rfl⟩);have aM:lB (S k) x=some va:=by
      rw[<-aL];cases x with
      |tmp s=>
       show HG (S k) s=HG (FP (S k) (o.looksAt all.toArray)) s;rw[Ew,if_pos (aW s Z)]
      |_=>rfl
     have hh:ldH (S k) o.op=some q.1:=by
      rw[al];show ob (lB (S k) x) _=_;rw[aM];show ob va.asP _=_;rw[U];rfl
     obtain⟨p,ag,af,B,ap,aB⟩:=I.loads E z m A aj hh aA;have aK:=dA F0 aL;have aV:Rl ag va (a.eval x):=by
      rw[Gm U]at aK ⊢;obtain⟨l,Y,e⟩:=aK.ptr_inv;obtain⟨W,aC,_⟩:=B.rel.live _ _ aB;rw[<-ap,Ag aC]at Y;cases Y;rw[e];exact .ptr _ aC
     have ay:wD tb T va (HH p)=some (gg k):=by
      show ob va.asP _=_;rw[U];show ob ((HH p).cells q.1) _=_;rw[jL.2 aB];exact hc
     obtain⟨X,_,l,_,_,_,hX,u⟩:=NL (P:=P) E.tab B.rel aV ay;left;have H:(execOp a.eval o).run P w = .ok (.value X) w:=by
      have:=u w Z;obtain⟨d,op,ty,a9,a7,gd⟩:=o;simp only at al;subst al;simp[execOp,this]
     simp only[Oper.wp,H,Oper.upon];exact hK _ _ t ρ pm (I.plain E z A Y (λh=>by rw[hf]at h;cases h) (by rw[<-ap];exact hX.le Jn)) m.ins
    ·rw[if_neg (by rw[N];simp)];exact hK _ _ t ρ pm (I.plain E z A Y (λh=>by rw[hf]at h;cases h) (by rw[C];exact .un)) m.ins
   |false=>
   obtain⟨ag,af,B,ap⟩:=I.reach E z m A hp hf aj;have F:=B.frame' E z A;cases ae:fI o.op with
   | false =>
    have Y:sM o.op=false:=by simp[sM,ae]
    have an:∀v,Rl ag (gg k) v->zQ w0 ρb n all (S 0) HH gg (ins D k) (a.put o.dst v) w t ρ pm:=λv hv=>
     I.plain E z A Y (λh=>by rw[hf]at h;cases h) (by rw[<-ap];exact hv.le Jn)
    rcases LP E.tab (E.call w0) (E.op A.get) F B.rel am with⟨N,hs⟩|⟨N,C,hH⟩
    ·rw[if_pos N];left;rcases hs with⟨_,_,_,_,v,hv,u⟩|⟨_,_,_,v,_,_,_,_,_,hv,u⟩|⟨_,_,_,v,hv,u⟩|⟨U,_⟩
     ·simp only[Oper.wp,u w,Oper.upon];exact hK _ _ t ρ pm (an v hv) m.ins
     ·simp only[Oper.wp,u w Z,Oper.upon];exact hK _ _ t ρ pm (an v hv) m.ins
     ·simp only[Oper.wp,u,Oper.upon];exact hK _ _ t ρ pm (an v hv) m.ins
     ·rw[ae]at U;cases U
    ·rw[if_neg (by rw[N];simp)];exact hK _ _ t ρ pm (an undef (by rw[C];exact .un)) m.ins
   | true =>
    have Y:sM o.op=true:=by simp[sM,ae,hf]
    have aq:∀(i:Nat) (L:Oper) (R:List GV),all[i]? = some L->isFloat L.op=true->i≠k:=λi L R y G e=>by
     subst e;rw[A.get]at y;cases y;rw[hf]at G;cases G
    have aw:∀j o,all[j]? = some o->sM o.op=true->(ins D k j=true↔j<k+1):=λj oj hj ak=>by
     by_cases e:j=k
     ·subst e;simp[Dd]
     ·rw[Ck e,B.lou j oj hj ak];omega
    have au:∀j o,all[j]? = some o->isFloat o.op=true->j<k+1->ins D k j=true:=λj oj hj ao aD=>by
     have:=aq j oj [] hj ao;exact Dc (B.flo j oj hj ao (by omega))
    have aa:∀h l,af h=some l->∃i o cs,all[i]? = some o∧isFloat o.op=true∧HH (i+1)=(HH i).new (.cells cs)∧k+1<=i∧ins D k i=true∧h=(HH i).n:=λh l ar=>by
     obtain⟨i,L,R,q1,q2,q3,q4,q5,q6⟩:=B.only h l ar;have:=aq i L R q1 q2;exact⟨i,L,R,q1,q2,q3,by omega,Dc q5,q6⟩
    have ac:PC all (ins D k) (k+1):= .inr ⟨o,by simpa using A.get,Y,by simp[Dd]⟩;rcases LP E.tab (E.call B.rel.base) (E.op A.get) F B.rel.rebase am with⟨N,hs⟩|⟨N,C,hH⟩
    ·rw[if_pos N];left;rcases hs with⟨U,_⟩|⟨U,_⟩|⟨U,_⟩|⟨_,u⟩
     ·rw[ae]at U;cases U
     ·rw[ae]at U;cases U
     ·rw[ae]at U;cases U
     refine Ni (u _ λaN w2 v ad R2 hv=>hK _ _ (k+1) aN af ?_ ac);obtain⟨R3,ab⟩:=B.rel.back R2;have hj:(IP ag af).le (IP aN af):=λh l y=>by
      cases H:ag h with
      |some l2=>rw[Ag H]at y;cases y;exact Ag (ad _ _ H)
      |none=>
       rw[Af H]at y;obtain⟨i,L,R,q1,q2,q3,q4,q5,rfl⟩:=aa h l y;rw[Af (R2.fresh _ (E.mono' q4 (Nat.le_of_lt (bP q1))))];exact y
     obtain⟨p1,p2⟩:=Hx a o.dst v;refine⟨hk,aw,au,R3,fC.le_trans B.up ad,by rw[p1];exact B.defers,by rw[p2];exact B.size,A.slot E.chk z ai B.size hj B.slot (hv.le Jn),λi L R y G h3 h4 h5=> ?_,aa,B.inj⟩
     rw[Ck (aq i L R y G)]at h5;obtain⟨W,a1,a2,a3,a4,a5,a6⟩:=B.pend i L R y G h3 (by omega) h5;have hb:W.b<w.heap.size:=(zA9.1 a4).1;refine⟨W,a1,a2,?_,by rw[ab _ hb a3];exact a4,a5.move hj (ab _ hb a3),a6⟩
     rintro⟨h,o',l',C,ax,eb⟩;obtain⟨l2,r1,r2,_⟩:=R2.live h o' C;rw[ax]at r1;cases r1;rw[eb]at r2;rcases r2 with r2|r2
     ·have:w.heap.size<=W.b:=r2;omega
     ·exact a3 r2
    ·rw[if_neg (by rw[N];simp)];obtain⟨p1,p2⟩:=Hx a o.dst undef;refine hK _ _ (k+1) ag af ⟨hk,aw,au,by rw[hH];exact B.rel,B.up,by rw[p1];exact B.defers,by rw[p2];exact B.size,A.slot E.chk z ai B.size (fC.le_refl _) B.slot (by rw[C];exact .un),λi L R y G h3 h4 h5=> ?_,aa,B.inj⟩ ac;rw[Ck (aq i L R y G)]at h5;rw[hH];exact B.pend i L R y G h3 (by omega) h5
theorem zQ.done (E:yU P tb w0 ih all n S HH gg) (I:zQ w0 ρb n all (S 0) HH gg D a w t ρ pm) (b:∀i,i<all.length->D i=true):∃f,ρb.le f∧gH w0 f (HH all.length) w∧lP f n (S all.length) a:=by
 obtain⟨d,e,k,_⟩:=I.adoptTo E (all.length - t) t all.length ρ pm (by have:=I.tm;omega) (zAd _) λj q m p c=>by
  refine⟨?_,λ_=>b j p⟩
  cases B:sM q.op with
  |false=>rfl
  |true=>have:=(I.lou j q c B).1 (b j p);omega
 refine⟨d,k.up,k.rel,k.defers,k.size,λs g A=> ?_⟩
 have r:∀h,e h=none:=λh=>by
  cases C:e h with
  |none=>rfl
  |some l=>
   obtain⟨i,H,G,m,_,_,u,_⟩:=k.only h l C;have:=bP m;omega
 have c:IP d e=d:=by
  funext h;unfold IP;rw[r];cases d h<;>rfl
 have F:SlD all (S 0) gg D s g:=by
  rcases NK E.trc all.length (zAd _) A with⟨i,o,m,p,v,u,x⟩|⟨m,p⟩
  ·refine .inl ⟨i,o,b i m,p,v,u,λj q y c z=> ?_⟩;rcases zAo i j with h|h
   ·exact absurd z (x j q h (bP c) c)
   ·exact h
  ·exact .inr ⟨λj q y c=>m j q (bP c) c,p⟩
 have:=k.slot s g F;rwa[c]at this
theorem Xg (E:yU P tb w0 ih all n S HH gg) {Q:Exit->Act->World->Prop} (hQ:∀c K M,ρb.le c->gH w0 c (HH all.length) M->lP c n (S all.length) K->Q .normal K M):
  ∀(d:Nat) (L:List Nat) (b:Array Bool) (a:Act) (w:World) (t:Nat) (ρ pm:fC),L.length<=d->b.size=all.length->(∀i,i<all.length->b.getD i false=false->i∈L)->Cl all (λj=>b.getD j false)->
  zQ w0 ρb n all (S 0) HH gg (λj=>b.getD j false) a w t ρ pm->PC all (λj=>b.getD j false) t->Sx.wpAny P .any all.toArray Q d b a w:=by
 intro d
 induction d with
 | zero =>
  intro L b a w t ρ pm G J g m I h;have hL:L=[]:=zAp (by omega);subst hL;have f:∀i,i<all.length->b.getD i false=true:=λi r=>by
   cases u:b.getD i false with
   |true=>rfl
   |false=>have:=g i r u;simp at this
  refine⟨?_,?_⟩
  ·rw[List.eq_nil_iff_forall_not_mem];intro i r;obtain⟨l,o,s,_⟩:=mem_ready.1 r;have W:i<all.length:=by have:=(zA9.1 s).1;simpa using this
   have:=f i W;have hs:i<b.size:=by omega
   simp[hs]at this l;rw[l]at this;cases this
  ·obtain⟨c,l,N,O⟩:=I.done E f;exact hQ c a w l N O
 | succ d ihf =>
  intro L b a w t ρ pm G J g m I h;refine⟨λY=> ?_,λk hk=> ?_⟩
  ·have f:∀i,i<all.length->b.getD i false=true:=by
    intro i
    induction i using Nat.strongRecOn with
    | ind i ihi =>
     intro r;cases u:b.getD i false with
     |true=>rfl
     | false =>
      exfalso;have s:all[i]? = some all[i]:=zA0 r;have H:i∈Region.ready .any all.toArray b:=by
       refine mem_ready.2 ⟨?_,all[i],by simp,λe R v=> ?_⟩
       ·have hs:i<b.size:=by omega
        simp[hs]at u ⊢;exact u
       ·have U:e.on∈wC all[i]:=zB4.2 ⟨e,List.mem_filter.2 ⟨by simpa using R,v⟩,rfl⟩;have:=(E.chk.edge i _ s e.on U).1;exact ihi e.on this (by omega)
      rw[Y]at H;simp at H
   obtain⟨c,l,N,O⟩:=I.done E f;exact hQ c a w l N O
  ·obtain⟨l,o,X,q⟩:=mem_ready.1 hk;have s:all[k]? = some o:=by simpa using X
   have V:k<all.length:=bP s;have F:k<b.size:=by omega
   have x:b.getD k false=false:=by simp[F]at l ⊢;exact l
   have hr:TT all (λj=>b.getD j false) k o:=by
    refine⟨s,x,λj v B=> ?_⟩
    obtain⟨_,e,R,hej⟩:=E.chk.trans k o s j v B;obtain⟨ed,T,rfl⟩:=zB4.1 R;obtain⟨z,A⟩:=List.mem_filter.1 T;have hl:=q ed (by simpa using z) A;rcases hej with rfl|hej
    ·exact hl
    ·exact m _ _ hl hej B
   have y:(λj=>(b.setIfInBounds k true).getD j false)=ins (λj=>b.getD j false) k:=by
    funext j;by_cases e:j=k
    ·subst e;rw[Dd];simp[F]
    ·rw[Ck e];exact getD_set_ne false (Ne.symm e)
   refine I.step E m h hr λK M t' c aa I' p=> ?_;refine ihf (L.erase k) _ K M t' c aa ?_ (by simp[J]) (λi r u=> ?_) ?_ (by rw[y];exact I') (by rw[y];exact p)
   ·have hm:=g k V x;rw[List.length_erase_of_mem hm];omega
   ·have e:i≠k:=λe=>by
     subst e;have:=congrFun y i;rw[Dd]at this;rw[u]at this;cases this
    have:b.getD i false=false:=by
     have:=congrFun y i;rw[Ck e]at this;rw[<-this];exact u
    exact(List.mem_erase_of_ne e).2 (g i r this)
   ·rw[y];intro j k' B v C;by_cases e:j=k
    ·subst e;exact Dc (hr.past k' v C)
    ·rw[Ck e]at B;exact Dc (m j k' B v C)
theorem Qi (hG:gG P tb) (e:∀w0:fR gs,tZ P w0 ih) (hm:P.follows .mixedOrders=true) {b:List Oper} {id:Nat} (f:b.all (Ks n)=true) (N:chkF tb b (qJ b)=true) {k:GS->RS} {s:GS} {p:RE} {ρ:fC} {a:Act} {w:World} {Q:Exit->Act->World->Prop} (F:lP ρ n s.σ a) (R:gH w0 ρ s.H w) (h:(HU tb ih b k b s=some p∧Hu b pB=true)∨evW tb ih b (qJ b) k b 0 [] [] s=some p)
  (r:∀G m I L,k G=some p->ρ.le m->lP m n G.σ I->gH w0 m G.H L->Q .normal I L):(Code.region id b.toArray true).wpr none P Q a w:=by
 have W:b.all kK=true:=zA4.2 λo U=>(vY (zA4.1 f o U)).1;obtain⟨S,HH,gg,z,A,T,C,c⟩:∃S HH gg,S 0=s.σ∧HH 0=s.H∧Trc tb ih b b S HH gg∧(∀k y h v,b[k]? = some y->pB y.op=true->ldH (S k) y.op=some h->(HH k).ver h=some v->
   (∀j u,j<k->b[j]? = some u->fI u.op=true->before (qJ b) k j=false->(HH j).ver h=some v)∧(∀j u,k<j->b[j]? = some u->fI u.op=true->before (qJ b) j k=false->(HH (j+1)).ver h=some v))∧k ⟨S b.length,HH b.length⟩=some p:=by
  rcases h with⟨h,ho⟩|h
  ·obtain⟨S,HH,gg,z,A,T,c⟩:=OH b s h;refine⟨S,HH,gg,z,A,T,λk y h v r K _ _=>⟨λj u O q x B=> ?_,λj u O q x B=> ?_⟩,c⟩
   ·rcases Js ho r q K x with d|d
    ·rw[d]at B;cases B
    ·have:=((Kf N).trans j u q k d (bP r)).1;omega
   ·rcases Js ho r q K x with d|d
    ·have:=((Kf N).trans k y r j d (bP q)).1;omega
    ·rw[d]at B;cases B
  ·obtain⟨S,HH,gg,z,A,T,V,c⟩:=LQ b 0 [] [] s h;exact⟨S,HH,gg,z,A,T,λk y h v r K hh hv=>by have:=V.lo k y h v r K hh hv;simpa using this,c⟩
 rw[<-z]at F;rw[<-A]at R;have E:yU P tb w0 ih b n S HH gg:=⟨hG,e,f,Kf N,T,C,Pg hG (e w0) f T F R _ (zAd _)⟩
 have J:∀j,(Array.replicate b.length false).getD j false=false:=λj=>by
  by_cases h:j<b.length<;>simp[h]
 refine Ha W hm ?_;have Y:b.toArray.size=b.length:=by simp
 rw[Y];refine Xg (ρb:=ρ) E (λm I L h0 d M=>r ⟨S b.length,HH b.length⟩ m I L c h0 M d) b.length (List.range b.length) _ a _ 0 ρ (λ_=>none) (by simp) (by simp) (λi hi _=>zAm.2 hi) (λj k' q=>by simp only[J]at q;cases q) ?_ (.inl Z);refine⟨Nat.zero_le _,λj o _ _=>by simp only[J];simp,λj o _ _ h=>absurd h (Nat.not_lt_zero j),R.ext' ((Below.refl _ _).drew),fC.le_refl _,F.defers,F.size,λG g hs=> ?_,λi o cs _ _ _ _ h5=>(by simp only[J]at h5;cases h5),λh l X=>(by cases X),λh h' l l' X=>(by cases X)⟩
 rcases hs with⟨i,o,d,_⟩|⟨_,M⟩
 ·simp only[J]at d;cases d
 ·exact(F.slot G g M).le Jn
end
def JY (c:TB) (n:Nat):Code->Bool
 | .skip | .exit _ | .ret=>true
 | .region _ ops dr=>ops.toList.all (Ks n)&&(!dr||chkF c ops.toList (qJ ops.toList))
 | .seq a b=>JY c n a&&JY c n b
 | .cond _ a b=>JY c n a&&JY c n b
 | .block _ b=>JY c n b
 | .loop b=>JY c n b
 |_=>false
section
variable {P:Program} {G:GP} {tb:TB} {Fs:FT} {gs:BV} {w0:fR gs}
def Gh (P:Program) (c:Code) (Q:Exit->Act->World->Prop) (a:Act) (w:World):Prop:=
 ∀(b:Frame) (k:List Item) (d:List Frame),b.roundOf=(FR none).round->(FR none).fn b.fn->(FR none).room (d.length+1+0)->
  ∃e f g,Q e f g∧ArrivesIn (Machine.fenced P (FR none)) P (lone (b.atR a (.code c :: .inLoop c::k)) d w) b k d e f g
theorem Gh.loop {c:Code} {Q:Exit->Act->World->Prop} {a:Act} {w:World} (h:Gh P c Q a w):(Code.loop c).wpr none P Q a w:=by
 intro b k l f g i;obtain⟨e,j,n,m,d⟩:=h b k l f g i;exact⟨e,j,n,m,.of_steps (.one (fenced_calm g i Z) stepR_loop) d⟩
theorem Gh.round {c:Code} {Q:Exit->Act->World->Prop} {a:Act} {w:World} (h:c.wpr none P (Exit.then (Gh P c Q) Q) a w):Gh P c Q a w:=by
 intro b k t p r s;obtain⟨e,f,g,m,d⟩:=h b (.inLoop c::k) t p r s;cases e with
 |normal=>
  obtain⟨o,n,q,j,i⟩:=m b k t p r s;exact⟨o,n,q,j,.of_steps (StepsIn.trans d (.one (fenced_calm r s Z) stepR_inLoop)) i⟩
 |exit id=>exact⟨_,f,g,m,.pass (x:= .inLoop c) Z (λ_ _=> .inl (by simp)) d⟩
 |goto l=>exact⟨_,f,g,m,.pass (x:= .inLoop c) Z (λ_ _=> .inl (by simp)) d⟩
 |ret=>exact⟨_,f,g,m,.pass (x:= .inLoop c) Z (λ_ _=> .inl (by simp)) d⟩
 |panic u=>exact⟨_,f,g,m,.pass (x:= .inLoop c) Z (λ_ _=> .inl (by simp)) d⟩
 |outgrown=>exact⟨_,f,g,m,.pass (x:= .inLoop c) Z (λ_ _=> .inl (by simp)) d⟩
noncomputable def LR (a:Cx) (id:Nat) (s:GS):RS:=some ⟨.exit id,EE s.σ (lZ (D_ a.env id)),s.H⟩
structure Yc {gs:BV} (w0:fR gs) (tb:TB) (n:Nat) (cx:Cx) (k:GS->RS) (out:RE) (ρ:fC) (Q:Exit->Act->World->Prop):Prop where
 k:∀s' ρ' a' w',k s'=some out->ρ.le ρ'->lP ρ' n s'.σ a'->gH w0 ρ' s'.H w'->Q .normal a' w'
 x:∀id s' ρ' a' w',LR cx id s'=some out->ρ.le ρ'->lP ρ' n s'.σ a'->gH w0 ρ' s'.H w'->Q (.exit id) a' w'
 r:∀s' ρ' a' w',UL tb cx s'=some out->ρ.le ρ'->lP ρ' n s'.σ a'->gH w0 ρ' s'.H w'->Q .ret a' w'
def Ka (P:Program) {gs:BV} (w0:fR gs) (tb:TB) (l:LH):Prop:=∀b h j H d,l b h j H=some d->∀n k i a w Q,JY tb n b=true->kR (lZ (live (.loop b) 0 h)) j some=some k->lP i n k a->gH w0 i H w->
 (∀id e c f g,LR h id e=some d->i.le c->lP c n e.σ f->gH w0 c e.H g->Q (.exit id) f g)->
 (∀e c f g,UL tb h e=some d->i.le c->lP c n e.σ f->gH w0 c e.H g->Q .ret f g)->Gh P b Q a w
theorem QF {b:Cx} {s:GS} {a:RE} (h:UL tb b s=some a):a.e = .ret:=by
 obtain⟨c,_,h⟩:=aF.1 (show ob (SZ tb s b.res) _=some a from h);cases h;rfl
theorem CU {b:Cx} {id:Nat} {s:GS} {a:RE} (h:LR b id s=some a):a.e = .exit id:=by cases h;rfl
theorem UK {b:List Nat} {s:GS} {a:RE} (h:Jw b s=some a):a.e = .normal∧a.vs=EE s.σ b∧a.H=s.H:=by cases h;exact⟨rfl,rfl,rfl⟩
theorem UC {n:Nat} {m:Cx} {j:List Nat} {k:GS->RS} {o b:RE} {l:fC} {Q:Exit->Act->World->Prop} (L:Yc w0 tb n m k b l Q) (h:kR j o.vs (λg=>k ⟨g,o.H⟩)=some b) {c:GS} {a:fC} {d:Act} {f:World}
  (r:o.vs=EE c.σ j) (q:o.H=c.H) (e:l.le a) (F:lP a n c.σ d) (R:gH w0 a c.H f):Q .normal d f:=by
 obtain⟨g,i,p⟩:=sI h;rw[r]at i;exact L.k ⟨g,o.H⟩ a d f p e (LY F i) (by rw[q];exact R)
theorem Fc {M:CH} {W:LH} (O:gG P tb) (V:P.follows .mixedOrders=true) (j:∀w0:fR gs,tZ P w0 M) (p:Ka P w0 tb W) {n:Nat}:∀(c:Code) (m:Nat) (f:Cx) (k:GS->RS) (s:GS) (d:RE) (q:fC) (a:Act) (w:World) (Q:Exit->Act->World->Prop),
  JY tb n c=true->evC tb M W c m f k s=some d->lP q n s.σ a->gH w0 q s.H w->Yc w0 tb n f k d q Q->c.wpr none P Q a w
 | .skip,m,f,k,s,d,q,a,w,Q,_,h,F,R,L=>TD (L.k s q a w h (fC.le_refl _) F R)
 | .region id ops dr, m, f, k, s, d, q, a, w, Q, ho, h, F, R, L => by
  have l:ops.toList.all (Ks n)=true∧(!dr||chkF tb ops.toList (qJ ops.toList))=true:=by simpa [JY]using ho
  have ad:ops.toList.all kK=true:=zA4.2 λo ac=>(vY (zA4.1 l.1 o ac)).1;have N:Bool.casesOn (motive:=λ_=>RS) (afW dr ops.toList) (HU tb M ops.toList k ops.toList s) (evW tb M ops.toList (qJ ops.toList) k ops.toList 0 [] [] s)=some d:=h;have e:ops=ops.toList.toArray:=by simp
  cases dr with
  |false=>
   rw[e];exact vH ad (Jh O (j w0) ops.toList s q a w l.1 F R N L.k)
  | true =>
   rw[e];have hF:chkF tb ops.toList (qJ ops.toList)=true:=by simpa using l.2
   have u:(HU tb M ops.toList k ops.toList s=some d∧Hu ops.toList pB=true)∨evW tb M ops.toList (qJ ops.toList) k ops.toList 0 [] [] s=some d:=by
    cases T:afW true ops.toList with
    |true=>rw[T]at N;exact .inr N
    |false=>
     rw[T]at N;have:(!Hu ops.toList pB)=false:=T;exact .inl ⟨N,by simpa using this⟩
   exact Qi O j V l.1 hF F R u L.k
 | .seq x y,m,f,k,s,d,q,a,w,Q,ho,h,F,R,L=>by
  have l:JY tb n x=true∧JY tb n y=true:=by simpa [JY]using ho
  refine WI (Fc O V j p x (live y m f) f (evC tb M W y m f k) s d q a w _ l.1 h F R ⟨λA t E I z g B C=> ?_,L.x,L.r⟩);exact Fc O V j p y m f k A d t E I Q l.2 z B C ⟨λs2 K X w2 J u=>L.k s2 K X w2 J (fC.le_trans g u),λid s2 K X w2 J u=>L.x id s2 K X w2 J (fC.le_trans g u),λs2 K X w2 J u=>L.r s2 K X w2 J (fC.le_trans g u)⟩
 | .cond x thn els, m, f, k, s, d, q, a, w, Q, ho, h, F, R, L => by
  have l:JY tb n thn=true∧JY tb n els=true:=by simpa [JY]using ho
  obtain⟨v,hv,h⟩:=aF.1 (show ob (lB s.σ x) _=some d from h);obtain⟨b,U,h⟩:=aF.1 h;obtain⟨o,J,h⟩:=aF.1 (show ob _ (λo=>Ex.casesOn (motive:=λ_=>RS) o.e (kR (lZ m) o.vs λσ=>k ⟨σ,o.H⟩) (λ_=>some o) (some o))=some d from h);have hx:=dA F hv;rw[DW U]at hx;have L':Yc w0 tb n f (Jw (lZ m)) o q Q:=by
   refine⟨λA t E I z g B C=> ?_,λid A t E I z g B C=> ?_,λA t E I z g B C=> ?_⟩
   ·obtain⟨D,e2,e3⟩:=UK z;rw[D]at h;exact UC L h e2 e3 g B C
   ·have D:=CU z;rw[D]at h;cases h;exact L.x id A t E I z g B C
   ·have D:=QF z;rw[D]at h;cases h;exact L.r A t E I z g B C
  refine G_ hx.bool_inv (λab=> ?_) (λaa=> ?_)
  ·rw[ab]at J;exact Fc O V j p thn m f (Jw (lZ m)) s o q a w Q l.1 J F R L'
  ·rw[aa]at J;exact Fc O V j p els m f (Jw (lZ m)) s o q a w Q l.2 J F R L'
 | .block id b, m, f, k, s, d, q, a, w, Q, ho, h, F, R, L => by
  have l:JY tb n b=true:=by simpa [JY]using ho
  obtain⟨o2,u,h⟩:=aF.1 (show ob (nB id (evC tb M W b m ⟨f.res,f.retm,(id,m)::f.env⟩ (Jw (lZ m)) s)) (λo=>Ex.casesOn (motive:=λ_=>RS) o.e (kR (lZ m) o.vs λσ=>k ⟨σ,o.H⟩) (λ_=>some o) (some o))=some d from h);obtain⟨o,J,u⟩:=aF.1 (show ob (evC tb M W b m ⟨f.res,f.retm,(id,m)::f.env⟩ (Jw (lZ m)) s) (λo=>Ex.casesOn (motive:=λ_=>RS) o.e (some o) (λi=>Bool.casesOn (motive:=λ_=>RS) (Nat.beq i id) (some o) (some ⟨.normal,o.vs,o.H⟩)) (some o))=some o2 from u);refine Ps (Fc O V j p b m _ (Jw (lZ m)) s o q a w _ l J F R ⟨λA t E I z g B C=> ?_,λi A t E I z g B C=> ?_,λA t E I z g B C=> ?_⟩)
  ·obtain⟨D,e2,e3⟩:=UK z;rw[D]at u;cases u;rw[D]at h;exact UC L h e2 e3 g B C
  ·have D:=CU z;rw[D]at u;by_cases hi:i=id
   ·subst hi;have U:Nat.beq i i=true:=by simp
    simp only[U]at u;cases u;show Exit.inBlock i Q (.exit i) E I;simp only[Exit.inBlock,if_true];have S:o=⟨.exit i,EE A.σ (lZ (D_ ((i,m)::f.env) i)),A.H⟩:=by cases z;rfl
    have he:D_ ((i,m)::f.env) i=m:=by
     show(bif Nat.beq i i then m else D_ f.env i)=m;rw[U];rfl
    rw[he]at S;exact UC (o:=⟨.normal,o.vs,o.H⟩) L h (by rw[S]) (by rw[S]) g B C
   ·have U:Nat.beq i id=false:=nS hi;simp only[U]at u;cases u;rw[D]at h;cases h;show Exit.inBlock id Q (.exit i) E I;simp only[Exit.inBlock,if_neg hi];refine L.x i A t E I ?_ g B C;have he:D_ ((id,m)::f.env) i=D_ f.env i:=by
     show(bif Nat.beq id i then m else D_ f.env i)=_;rw[nS (Ne.symm hi)];rfl
    rw[<-z];show LR f i A=some ⟨.exit i,EE A.σ (lZ (D_ ((id,m)::f.env) i)),A.H⟩;rw[he];rfl
  ·have D:=QF z;rw[D]at u;cases u;rw[D]at h;cases h;exact L.r A t E I z g B C
 | .loop b,m,f,k,s,d,q,a,w,Q,ho,h,F,R,L=>by
  have l:JY tb n b=true:=by simpa [JY]using ho
  have N:W b f (EE s.σ (lZ (live (.loop b) 0 f))) s.H=some d:=h;have ae:=QD s.σ (lZ (live (.loop b) 0 f));obtain⟨σ,Y⟩:=ae;exact Gh.loop (p b f _ s.H d N n σ q a w Q l Y (LY F Y) R L.x L.r)
 | .exit id,m,f,k,s,d,q,a,w,Q,_,h,F,R,L=>TC (L.x id s q a w h (fC.le_refl _) F R)
 | .ret,m,f,k,s,d,q,a,w,Q,_,h,F,R,L=>WH (L.r s q a w h (fC.le_refl _) F R)
 | .rangeFunc _ _ _ _,m,f,k,s,d,q,a,w,Q,ho,_,_,_,_=>by simp[JY]at ho
 | .scope _,m,f,k,s,d,q,a,w,Q,ho,_,_,_,_=>by simp[JY]at ho
 | .label _,m,f,k,s,d,q,a,w,Q,ho,_,_,_,_=>by simp[JY]at ho
 | .goto _,m,f,k,s,d,q,a,w,Q,ho,_,_,_,_=>by simp[JY]at ho
 | .refuse _,m,f,k,s,d,q,a,w,Q,ho,_,_,_,_=>by simp[JY]at ho
theorem adt (j:gG P tb) {n:Nat} {s:GS} {f:fC} {a:Act} {w:World} (F:lP f n s.σ a) (R:gH w0 f s.H w) {r:ResultVar} {g:GV} (h:afK tb s r=some g):∃v,Rl f g v∧(Ia a.tmps r).run P w = .ok v w:=by
 cases r with
 |tmp t=>exact⟨_,F.slot t g h,by simp[Ia,Act.eval]⟩
 |cell q T=>
  obtain⟨v,m,h⟩:=aF.1 (show ob (HG s.σ q) _=some g from h);have d:=F.slot q v m;obtain⟨x,_,_,_,_,_,o,c⟩:=NL (P:=P) j R d h;have c:=c w Z;refine⟨x,o,?_⟩
  obtain⟨p,k,_⟩:=aF.1 (show ob v.asP _=some g from h);rw[Gm k]at d;obtain⟨l,u,e⟩:=d.ptr_inv;have i:a.tmps.getD q undef = .pointer (some ⟨l.b,l.off+p.2,none⟩):=e;rw[e]at c;simp only[Instr.loadAt,Instr.sureAddr]at c;simp only[Ia,i,asAddr];simpa using c
theorem S_ (f:gG P tb) {n:Nat} {s:GS} {e:fC} {a:Act} {w:World} (F:lP e n s.σ a) (R:gH w0 e s.H w):∀{l:List ResultVar} {gs:List GV},SZ tb s l=some gs->∃b,pO e gs b∧(l.mapM (Ia a.tmps)).run P w = .ok b w
 | [],gs,h=>by cases h;exact⟨[],.nil,by simp⟩
 |r::l,gs,h=>by
  obtain⟨g,m,h⟩:=aF.1 (show ob (afK tb s r) (λv=>ob (SZ tb s l) λb=>some (v::b))=some gs from h);obtain⟨i,c,h⟩:=aF.1 h;cases h;obtain⟨v,o,j⟩:=adt (P:=P) f F R m;obtain⟨b,d,k⟩:=S_ f F R c;exact⟨v::b,.cons o d,by simp[List.mapM_cons,j,k]⟩
theorem aaf {b:fC} {gs:List GV} {a:List Value} (h:pO b gs a):Rl b (XA gs) (if h:a.toArray.size=1 then a.toArray[0]else .tuple a.toArray):=by
 cases gs with
 |nil=>rw[h.of_nil];exact LD .nil
 | cons g gs =>
  obtain⟨v,a,rfl,c,d⟩:=h.of_cons;cases gs with
  |nil=>rw[d.of_nil];show Rl b g _;simpa using c
  |cons j gs=>
   obtain⟨k,i,rfl,e,f⟩:=d.of_cons;rw[dif_neg (by simp)];exact LD (.cons c (.cons e f))
theorem Jx (j:gG P tb) {fn:Func} {c:Cx} (d:c.res=fn.results.toList) {n:Nat} {s:GS} {g:fC} {a:Act} {w:World} {b:RE} (F:lP g n s.σ a) (R:gH w0 g s.H w) (h:UL tb c s=some b):b.H=s.H∧∃v,Rl g (XA b.vs) v∧(results fn a.tmps).run P w = .ok v w:=by
 obtain⟨gs,e,h⟩:=aF.1 (show ob (SZ tb s c.res) _=some b from h);cases h;obtain⟨l,f,i⟩:=S_ (P:=P) j F R e;rw[d]at i;refine⟨rfl,_,aaf f,?_⟩
 rw[Dj];have k:(fn.results.mapM (Ia a.tmps)).run P w = .ok l.toArray w:=by
  rw[Array.mapM_eq_mapM_toList];simp[i]
 simp[k]
structure U_ (P:Program) (G:GP) (Fs:FT) {gs:BV} (w0:fR gs):Prop where
 tab:gG P G.tab
 mixed:P.follows .mixedOrders=true
 fns:∀{f fn},Fs f=some fn->P.funcs[f]? = some fn∧aU P f∧(∀c,fn.body=some c->JY G.tab fn.ntmps c=true)∧fn.params.size+fn.nfree<=fn.ntmps
 ext:∀{f us H g H'},G.ext f us H=some (g,H')->∀ρ w vs,gH w0 ρ H w->pO ρ us vs->jR P w0 ρ f vs w g H'
 exn:∀{f us g},G.exn f us=some g->∀ρ w vs H,gH w0 ρ H w->pO ρ us vs->jR P w0 ρ f vs w g H
 /-- the function that catches returns 0 and 0 if its argument returns;its two variables are new objects -/
 cat:∀{ρ:fC} {g us cs w H H' c1 c2},gH w0 ρ H w->(∀ρ' w',ρ.le ρ'->gH w0 ρ' ((H.new (.cells [AT])).new (.cells [AT])) w'->∃x,jR P w0 ρ' g (us++cs) w' x H')->H'.cells H.n=some [c1]->H'.cells (H.n+1)=some [c2]->
  jR P w0 ρ G.cat [.func (.func g) us.toArray cs.toArray] w (.tup [AT,AT]) ((((H'.set H.n (.cells [AT])).set (H.n+1) (.cells [AT])).del H.n).del (H.n+1))
def XV (P:Program) {gs:BV} (w0:fR gs) (h:IH):Prop:=∀f d H a,h (.fn f) d H=some a->a.e = .ret->∀c w g,gH w0 c H w->pO c d g->
 aU P f∧Calls P f g.toArray w λe i=>∃v b,e = .returned v∧c.le b∧gH w0 b a.H i∧Rl b (XA a.vs) v
theorem Sc {d:IH} (h:XV P w0 d):tZ P w0 (ahe d):=λf i H g j m q w p R n=>by
 obtain⟨o,k,b⟩:=aF.1 (show ob (d (.fn f) i H) _=some (g,j)from m);cases c:o.e with
 |normal=>rw[c]at b;cases b
 |exit id=>rw[c]at b;cases b
 |ret=>
  rw[c]at b;cases b;obtain⟨l,a⟩:=h f i H o k c q w p R n;exact .inr ⟨l _ w,a⟩
theorem Mz {B:IH} (j:U_ P G Fs w0) (h:XV P w0 B):tZ P w0 (Gr G B):=λf b H g z a t w i R e=>by
 unfold Gr callQ at a;cases c:Nat.beq f G.cat with
 | false =>
  rw[c]at a;cases n:G.ext f b H with
  |some r=>
   simp only[n]at a;cases a;exact j.ext n t w i R e
  | none =>
   simp only[n]at a;cases s:G.exn f b with
   |some r=>
    simp only[s]at a;cases a;exact j.exn s t w i _ R e
   |none=>
    simp only[s]at a;exact Sc h f b H g z a t w i R e
 | true =>
  rw[c]at a;have c:=zA2 c;subst c;cases b with
  |nil=>cases a
  | cons u b =>
   cases b with
   |cons _ _=>cases a
   |nil=>
    obtain⟨p,F,a⟩:=aF.1 (show ob u.asF _=some (g,z)from a);rw[jG,jG]at a;obtain⟨x,J,a⟩:=aF.1 a;obtain⟨O,k,a⟩:=aF.1 a;obtain⟨Q,l,a⟩:=aF.1 a;obtain⟨o,a⟩:=bW.1 a;obtain⟨q,a⟩:=bW.1 a;rw[Ba,Ba,Il,Il]at a;cases a;obtain⟨M,rfl⟩:=List.length_eq_one_iff.1 (zA2 o);obtain⟨N,rfl⟩:=List.length_eq_one_iff.1 (zA2 q);obtain⟨v,i,rfl,A,E⟩:=e.of_cons;rw[E.of_nil];rw[Yx F]at A;obtain⟨K,D,rfl,I,m⟩:=A.fn_inv;exact j.cat R (λy L d C=>⟨x.1,Sc h p.1 _ _ x.1 x.2 J y L _ C ((I.le d).append (m.le d))⟩) k l
theorem afk {x:IH} (p:∀w0:fR gs,U_ P G Fs w0) (B:∀w0:fR gs,XV P w0 x) (l:Ka P w0 G.tab λb z=>x (.loop b z)) {f:Nat} {i:Func} {K:List GV} {H:GH} {d:RE} (T:Fs f=some i) (h:Zq G.tab (Gr G x) (λb z=>x (.loop b z)) i K H=some d) (S:d.e = .ret) {u:fC} {w:World} {t:List Value} (R:gH w0 u H w) (I:pO u K t):
  aU P f∧Calls P f t.toArray w λe y=>∃v a,e = .returned v∧u.le a∧gH w0 a d.H y∧Rl a (XA d.vs) v:=by
 obtain⟨M,N,O,Q⟩:=(p w0).fns T;refine⟨N,?_⟩
 obtain⟨k,E,h⟩:=aF.1 (show ob i.body _=some d from h);obtain⟨L,m,h⟩:=sI h;rw[List.range_eq_range']at m;have s:=Mq m;have U:t.length<=i.ntmps:=by rw[<-I.len,s];exact Q
 refine vJ M E ?_;have F:lP u i.ntmps L {tmps:=t.toArray++Array.replicate (i.ntmps - t.toArray.size) undef,defers:=[]}:=by
  refine PO Z (by simp;omega) I (λj v q=> ?_) m;have C:=bP q;rw[Nat.zero_add,zBe (by simpa using C)];simpa using q
 refine Fc (p w0).tab (p w0).mixed (λw0=>Mz (p w0) (B w0)) l k _ _ _ ⟨L,H⟩ d u _ w _ (O k E) h F R ⟨λJ a D y r c n o=> ?_,λid J a D y r c n o=> ?_,λJ a D y r c n o=> ?_⟩
 ·obtain⟨A,v,q,g⟩:=Jx (fn:=i) (p w0).tab Z n o r;exact Sx.body_end (.inr Z) n.defers g ⟨v,a,rfl,c,by rw[A];exact o,q⟩
 ·have:=CU r;rw[S]at this;cases this
 ·obtain⟨A,v,q,g⟩:=Jx (fn:=i) (p w0).tab Z n o r;exact Sx.body_end (.inl Z) n.defers g ⟨v,a,rfl,c,by rw[A];exact o,q⟩
theorem afM (B:∀w0:fR gs,U_ P G Fs w0):∀(c:Nat) (w0:fR gs),XV P w0 (run G Fs c)∧Ka P w0 G.tab λb d=>run G Fs c (.loop b d):=by
 intro c
 induction c with
 |zero=>exact λw0=>⟨λf us H i h=>(by cases h),λb d K H i h=>(by cases h)⟩
 | succ c ih =>
  have z:∀w0:fR gs,XV P w0 (run G Fs c):=λw0=>(ih w0).1;intro w0;have q:=(ih w0).2;refine⟨λf us H i h he V w K R hr=> ?_,λb d K H i h n O V a w Q T I F R U k=> ?_⟩
  ·obtain⟨fn,E,h⟩:=aF.1 (show ob (Fs f) _=some i from h);exact afk B z q E h he R hr
  ·have D:kR (lZ (live (.loop b) 0 d)) K (λO=>ob (evC G.tab (Gr G (run G Fs c)) (λb d=>run G Fs c (.loop b d)) b (live (.loop b) 0 d) d (Jw (lZ (live (.loop b) 0 d))) ⟨O,H⟩) λo=>Ex.casesOn (motive:=λ_=>RS) o.e (run G Fs c (.loop b d) o.vs o.H) (λ_=>some o) (some o))=some i:=h;obtain⟨aa,l,D⟩:=sI D;rw[I]at l;cases l;obtain⟨o,Y,s⟩:=aF.1 D;refine Gh.round (Fc (B w0).tab (B w0).mixed (λw0=>Mz (B w0) (z w0)) q b _ d _ ⟨O,H⟩ o V a w _ T Y F R ⟨λt j x A p g u v=> ?_,λid t j x A p g u v=> ?_,λt j x A p g u v=> ?_⟩)
   ·obtain⟨y,W,X⟩:=UK p;rw[y,W,X]at s;obtain⟨S,m⟩:=QD t.σ (lZ (live (.loop b) 0 d));exact q b d _ t.H i s n S j x A Q T m (LY u m) v (λid J r C L M N=>U id J r C L M (fC.le_trans g N)) (λJ r C L M N=>k J r C L M (fC.le_trans g N))
   ·have y:=CU p;rw[y]at s;cases s;exact U id t j x A p g u v
   ·have y:=QF p;rw[y]at s;cases s;exact k t j x A p g u v
theorem Ja (e:∀w0:fR gs,U_ P G Fs w0) {a f:Nat} {c:List GV} {H H':GH} {g:GV} (h:Vx G Fs a f c H=some (g,H')) {b:fC} {w:World} {d:List Value} (R:gH w0 b H w) (i:pO b c d):jR P w0 b f d w g H':=
 Mz (e w0) (afM e a w0).1 f c H g H' h b w d R i
theorem gH.start (b:fR gs) (c:gs.env=[]):gH b (λ_=>none) H0 b.w:=⟨Er.refl _,λh o a=>(by cases a),λh g o k l j a=>(by cases a),λ_ _=>rfl,λh d=>absurd d (Nat.not_lt_zero h),λh v l f=>(by cases f),λi v e=>by rw[c]at e;simp at e⟩
end
end Go.Gx
namespace Go.Gx
open Go Go.Sx
noncomputable section
def oN (a:List GV) (H:GH):RS:=some ⟨.normal,a,H⟩
def oX (id:Nat) (a:List GV) (H:GH):RS:=some ⟨.exit id,a,H⟩
def oR (a:List GV) (H:GH):RS:=some ⟨.ret,a,H⟩
def jn (r:RS) (k:List GV->GH->RS):RS:=ob r λo=>Ex.casesOn (motive:=λ_=>RS) o.e (k o.vs o.H) (λ_=>some o) (some o)
def rG (v:GV) (b:Bool) (H:GH) (X:OR):OR:=GV.casesOn (motive_1:=λ_=>OR) v (λ_ _=>none) (λq=>Bool.casesOn (motive:=λ_=>OR) (VD q b) (some (.un,H)) X) (λ_ _=>none) (λ_ _=>none) none (λ_ _ _ _=>none) none (λ_=>none) (λ_ _ _=>none) none none (λ_=>none) (λ_=>none) (some (.un,H)) none (λ_=>none)
def U0 {R:Type} (a:List GV) (f:Option R):Option R:=List.casesOn (motive:=λ_=>Option R) a (f) λ_ _=>none
def U1 {R:Type} (b:List GV) (f:GV->Option R):Option R:=List.casesOn (motive:=λ_=>Option R) b none λa c=>List.casesOn (motive:=λ_=>Option R) c (f a) λ_ _=>none
def U2 {R:Type} (c:List GV) (f:GV->GV->Option R):Option R:=List.casesOn (motive:=λ_=>Option R) c none λa d=>List.casesOn (motive:=λ_=>Option R) d none λb e=>List.casesOn (motive:=λ_=>Option R) e (f a b) λ_ _=>none
def U3 {R:Type} (d:List GV) (f:GV->GV->GV->Option R):Option R:=List.casesOn (motive:=λ_=>Option R) d none λa e=>List.casesOn (motive:=λ_=>Option R) e none λb g=>List.casesOn (motive:=λ_=>Option R) g none λc h=>List.casesOn (motive:=λ_=>Option R) h (f a b c) λ_ _=>none
def U4 {R:Type} (e:List GV) (f:GV->GV->GV->GV->Option R):Option R:=List.casesOn (motive:=λ_=>Option R) e none λa g=>List.casesOn (motive:=λ_=>Option R) g none λb h=>List.casesOn (motive:=λ_=>Option R) h none λc i=>List.casesOn (motive:=λ_=>Option R) i none λd j=>List.casesOn (motive:=λ_=>Option R) j (f a b c d) λ_ _=>none
def U5 {R:Type} (g:List GV) (f:GV->GV->GV->GV->GV->Option R):Option R:=List.casesOn (motive:=λ_=>Option R) g none λa h=>List.casesOn (motive:=λ_=>Option R) h none λb i=>List.casesOn (motive:=λ_=>Option R) i none λc j=>List.casesOn (motive:=λ_=>Option R) j none λd k=>List.casesOn (motive:=λ_=>Option R) k none λe l=>List.casesOn (motive:=λ_=>Option R) l (f a b c d e) λ_ _=>none
def U6 {R:Type} (h:List GV) (f:GV->GV->GV->GV->GV->GV->Option R):Option R:=List.casesOn (motive:=λ_=>Option R) h none λa i=>List.casesOn (motive:=λ_=>Option R) i none λb j=>List.casesOn (motive:=λ_=>Option R) j none λc k=>List.casesOn (motive:=λ_=>Option R) k none λd l=>List.casesOn (motive:=λ_=>Option R) l none λe m=>List.casesOn (motive:=λ_=>Option R) m none λg n=>List.casesOn (motive:=λ_=>Option R) n (f a b c d e g) λ_ _=>none
def U7 {R:Type} (i:List GV) (f:GV->GV->GV->GV->GV->GV->GV->Option R):Option R:=List.casesOn (motive:=λ_=>Option R) i none λa j=>List.casesOn (motive:=λ_=>Option R) j none λb k=>List.casesOn (motive:=λ_=>Option R) k none λc l=>List.casesOn (motive:=λ_=>Option R) l none λd m=>List.casesOn (motive:=λ_=>Option R) m none λe n=>List.casesOn (motive:=λ_=>Option R) n none λg o=>List.casesOn (motive:=λ_=>Option R) o none λh p=>List.casesOn (motive:=λ_=>Option R) p (f a b c d e g h) λ_ _=>none
def U8 {R:Type} (j:List GV) (f:GV->GV->GV->GV->GV->GV->GV->GV->Option R):Option R:=List.casesOn (motive:=λ_=>Option R) j none λa k=>List.casesOn (motive:=λ_=>Option R) k none λb l=>List.casesOn (motive:=λ_=>Option R) l none λc m=>List.casesOn (motive:=λ_=>Option R) m none λd n=>List.casesOn (motive:=λ_=>Option R) n none λe o=>List.casesOn (motive:=λ_=>Option R) o none λg p=>List.casesOn (motive:=λ_=>Option R) p none λh q=>List.casesOn (motive:=λ_=>Option R) q none λi r=>List.casesOn (motive:=λ_=>Option R) r (f a b c d e g h i) λ_ _=>none
def U9 {R:Type} (k:List GV) (f:GV->GV->GV->GV->GV->GV->GV->GV->GV->Option R):Option R:=List.casesOn (motive:=λ_=>Option R) k none λa l=>List.casesOn (motive:=λ_=>Option R) l none λb m=>List.casesOn (motive:=λ_=>Option R) m none λc n=>List.casesOn (motive:=λ_=>Option R) n none λd o=>List.casesOn (motive:=λ_=>Option R) o none λe p=>List.casesOn (motive:=λ_=>Option R) p none λg q=>List.casesOn (motive:=λ_=>Option R) q none λh r=>List.casesOn (motive:=λ_=>Option R) r none λi s=>List.casesOn (motive:=λ_=>Option R) s none λj t=>List.casesOn (motive:=λ_=>Option R) t (f a b c d e g h i j) λ_ _=>none
def UP:gZ->Code->Code
 | [],c=>c
 |0::p,.seq a _=>UP p a
 |1::p,.seq _ b=>UP p b
 |0::p,.cond _ a _=>UP p a
 |1::p,.cond _ _ b=>UP p b
 |0::p,.block _ b=>UP p b
 |0::p,.loop b=>UP p b
 |_,c=>c
def cL (a:Func) (p:gZ):Code:=match a.body with
 |some c=>UP p c
 |none=> .skip
def gK (b:Func) (a:List (Nat×Nat)):Cx:=⟨b.results.toList,Ma b.results.toList,a⟩
abbrev fM:=CH->QH->List GV->GH->RS
structure IY where
 fn:Nat->Option (Func×fM)
 lp:Nat->Option ((Code×Cx)×fM)
def IY.fns (T:IY) (f:Nat):Option Func:=ob (T.fn f) λe=>some e.1
def IY.loop (T:IY) (a:LH):QH:=λi vs H=>ob (T.lp i) λe=>a e.1.1 e.1.2 vs H
def rr (T:IY) (G:GP) (n:Nat):Bool->QH:=Nat.rec (motive:=λ_=>Bool->QH) (λ_ _ _ _=>none) (λ_ a b t c H=>Bool.casesOn (motive:=λ_=>RS) b (ob (T.fn t) λe=>e.2 (callQ G (a false)) (a true) c H) (ob (T.lp t) λe=>e.2 (callQ G (a false)) (a true) c H)) n
structure Mn (T:IY) (tb:TB):Prop where
 fn:∀{f e},T.fn f=some e->∀(c:CH) (lp:LH) us H,e.2 c (T.loop lp) us H=Zq tb c lp e.1 us H
 lp:∀{i e},T.lp i=some e->∀(c:CH) (lp:LH) us H,e.2 c (T.loop lp) us H=evL tb c lp e.1.1 e.1.2 us H
theorem ahL {T:IY} {G:GP} (h:Mn T G.tab):∀n,rr T G n false=(λf c H=>run G T.fns n (.fn f) c H)∧rr T G n true=T.loop (λb a=>run G T.fns n (.loop b a)):=by
 intro n
 induction n with
 |zero=>
  refine⟨rfl,?_⟩
  funext i vs H;show none=ob (T.lp i) λe=>none;cases T.lp i<;>rfl
 | succ n ih =>
  obtain⟨d,g⟩:=ih;constructor
  ·funext f c H;show ob (T.fn f) (λe=>e.2 (callQ G (rr T G n false)) (rr T G n true) c H)=ob (T.fns f) λk=>Zq G.tab (Gr G (run G T.fns n)) (λb a=>run G T.fns n (.loop b a)) k c H;unfold IY.fns;cases j:T.fn f with
   |none=>rfl
   |some e=>
    show e.2 (callQ G (rr T G n false)) (rr T G n true) c H=Zq G.tab (Gr G (run G T.fns n)) (λb a=>run G T.fns n (.loop b a)) e.1 c H;rw[d,g];exact h.fn j _ _ c H
  ·funext i vs H;show ob (T.lp i) (λe=>e.2 (callQ G (rr T G n false)) (rr T G n true) vs H)=ob (T.lp i) λe=>run G T.fns (n+1) (.loop e.1.1 e.1.2) vs H;cases j:T.lp i with
   |none=>rfl
   |some e=>
    show e.2 (callQ G (rr T G n false)) (rr T G n true) vs H=evL G.tab (Gr G (run G T.fns n)) (λb a=>run G T.fns n (.loop b a)) e.1.1 e.1.2 vs H;rw[d,g];exact h.lp j _ _ vs H
def okF (a:TB) (fn:Func):Bool:=match fn.body with
 |some c=>JY a fn.ntmps c&&Nat.ble (fn.params.size+fn.nfree) fn.ntmps
 |none=>false
theorem SP {tb:TB} {fn:Func} (h:okF tb fn=true):(∀c,fn.body=some c->JY tb fn.ntmps c=true)∧fn.params.size+fn.nfree<=fn.ntmps:=by
 unfold okF at h;cases a:fn.body with
 |none=>rw[a]at h;cases h
 |some c=>
  rw[a]at h;simp only[zA3]at h;exact⟨λd b=>by cases b;exact h.1,by simpa using h.2⟩
def HT (T:IY) (G:GP) (b:Nat) (f:FuncId) (a:List GV) (H:GH):OR:=callQ G (rr T G b false) f a H
theorem CY {T:IY} {G:GP} (h:Mn T G.tab) (fuel:Nat) (f:FuncId) (a:List GV) (H:GH):HT T G fuel f a H=Vx G T.fns fuel f a H:=by
 unfold HT Vx Gr;rw[(ahL h fuel).1]
end
end Go.Gx
section
set_option maxRecDepth 100000
namespace Go.Gx
open Go Go.Sx Go.Proofs
noncomputable section
abbrev y:=xT
def gB (f:Func) (c:CH) (_:QH) (a:List GV) (H:GH):RS:=Zq y c (λ_ _ _ _=>none) f a H
def pZ (f:Func) (i:Nat) (c:CH) (q:QH) (a:List GV) (H:GH):RS:=Zq y c (λ_ _ b H=>q i b H) f a H
def gL (e:Code×Cx) (i:Nat) (c:CH) (q:QH) (a:List GV) (H:GH):RS:=evL y c (λ_ _ b H=>q i b H) e.1 e.2 a H
def gL1 (e:Code×Cx) (n i j:Nat) (c:CH) (q:QH) (d:List GV) (H:GH):RS:=evL y c (λ_ b a H=>bif Nat.beq b.env.length n then q i a H else q j a H) e.1 e.2 d H
def gD (e:Code×Cx) (i:Nat):(Code×Cx)×fM:=(e,gL e i)
def gD1 (e:Code×Cx) (n i j:Nat):(Code×Cx)×fM:=(e,gL1 e n i j)
def i (n:Nat):GV:= .int .i64 (.ofNat n)
def bC (q:Bool) (f t:RS):RS:=Bool.casesOn (motive:=λ_=>RS) q f t
def K (c:CH) (f:Nat) (a:List GV) (H:GH) (k:GV->GH->RS):RS:=gU (c f a H) k
def bn (a:BinOp) (T:Nat) (v u:GV) (k:GV->RS):RS:=ob (Dz y a T v u) k
def ld (T:Nat) (v:GV) (H:GH) (k:GV->RS):RS:=ob (wD y T v H) k
def fd (T n:Nat) (v:GV) (k:GV->RS):RS:=ob (GZ y T n v) k
def ix (T:Nat) (v u:GV) (k:GV->RS):RS:=ob (KL y T v u) k
def ln (T:Nat) (v:GV) (k:GV->RS):RS:=ob (Rh y T v) k
def ex (n:Nat) (v:GV) (k:GV->RS):RS:=ob (afU n v) k
theorem rN {a:Type} {f n:Nat} {x y:Option a} {e:a} {R:Prop} (b:x=some e->R) (c:y=some e->R):tN f n x y=some e->R:=by
 unfold tN;cases Nat.blt f n
 ·exact c
 ·exact b
theorem rL {c:Type} {f n:Nat} {x e:c} {R:Nat->c->Prop} (h:R n x):tL f n x=some e->R f e:=by
 intro a;unfold tL at a;cases b:Nat.beq f n with
 |false=>rw[b]at a;cases a
 |true=>rw[b]at a;cases a;rw[zA2 b];exact h
def B37 (c:CH) (p:QH) (w:List GV) (H:GH):RS:=U2 w λx z=>
 gU (Rf x H) λq o=>
 fd 29 0 q λu=>
 ld 22 u o λv=>
 ln 22 v λr=>
 gU (WC y 22 r r o) λs t=>
 ln 22 s λk=>
 jn (nB 0 (p 2 [z,q,s,k,(i 0)] t)) λd b=>U3 d λf a g=>fd 29 0 a λl=>
 ld 22 l b λm=>
 ln 22 m λn=>
 jn (nB 2 (p 3 [f,a,g,n,(i 0)] b)) λe j=>U1 e λh=>oR [h] j
def L2 (c:CH) (B:QH) (D:List GV) (H:GH):RS:=U5 D λa b d e f=>jn (bn .lss 3 f e λx=>
 ob (GV.asB x) λw=>jn (bC w (oX 0 [a,b,d] H) (oN [a,b,d,e,f] H)) λj t=>U5 j λl m g n h=>jn (nB 1 (ix 22 g h λz=>
 gU (qH y 3 z (.int .i64 (.negSucc 0)) t) λC u=>
 oN [l,m,g,n,h] u)) λk v=>U5 k λo p q r s=>bn .add 3 s (i 1) λA=>
 oN [o,p,q,r,A] v) (B 2)
def L3 (c:CH) (X:QH) (Y:List GV) (H:GH):RS:=U5 Y λs t d e f=>jn (bn .lss 3 f e λQ=>
 ob (GV.asB Q) λO=>jn (bC O (oX 2 [d] H) (oN [s,t,d,e,f] H)) λo l=>U5 o λb g h j a=>jn (nB 3 (bn .shr 26 b a λR=>
 bn .and 26 R (.int .u32 (.ofNat 1)) λS=>
 bn .eql 26 S (.int .u32 (.ofNat 0)) λT=>
 ob (GV.asB T) λP=>jn (bC P (oN [b,g,h,a,j,a] l) (oX 3 [b,g,h,j,a] l)) λp m=>U6 p λu k v w x y=>ld 29 k m λU=>
 K c 71 [U,w] m λn L=>
 ln 22 n λV=>
 jn (nB 4 (X 4 [u,k,v,x,y,n,V,(i 0)] L)) λq M=>U5 q λz A B C D=>oN [z,A,B,C,D] M)) λr N=>U5 r λE F G I J=>bn .add 3 J (i 1) λW=>
 oN [E,F,G,I,W] N) (X 3)
def L4 (c:CH) (ql:QH) (us:List GV) (H:GH):RS:=U8 us λW X Y aa ab aJ ac ad=>jn (bn .lss 3 ad ac λaq=>
 ob (GV.asB aq) λao=>jn (bC ao (oX 4 [W,X,Y,aa,ab] H) (oN [W,X,Y,aa,ab,aJ,ac,ad] H)) λC g=>U8 C λl m e n o f p d=>jn (nB 5 (ix 22 f d λar=>
 ld 3 ar g λk=>
 bn .geq 3 k (i 0) λa=>
 gU (rG a true g (some (e,g))) λau q=>
 gU (rG a true q (some (d,q))) λav r=>
 gU (rG a true r (ob (KL y 22 au av) λae=>some (ae,r))) λaw h=>
 gU (rG a true h (ob (wD y 3 aw h) λaf=>some (af,h))) λax s=>
 gU (rG a true s (ob (Dz y .lss 3 ax (i 0)) λag=>some (ag,s))) λay t=>
 gU (rG a true t (some (ay,t))) λb u=>
 gU (rG b false u (some (k,u))) λaz v=>
 gU (rG b false v (some (e,v))) λaA w=>
 gU (rG b false w (some (d,w))) λaB x=>
 gU (rG b false x (ob (KL y 22 aA aB) λah=>some (ah,x))) λaC j=>
 gU (rG b false j (ob (wD y 3 aC j) λai=>some (ai,j))) λaD z=>
 gU (rG b false z (ob (Dz y .lss 3 az aD) λaj=>some (aj,z))) λaE A=>
 gU (rG a true A (ob (wE b (.bool true) aE) λak=>some (ak,A))) λaF B=>
 ob (wE a aF (.bool false)) λaG=>
 ob (GV.asB aG) λap=>jn (bC ap (oN [l,m,e,n,o,f,p,d] B) (ix 22 e d λaH=>
 gU (qH y 3 aH k B) λaK al=>
 oN [l,m,e,n,o,f,p,d] al)) λD am=>U8 D λF G I J K L M N=>oN [F,G,I,J,K,L,M,N] am)) λE an=>U8 E λO P Q R S T U V=>bn .add 3 V (i 1) λaI=>
 oN [O,P,Q,R,S,T,U,aI] an) (ql 4)
def B63 (c:CH) (l:QH) (p:List GV) (H:GH):RS:=U1 p λg=>
 ln 9 g λm=>
 bn .gtr 3 m (i 16384) λn=>
 ob (GV.asB n) λk=>jn (bC k (oN [g] H) (oR [.snil,(i 0),(i 3)] H)) λe h=>U1 e λf=>K c 101 [f,(i 0)] h λo j=>
 jn (nB 0 (l 7 [f,.snil,o] j)) λa d=>U1 a λb=>oR [b,(i 0),(i 0)] d
def L7 (c:CH) (ql:QH) (us:List GV) (H:GH):RS:=U3 us λa b d=>jn (ln 9 a λO=>
 bn .lss 3 d O λP=>
 ob (GV.asB P) λL=>jn (bC L (oX 0 [b] H) (oN [a,b,d] H)) λs l=>U3 s λw e f=>jn (nB 1 (ln 102 e λQ=>
 bn .eql 3 Q (i 4096) λR=>
 ob (GV.asB R) λM=>jn (bC M (oN [w,e,f] l) (oR [.snil,f,(i 3)] l)) λt D=>U3 t λg x h=>K c 102 [g,h] D λp E=>
 ex 0 p λS=>
 ex 1 p λq=>
 gU (vG y 147 E) λr F=>
 gU (qH y 147 r S F) λab m=>
 bn .neq 44 q (i 0) λT=>
 ob (GV.asB T) λN=>jn (bC N (oN [g,x,r] m) (oR [.snil,h,q] m)) λu n=>U3 u λj z k=>ld 147 k n λU=>
 gU (AO y 102 1 [(0,U)] n) λV G=>
 gU (Re y 102 102 z V G) λW o=>
 fd 147 2 k λX=>
 ld 3 X o λY=>
 K c 101 [j,Y] o λaa I=>
 oN [j,W,aa] I)) λv J=>U3 v λA B C=>oN [A,B,C] J) (ql 7)
def B66 (c:CH) (T:QH) (us:List GV) (H:GH):RS:=U1 us λx1=>
 gU (Rf x1 H) λF P=>
 fd 36 1 F λt4=>
 ld 32 t4 P λt5=>
 ln 32 t5 λt6=>
 bn .eql 3 t6 (i 0) λz=>
 gU (rG z false P (ob (GZ y 36 1 F) λg8=>some (g8,P))) λt9 b=>
 gU (rG z false b (ob (wD y 32 t9 b) λG=>some (G,b))) λU j=>
 gU (rG z false j (ob (Rh y 32 U) λI=>some (I,j))) λV k=>
 gU (rG z false k (ob (Dz y .gtr 3 V (i 6)) λJ=>some (J,k))) λW l=>
 ob (wE z (.bool true) W) λa=>
 gU (rG a false l (ob (GZ y 36 2 F) λL=>some (L,l))) λX d=>
 gU (rG a false d (ob (wD y 34 X d) λM=>some (M,d))) λY m=>
 gU (rG a false m (ob (Rh y 34 Y) λN=>some (N,m))) λaa n=>
 gU (rG a false n (ob (Dz y .gtr 3 aa (i 12)) λO=>some (O,n))) λab o=>
 ob (wE a (.bool true) ab) λac=>
 ob (GV.asB ac) λR=>jn (bC R (oN [F] o) (oR [(i 3)] o)) λA p=>U1 A λe=>ld 36 e p λad=>
 K c 112 [ad] p λae q=>
 ob (Ts .not ae) λaf=>
 ob (GV.asB af) λS=>jn (bC S (oN [e] q) (oR [(i 5)] q)) λB r=>U1 B λf=>fd 36 1 f λag=>
 ld 32 ag r λv=>
 ln 32 v λah=>
 jn (nB 0 (T 8 [f,v,ah,(i 0)] r)) λC s=>U1 C λg=>fd 36 2 g λai=>
 ld 34 ai s λw=>
 ln 34 w λaj=>
 jn (nB 2 (T 9 [g,w,aj,(i 0)] s)) λD t=>U1 D λh=>ld 36 h t λak=>
 K c 115 [ak] t λal u=>
 fd 36 2 h λam=>
 ld 34 am u λx=>
 ln 34 x λan=>
 jn (nB 4 (T 10 [al,x,an,(i 0)] u)) λE Q=>U0 E (oR [(i 0)] Q)
def L8 (c:CH) (O:QH) (Q:List GV) (H:GH):RS:=U4 Q λb q d e=>jn (bn .lss 3 e d λG=>
 ob (GV.asB G) λE=>jn (bC E (oX 0 [b] H) (oN [b,q,d,e] H)) λn h=>U4 n λr f s g=>jn (nB 1 (ix 32 f g λI=>
 ld 64 I h λJ=>
 gU (vG y 64 h) λm B=>
 gU (qH y 64 m J B) λP j=>
 ld 64 m j λL=>
 K c 113 [L] j λM k=>
 ob (Ts .not M) λN=>
 ob (GV.asB N) λF=>jn (bC F (oN [r,f,s,g] k) (oR [(i 2)] k)) λo C=>U4 o λt u v w=>oN [t,u,v,w] C)) λp D=>U4 p λx z A a=>bn .add 3 a (i 1) λl=>
 oN [x,z,A,l] D) (O 8)
def L9 (c:CH) (S:QH) (T:List GV) (H:GH):RS:=U4 T λb p d e=>jn (bn .lss 3 e d λF=>
 ob (GV.asB F) λD=>jn (bC D (oX 2 [b] H) (oN [b,p,d,e] H)) λm j=>U4 m λf g q h=>jn (nB 3 (ix 34 g h λG=>
 ld 163 G j λI=>
 gU (vG y 163 j) λl A=>
 gU (qH y 163 l I A) λR a=>
 ld 163 l a λJ=>
 fd 36 1 f λL=>
 ld 32 L a λM=>
 ln 32 M λN=>
 K c 114 [J,N] a λO k=>
 ob (Ts .not O) λP=>
 ob (GV.asB P) λE=>jn (bC E (oN [f,g,q,h] k) (oR [(i 7)] k)) λn B=>U4 n λr s t u=>oN [r,s,t,u] B)) λo C=>U4 o λv w x z=>bn .add 3 z (i 1) λQ=>
 oN [v,w,x,Q] C) (S 9)
def L10 (c:CH) (P:QH) (Q:List GV) (H:GH):RS:=U4 Q λo p a b=>jn (bn .lss 3 b a λF=>
 ob (GV.asB F) λD=>jn (bC D (oX 4 [] H) (oN [o,p,a,b] H)) λl g=>U4 l λd e q f=>jn (nB 5 (ix 34 e f λG=>
 ld 163 G g λI=>
 gU (vG y 163 g) λk A=>
 gU (qH y 163 k I A) λO h=>
 ld 163 k h λJ=>
 K c 116 [J,d] h λL j=>
 ob (Ts .not L) λM=>
 ob (GV.asB M) λE=>jn (bC E (oN [d,e,q,f] j) (oR [(i 6)] j)) λm B=>U4 m λr s t u=>oN [r,s,t,u] B)) λn C=>U4 n λv w x z=>bn .add 3 z (i 1) λN=>
 oN [v,w,x,N] C) (P 10)
def agi (c:CH) (e:QH) (f:List GV) (H:GH):RS:=U2 f λg h=>
 jn (nB 0 (e 14 [g,h] H)) λa d=>U1 a λb=>oR [b] d
def L14 (c:CH) (ql:QH) (us:List GV) (H:GH):RS:=U2 us λa6 R=>jn (ln 9 a6 λt8=>
 bn .lss 3 R t8 λt9=>
 ob (GV.asB t9) λaa=>jn (bC aa (oX 0 [R] H) (oN [a6,R] H)) λm e=>U2 m λb d=>jn (nB 1 (ob (vAt y 9 b d) λa=>
 jn (nB 2 (bn .eql 5 a (.int .u8 (.ofNat 32)) λj=>
 ob (GV.asB j) λab=>jn (bC ab (bn .eql 5 a (.int .u8 (.ofNat 9)) λk=>
 ob (GV.asB k) λac=>jn (bC ac (bn .eql 5 a (.int .u8 (.ofNat 10)) λl=>
 ob (GV.asB l) λad=>jn (bC ad (bn .eql 5 a (.int .u8 (.ofNat 13)) λag=>
 oN [b,d,a,ag] e) (oN [b,d,a,l] e)) λn S=>U4 n λv w x z=>oN [v,w,x,z] S) (oN [b,d,a,k] e)) λo T=>U4 o λA B C D=>oN [A,B,C,D] T) (oN [b,d,a,j] e)) λp g=>U4 p λh f E F=>ob (GV.asB F) λae=>jn (bC ae (bn .eql 5 E (.int .u8 (.ofNat 35)) λai=>
 ob (GV.asB ai) λaf=>jn (bC af (oR [f] g) (jn (nB 3 (ql 15 [h,f] g)) λq U=>U2 q λG I=>oN [G,I] U)) λr V=>U2 r λJ K=>oN [J,K] V) (bn .add 3 f (i 1) λah=>
 oN [h,ah] g)) λs W=>U2 s λL M=>oN [L,M] W)) λt X=>U2 t λN O=>oN [N,O] X)) λu Y=>U2 u λP Q=>oN [P,Q] Y) (ql 14)
def L15 (c:CH) (C:QH) (D:List GV) (H:GH):RS:=U2 D λb d=>jn (ln 9 b λu=>
 bn .lss 3 d u λa=>
 gU (rG a true H (some (b,H))) λv e=>
 gU (rG a true e (some (d,e))) λw f=>
 gU (rG a true f (ob (vAt y 9 v w) λp=>some (p,f))) λx g=>
 gU (rG a true g (ob (Dz y .neq 5 x (.int .u8 (.ofNat 10))) λq=>some (q,g))) λz h=>
 ob (wE a z (.bool false)) λA=>
 ob (GV.asB A) λt=>jn (bC t (oX 3 [b,d] h) (oN [b,d] h)) λj r=>U2 j λl m=>jn (nB 4 (bn .add 3 m (i 1) λB=>
 oN [l,B] r)) λk s=>U2 k λn o=>oN [n,o] s) (C 15)
def agj (c:CH) (w:QH) (D:List GV) (H:GH):RS:=U1 D λE=>
 gU (Rf E H) λx u=>
 fd 36 0 x λz=>
 ld 9 z u λA=>
 K c 151 [A] u λB v=>
 ob (Ts .not B) λC=>
 ob (GV.asB C) λy=>jn (bC y (oN [x] v) (oR [(.bool false)] v)) λg l=>U1 g λa=>gU (EN l) λo b=>
 fd 36 1 a λp=>
 ld 32 p b λe=>
 ln 32 e λq=>
 jn (nB 0 (w 19 [a,o,e,q,(i 0)] b)) λh m=>U1 h λk=>gU (EN m) λr d=>
 fd 36 2 k λs=>
 ld 34 s d λf=>
 ln 34 f λt=>
 jn (nB 2 (w 20 [r,f,t,(i 0)] d)) λj n=>U0 j (oR [(.bool true)] n)
def L19 (c:CH) (ql:QH) (us:List GV) (H:GH):RS:=U5 us λf w x g h=>jn (bn .lss 3 h g λV=>
 ob (GV.asB V) λT=>jn (bC T (oX 0 [f] H) (oN [f,w,x,g,h] H)) λt n=>U5 t λz j k A l=>jn (nB 1 (ix 32 k l λW=>
 ld 64 W n λX=>
 gU (vG y 64 n) λb Q=>
 gU (qH y 64 b X Q) λak o=>
 fd 64 0 b λY=>
 ld 9 Y o λaa=>
 K c 151 [aa] o λab p=>
 ob (Ts .not ab) λa=>
 gU (rG a false p (some (j,p))) λac q=>
 gU (rG a false q (ob (GZ y 64 0 b) λN=>some (N,q))) λad d=>
 gU (rG a false d (ob (wD y 9 ad d) λO=>some (O,d))) λae e=>
 gU (rG a false e (ob (WB y 205 false ac ae e) λP=>some (P,e))) λaf r=>
 ob (wE a (.bool true) af) λag=>
 ob (GV.asB ag) λU=>jn (bC U (oN [z,j,b,k,A,l] r) (oR [(.bool false)] r)) λu s=>U6 u λB m C D E F=>fd 64 0 C λah=>
 ld 9 ah s λai=>
 gU (Ri y 205 m ai (.bool true) s) λal R=>
 oN [B,m,D,E,F] R)) λv S=>U5 v λG I J L M=>bn .add 3 M (i 1) λaj=>
 oN [G,I,J,L,aj] S) (ql 19)
def L20 (c:CH) (ql:QH) (us:List GV) (H:GH):RS:=U4 us λY aa w x=>jn (bn .lss 3 x w λad=>
 ob (GV.asB ad) λac=>jn (bC ac (oX 2 [] H) (oN [Y,aa,w,x] H)) λX J=>U4 X λz A ab B=>jn (nB 3 (ix 34 A B λae=>
 ld 163 ae J λaf=>
 gU (vG y 163 J) λb F=>
 gU (qH y 163 b af F) λag g=>
 fd 163 0 b λM=>
 ld 9 M g λN=>
 K c 151 [N] g λO h=>
 ob (Ts .not O) λa=>
 gU (rG a false h (some (z,h))) λP j=>
 gU (rG a false j (ob (GZ y 163 0 b) λC=>some (C,j))) λQ d=>
 gU (rG a false d (ob (wD y 9 Q d) λD=>some (D,d))) λR e=>
 gU (rG a false e (ob (WB y 205 false P R e) λE=>some (E,e))) λS k=>
 ob (wE a (.bool true) S) λT=>
 ob (GV.asB T) λL=>jn (bC L (oN [z,b,A,ab,B] k) (oR [(.bool false)] k)) λm l=>U5 m λf o p q r=>fd 163 0 o λU=>
 ld 9 U l λV=>
 gU (Ri y 205 f V (.bool true) l) λah G=>
 oN [f,p,q,r] G)) λn I=>U4 n λs t u v=>bn .add 3 v (i 1) λW=>
 oN [s,t,u,W] I) (ql 20)
def agk (c:CH) (q:QH) (z:List GV) (H:GH):RS:=U2 z λA B=>
 gU (Rf A H) λr p=>
 fd 29 1 r λw=>
 ld 27 w p λx=>
 ln 27 x λs=>
 gU (WC y 22 s s p) λt u=>
 ln 22 t λm=>
 jn (nB 0 (q 24 [B,r,t,m,(i 0)] u)) λd h=>U3 d λa f b=>ix 22 b a λn=>
 gU (qH y 3 n (i 0) h) λv j=>
 gU (AO y 22 1 [(0,a)] j) λo k=>
 jn (nB 2 (q 25 [f,b,o] k)) λe l=>U1 e λg=>oR [g] l
def L24 (c:CH) (B:QH) (D:List GV) (H:GH):RS:=U5 D λa b d e f=>jn (bn .lss 3 f e λx=>
 ob (GV.asB x) λw=>jn (bC w (oX 0 [a,b,d] H) (oN [a,b,d,e,f] H)) λj t=>U5 j λl m g n h=>jn (nB 1 (ix 22 g h λz=>
 gU (qH y 3 z (.int .i64 (.negSucc 0)) t) λC u=>
 oN [l,m,g,n,h] u)) λk v=>U5 k λo p q r s=>bn .add 3 s (i 1) λA=>
 oN [o,p,q,r,A] v) (B 24)
def L25 (c:CH) (G:QH) (I:List GV) (H:GH):RS:=U3 I λm b d=>jn (ln 22 d λx=>
 bn .gtr 3 x (i 0) λz=>
 ob (GV.asB z) λw=>jn (bC w (oX 2 [b] H) (oN [m,b,d] H)) λj a=>U3 j λe n f=>jn (nB 3 (ix 22 f (i 0) λA=>
 ld 3 A a λg=>
 ob (Cs y 22 f (some (i 1)) none a) λB=>
 fd 29 1 e λC=>
 ld 27 C a λD=>
 ix 27 D g λE=>
 ld 69 E a λh=>
 ln 69 h λF=>
 jn (nB 4 (G 26 [e,n,B,g,h,F,(i 0)] a)) λk u=>U3 k λo p q=>oN [o,p,q] u)) λl v=>U3 l λr s t=>oN [r,s,t] v) (G 25)
def L26 (c:CH) (ql:QH) (us:List GV) (H:GH):RS:=U7 us λA B C ah ai D E=>jn (bn .lss 3 E D λal=>
 ob (GV.asB al) λak=>jn (bC ak (oX 4 [A,B,C] H) (oN [A,B,C,ah,ai,D,E] H)) λag N=>U7 ag λF b G f g I h=>jn (nB 5 (ix 69 g h λam=>
 ld 141 am N λan=>
 gU (vG y 141 N) λd aj=>
 gU (qH y 141 d an aj) λao a=>
 fd 141 0 d λP=>
 ld 3 P a λQ=>
 ix 22 b Q λR=>
 ld 3 R a λS=>
 bn .lss 3 S (i 0) λT=>
 ob (GV.asB T) λO=>jn (bC O (oN [F,b,G,f,g,I,h] a) (fd 141 0 d λU=>
 ld 3 U a λV=>
 ix 22 b f λW=>
 ld 3 W a λX=>
 bn .add 3 X (i 1) λY=>
 ix 22 b V λaa=>
 gU (qH y 3 aa Y a) λap e=>
 fd 141 0 d λab=>
 ld 3 ab e λac=>
 gU (AO y 22 1 [(0,ac)] e) λad J=>
 gU (Re y 22 22 G ad J) λae K=>
 oN [F,b,ae,f,g,I,h] K)) λj L=>U7 j λl m n o p q r=>oN [l,m,n,o,p,q,r] L)) λk M=>U7 k λs t u v w x z=>bn .add 3 z (i 1) λaf=>
 oN [s,t,u,v,w,x,af] M) (ql 26)
def agl (c:CH) (e:QH) (g:List GV) (H:GH):RS:=U3 g λh i j=>
 ld 3 i H λf=>
 jn (nB 0 (e 37 [h,j,f] H)) λa d=>U1 a λb=>oR [b] d
def L37 (c:CH) (K:QH) (L:List GV) (H:GH):RS:=U3 L λJ s b=>jn (ld 9 s H λz=>
 ln 9 z λA=>
 bn .lss 3 b A λa=>
 gU (rG a true H (some (J,H))) λB d=>
 gU (rG a true d (ob (wD y 9 s d) λt=>some (t,d))) λC f=>
 gU (rG a true f (some (b,f))) λD g=>
 gU (rG a true g (ob (vAt y 9 C D) λu=>some (u,g))) λE h=>
 gU (rG a true h (ob (GV.asF B) λe=>gU (c e.1 (e.2.1++[E]++e.2.2) h) Kt)) λF j=>
 ob (wE a F (.bool false)) λG=>
 ob (GV.asB G) λx=>jn (bC x (oX 0 [b] j) (oN [J,s,b] j)) λk v=>U3 k λm n o=>jn (nB 1 (bn .add 3 o (i 1) λI=>
 oN [m,n,I] v)) λl w=>U3 l λp q r=>oN [p,q,r] w) (K 37)
def agm (c:CH) (B:QH) (A:List GV) (H:GH):RS:=U1 A λi=>
 bn .geq 5 i (.int .u8 (.ofNat 97)) λq=>
 gU (rG q true H (some (i,H))) λw t=>
 gU (rG q true t (ob (Dz y .leq 5 w (.int .u8 (.ofNat 122))) λv=>some (v,t))) λx u=>
 ob (wE q x (.bool false)) λh=>
 gU (rG h false u (some (i,u))) λz b=>
 gU (rG h false b (ob (Dz y .geq 5 z (.int .u8 (.ofNat 65))) λj=>some (j,b))) λn d=>
 gU (rG h false d (some (n,d))) λa e=>
 gU (rG a true e (some (i,e))) λo f=>
 gU (rG a true f (ob (Dz y .leq 5 o (.int .u8 (.ofNat 90))) λk=>some (k,f))) λp g=>
 gU (rG h false g (ob (wE a p (.bool false)) λl=>some (l,g))) λr m=>
 ob (wE h (.bool true) r) λs=>
 oR [s] m
def agn (c:CH) (q:QH) (p:List GV) (H:GH):RS:=U1 p λi=>
 K c 143 [i] H λg j=>
 gU (rG g false j (some (i,j))) λm k=>
 gU (rG g false k (gU (c 145 [m] k) Kt)) λn l=>
 ob (wE g (.bool true) n) λh=>
 gU (rG h false l (some (i,l))) λo a=>
 gU (rG h false a (ob (Dz y .eql 5 o (.int .u8 (.ofNat 95))) λb=>some (b,a))) λe d=>
 ob (wE h (.bool true) e) λf=>
 oR [f] d
def ago (c:CH) (k:QH) (j:List GV) (H:GH):RS:=U1 j λd=>
 bn .geq 5 d (.int .u8 (.ofNat 48)) λa=>
 gU (rG a true H (some (d,H))) λg b=>
 gU (rG a true b (ob (Dz y .leq 5 g (.int .u8 (.ofNat 57))) λe=>some (e,b))) λh f=>
 ob (wE a h (.bool false)) λi=>
 oR [i] f
def agp (c:CH) (m:QH) (q:List GV) (H:GH):RS:=U1 q λr=>
 gU (AO y 106 9 [(0,(.str 11822 2)),(1,(.str 15917 2)),(2,(.str 15674 2)),(3,(.str 9766 2)),(4,(.str 31868 2)),(5,(.str 15677 2)),(6,(.str 15649 2)),(7,(.str 15676 2)),(8,(.str 15678 2))] H) λh k=>
 ln 106 h λn=>
 jn (nB 0 (m 39 [r,h,n,(i 0)] k)) λg l=>U1 g λj=>ob (vAt y 9 j (i 0)) λo=>
 K c 181 [(.str 172099982263598878148345807877454395 15),o] l λp a=>
 bn .geq 3 p (i 0) λf=>
 ob (GV.asB f) λe=>jn (bC e (oN [] a) (oR [(i 1)] a)) λb d=>U0 b (oR [(i 0)] d)
def L39 (c:CH) (G:QH) (I:List GV) (H:GH):RS:=U4 I λa n b d=>jn (bn .lss 3 d b λB=>
 ob (GV.asB B) λz=>jn (bC z (oX 0 [a] H) (oN [a,n,b,d] H)) λk h=>U4 k λe f o g=>jn (nB 1 (ix 106 f g λC=>
 ld 9 C h λD=>
 K c 180 [e,D] h λE j=>
 ob (GV.asB E) λA=>jn (bC A (oN [e,f,o,g] j) (oR [(i 2)] j)) λl x=>U4 l λp q r s=>oN [p,q,r,s] x)) λm y=>U4 m λt u v w=>bn .add 3 w (i 1) λF=>
 oN [t,u,v,F] y) (G 39)
def agq (c:CH) (n:QH) (l:List GV) (H:GH):RS:=U2 l λe m=>
 K c 149 [e] H λj d=>
 bn .neq 9 j m λk=>
 ob (GV.asB k) λh=>jn (bC h (oN [e] d) (oR [(.bool false)] d)) λb g=>U1 b λf=>K c 152 [f] g λi a=>
 oR [(.bool true)] a
def agr (c:CH) (E:QH) (D:List GV) (H:GH):RS:=U1 D λv=>
 ob (GV.nilck v) λx=>
 fd 108 1 x λz=>
 ld 102 z H λA=>
 ln 102 A λB=>
 bn .eql 3 B (i 0) λC=>
 ob (GV.asB C) λw=>jn (bC w (oN [v] H) (oR [(.str 0 0)] H)) λu b=>U1 u λa=>ob (GV.nilck a) λd=>
 fd 108 0 d λe=>
 ld 9 e b λf=>
 ob (GV.nilck a) λg=>
 fd 108 1 g λh=>
 ld 102 h b λj=>
 ix 102 j (i 0) λk=>
 fd 147 1 k λl=>
 ld 3 l b λm=>
 ob (GV.nilck a) λn=>
 fd 108 1 n λo=>
 ld 102 o b λp=>
 ix 102 p (i 0) λq=>
 fd 147 2 q λr=>
 ld 3 r b λs=>
 ob (Cs y 9 f (some m) (some s) b) λt=>
 oR [t] b
def ags (c:CH) (R:QH) (Q:List GV) (H:GH):RS:=U1 Q λl=>
 gU (vG y 147 H) λD o=>
 ob (GV.nilck l) λL=>
 fd 108 1 L λM=>
 ld 102 M o λN=>
 ln 102 N λO=>
 bn .eql 3 O (i 0) λP=>
 ob (GV.asB P) λE=>jn (bC E (oN [l,D] o) (K c 111 [l,(i 4)] o λF m=>
 oN [l,D] m)) λj b=>U2 j λa e=>ob (GV.nilck a) λq=>
 fd 108 1 q λr=>
 ld 102 r b λs=>
 ix 102 s (i 0) λt=>
 ld 147 t b λu=>
 gU (vG y 147 b) λh n=>
 gU (qH y 147 h u n) λG d=>
 ob (GV.nilck a) λv=>
 fd 108 1 v λw=>
 ld 102 w d λx=>
 ob (Cs y 102 x (some (i 1)) none d) λz=>
 ob (GV.nilck a) λA=>
 fd 108 1 A λB=>
 gU (qH y 102 B z d) λI f=>
 ld 147 h f λC=>
 gU (qH y 147 e C f) λJ g=>
 ob (ob (wD y 147 e g) λp=>some [p]) λk=>oR k g
def agt (c:CH) (D:QH) (V:List GV) (H:GH):RS:=U1 V λW=>
 gU (Rf W H) λI P=>
 fd 36 1 I λR=>
 ld 32 R P λS=>
 ln 32 S λT=>
 K c 192 [T,(i 1),(i 6)] P λU Q=>
 ob (Ts .not U) λj=>
 gU (rG j false Q (ob (GZ y 36 2 I) λs=>some (s,Q))) λE a=>
 gU (rG j false a (ob (wD y 34 E a) λt=>some (t,a))) λF d=>
 gU (rG j false d (ob (Rh y 34 F) λu=>some (u,d))) λG e=>
 gU (rG j false e (ob (Dz y .gtr 3 G (i 12)) λv=>some (v,e))) λJ f=>
 ob (wE j (.bool true) J) λL=>
 ob (GV.asB L) λB=>jn (bC B (oN [I] f) (oR [(i 3)] f)) λk g=>U1 k λb=>ld 36 b g λM=>
 K c 193 [M] g λN h=>
 ob (Ts .not N) λO=>
 ob (GV.asB O) λC=>jn (bC C (oN [b] h) (oR [(i 5)] h)) λl w=>U1 l λp=>jn (nB 0 (D 43 [p,(i 0)] w)) λm x=>U1 m λq=>jn (nB 2 (D 44 [q,(i 0)] x)) λn z=>U1 n λr=>jn (nB 4 (D 45 [r,(i 0)] z)) λo A=>U0 o (oR [(i 0)] A)
def L43 (c:CH) (E:QH) (F:List GV) (H:GH):RS:=U2 F λa d=>jn (fd 36 1 a λt=>
 ld 32 t H λu=>
 ln 32 u λv=>
 bn .lss 3 d v λw=>
 ob (GV.asB w) λr=>jn (bC r (oX 0 [a] H) (oN [a,d] H)) λh b=>U2 h λe f=>jn (nB 1 (fd 36 1 e λx=>
 ld 32 x b λy=>
 ix 32 y f λz=>
 ld 64 z b λA=>
 K c 194 [A] b λB g=>
 ob (Ts .not B) λC=>
 ob (GV.asB C) λs=>jn (bC s (oN [e,f] g) (oR [(i 2)] g)) λj p=>U2 j λl m=>oN [l,m] p)) λk q=>U2 k λn o=>bn .add 3 o (i 1) λD=>
 oN [n,D] q) (E 43)
def L44 (c:CH) (I:QH) (J:List GV) (H:GH):RS:=U2 J λb f=>jn (fd 36 2 b λu=>
 ld 34 u H λv=>
 ln 34 v λw=>
 bn .lss 3 f w λx=>
 ob (GV.asB x) λs=>jn (bC s (oX 2 [b] H) (oN [b,f] H)) λk a=>U2 k λd g=>jn (nB 3 (fd 36 2 d λy=>
 ld 34 y a λz=>
 ix 34 z g λA=>
 ld 163 A a λB=>
 fd 36 1 d λC=>
 ld 32 C a λD=>
 ln 32 D λE=>
 K c 195 [B,E] a λF h=>
 ob (Ts .not F) λG=>
 ob (GV.asB G) λt=>jn (bC t (oN [d,g] h) (oR [(i 7)] h)) λl q=>U2 l λn o=>oN [n,o] q)) λm r=>U2 m λp e=>bn .add 3 e (i 1) λj=>
 oN [p,j] r) (I 44)
def L45 (c:CH) (T:QH) (U:List GV) (H:GH):RS:=U2 U λe f=>jn (fd 36 2 e λE=>
 ld 34 E H λF=>
 ln 34 F λG=>
 bn .lss 3 f G λI=>
 ob (GV.asB I) λC=>jn (bC C (oX 4 [] H) (oN [e,f] H)) λo a=>U2 o λb g=>jn (nB 5 (fd 36 2 b λm=>
 ld 34 m a λJ=>
 ob (Option.casesOn (motive:=λ_=>Option (Option (Nat×Nat))) (ob (GV.asP m) λp=>some p.1) (some none) λj=>ob (GH.ver a j) λz=>some (some (j,z))) λR=>
 ix 34 J g λn=>
 ld 163 n a λL=>
 ob (Option.casesOn (motive:=λ_=>Option (Option (Nat×Nat))) (ob (GV.asP n) λp=>some p.1) (some none) λk=>ob (GH.ver a k) λA=>some (some (k,A))) λw=>
 ld 36 b a λM=>
 ob (Option.casesOn (motive:=λ_=>Option (Option (Nat×Nat))) (ob (GV.asP b) λp=>some p.1) (some none) λl=>ob (GH.ver a l) λB=>some (some (l,B))) λS=>
 K c 197 [M] a λN d=>
 ob (pck d w (pck d R (some ()))) λ_=>
 K c 196 [L,N] d λO h=>
 ob (some ()) λ_=>
 ob (Ts .not O) λP=>
 ob (GV.asB P) λD=>jn (bC D (oN [b,g] h) (oR [(i 6)] h)) λq x=>U2 q λs t=>oN [s,t] x)) λr y=>U2 r λu v=>bn .add 3 v (i 1) λQ=>
 oN [u,Q] y) (T 45)
def agu (c:CH) (g:QH) (d:List GV) (H:GH):RS:=U2 d λe f=>
 K c 211 [e,f] H λb a=>
 oR [b] a
def agv (c:CH) (q:QH) (t:List GV) (H:GH):RS:=U2 t λl m=>
 bn .eql 3 m (i 6) λr=>
 ob (GV.asB r) λp=>jn (bC p (oN [l,m] H) (K c 214 [l] H λs n=>
 oR [s] n)) λj o=>U2 j λk a=>bn .add 3 a (i 1) λg=>
 K c 184 [k,g] o λh e=>
 jn (nB 0 (q 52 [k,a,h] e)) λb f=>U1 b λd=>oR [d] f
def L52 (c:CH) (Y:QH) (us:List GV) (H:GH):RS:=U3 us λf g h=>jn (jn (nB 1 (K c 149 [f] H λO D=>
 K c 215 [O] D λe j=>
 bn .eql 3 e (i 0) λa=>
 gU (rG a false j (some (e,j))) λP k=>
 gU (rG a false k (gU (c 216 [P] k) Kt)) λQ l=>
 gU (rG a false l (some (g,l))) λR m=>
 gU (rG a false m (ob (Dz y .neq 3 Q R) λC=>some (C,m))) λS n=>
 ob (wE a (.bool true) S) λT=>
 ob (GV.asB T) λM=>jn (bC M (oN [f,g,h,e] n) (oR [h] n)) λq E=>U4 q λb d t u=>K c 152 [b] E λaa F=>
 bn .add 3 d (i 1) λU=>
 K c 184 [b,U] F λV G=>
 gU (AO y 250 2 [(0,t),(1,V)] G) λW I=>
 K c 185 [u,W] I λp o=>
 bn .eql 3 d (i 3) λX=>
 ob (GV.asB X) λN=>jn (bC N (oN [b,d,p] o) (oR [p] o)) λr J=>U3 r λv w x=>oN [v,w,x] J)) λs L=>U3 s λz A B=>oN [z,A,B] L) (Y 52)
def agw (c:CH) (g:QH) (k:List GV) (H:GH):RS:=U2 k λl b=>
 K c 217 [l,(i 0)] H λh e=>
 ln 250 b λj=>
 jn (nB 0 (g 53 [h,b,j,(i 0)] e)) λa f=>U1 a λd=>oR [d] f
def L53 (c:CH) (A:QH) (B:List GV) (H:GH):RS:=U4 B λz j a b=>jn (bn .lss 3 b a λt=>
 ob (GV.asB t) λs=>jn (bC s (oX 0 [z] H) (oN [z,j,a,b] H)) λg f=>U4 g λk d l e=>jn (nB 1 (ix 250 d e λu=>
 ld 160 u f λv=>
 gU (Re y 160 160 k v f) λw q=>
 oN [w,d,l,e] q)) λh r=>U4 h λm n o p=>bn .add 3 p (i 1) λx=>
 oN [m,n,o,x] r) (A 53)
def agx (c:CH) (u:QH) (z:List GV) (H:GH):RS:=U2 z λs p=>
 bn .lss 3 p (i 0) λd=>
 gU (rG d false H (some (p,H))) λv q=>
 gU (rG d false q (some (s,q))) λw r=>
 gU (rG d false r (ob (Rh y 160 w) λt=>some (t,r))) λx a=>
 gU (rG d false a (ob (Dz y .geq 3 v x) λj=>some (j,a))) λn b=>
 ob (wE d (.bool true) n) λo=>
 ob (GV.asB o) λm=>jn (bC m (oN [s,p] b) (oR [(.int .i64 (.negSucc 0))] b)) λe k=>U2 e λg h=>jn (nB 0 (u 55 [g,h,(i 1)] k)) λf l=>U0 f (oR [(.int .i64 (.negSucc 0))] l)
def L55 (c:CH) (S:QH) (T:List GV) (H:GH):RS:=U3 T λa b q=>jn (ln 160 a λG=>
 bn .lss 3 b G λI=>
 ob (GV.asB I) λD=>jn (bC D (oX 0 [] H) (oN [a,b,q] H)) λm g=>U3 m λd e r=>jn (nB 1 (ix 160 d e λJ=>
 fd 213 0 J λL=>
 ld 3 L g λM=>
 K c 218 [M] g λk h=>
 bn .lss 3 k (i 0) λN=>
 ob (GV.asB N) λE=>jn (bC E (oN [d,e,r,k] h) (oR [(.int .i64 (.negSucc 0))] h)) λn j=>U4 n λs f t u=>bn .sub 3 u (i 1) λO=>
 bn .add 3 t O λl=>
 bn .eql 3 l (i 0) λP=>
 ob (GV.asB P) λF=>jn (bC F (oN [s,f,l] j) (bn .add 3 f (i 1) λQ=>
 oR [Q] j)) λo B=>U3 o λv w x=>oN [v,w,x] B)) λp C=>U3 p λy z A=>bn .add 3 z (i 1) λR=>
 oN [y,R,A] C) (S 55)
def agy (c:CH) (m:QH) (t:List GV) (H:GH):RS:=U1 t λu=>
 gU (Rf u H) λn k=>
 fd 36 0 n λp=>
 ld 9 p k λq=>
 K c 226 [q] k λr l=>
 ob (Ts .not r) λs=>
 ob (GV.asB s) λo=>jn (bC o (oN [n] l) (oR [(.bool false)] l)) λa g=>U1 a λe=>jn (nB 0 (m 57 [e,(i 0)] g)) λb h=>U1 b λf=>jn (nB 4 (m 58 [f,(i 0)] h)) λd j=>U0 d (oR [(.bool true)] j)
def L57 (c:CH) (L:QH) (M:List GV) (H:GH):RS:=U2 M λa d=>jn (fd 36 1 a λx=>
 ld 32 x H λy=>
 ln 32 y λz=>
 bn .lss 3 d z λA=>
 ob (GV.asB A) λv=>jn (bC v (oX 0 [a] H) (oN [a,d] H)) λh s=>U2 h λm n=>jn (nB 1 (jn (nB 2 (L 59 [m,n,(i 0)] s)) λj b=>U2 j λe f=>fd 36 1 e λB=>
 ld 32 B b λC=>
 ix 32 C f λD=>
 fd 64 0 D λE=>
 ld 9 E b λF=>
 K c 226 [F] b λG g=>
 ob (Ts .not G) λI=>
 ob (GV.asB I) λw=>jn (bC w (oN [e,f] g) (oR [(.bool false)] g)) λk t=>U2 k λo p=>oN [o,p] t)) λl u=>U2 l λq r=>bn .add 3 r (i 1) λJ=>
 oN [q,J] u) (L 57)
def L58 (c:CH) (L:QH) (M:List GV) (H:GH):RS:=U2 M λb d=>jn (fd 36 2 b λx=>
 ld 34 x H λy=>
 ln 34 y λz=>
 bn .lss 3 d z λA=>
 ob (GV.asB A) λv=>jn (bC v (oX 4 [] H) (oN [b,d] H)) λh s=>U2 h λm n=>jn (nB 5 (jn (nB 6 (L 60 [m,n,(i 0)] s)) λj a=>U2 j λe f=>fd 36 2 e λB=>
 ld 34 B a λC=>
 ix 34 C f λD=>
 fd 163 0 D λE=>
 ld 9 E a λF=>
 K c 226 [F] a λG g=>
 ob (Ts .not G) λI=>
 ob (GV.asB I) λw=>jn (bC w (oN [e,f] g) (oR [(.bool false)] g)) λk t=>U2 k λo p=>oN [o,p] t)) λl u=>U2 l λq r=>bn .add 3 r (i 1) λJ=>
 oN [q,J] u) (L 58)
def L59 (c:CH) (K:QH) (L:List GV) (H:GH):RS:=U3 L λn b o=>jn (bn .lss 3 o b λC=>
 ob (GV.asB C) λB=>jn (bC B (oX 2 [n,b] H) (oN [n,b,o] H)) λA a=>U3 A λd p q=>jn (nB 3 (fd 36 1 d λD=>
 ld 32 D a λE=>
 ix 32 E q λF=>
 fd 64 0 F λG=>
 ld 9 G a λI=>
 fd 36 1 d λJ=>
 ld 32 J a λu=>
 ix 32 u p λv=>
 fd 64 0 v λw=>
 ld 9 w a λx=>
 bn .eql 9 I x λy=>
 ob (GV.asB y) λt=>jn (bC t (oN [d,p,q] a) (oR [(.bool false)] a)) λe r=>U3 e λg h j=>oN [g,h,j] r)) λf s=>U3 f λk l m=>bn .add 3 m (i 1) λz=>
 oN [k,l,z] s) (K 59)
def L60 (c:CH) (K:QH) (L:List GV) (H:GH):RS:=U3 L λe b f=>jn (bn .lss 3 f b λw=>
 ob (GV.asB w) λu=>jn (bC u (oX 6 [e,b] H) (oN [e,b,f] H)) λj a=>U3 j λd g h=>jn (nB 7 (fd 36 2 d λx=>
 ld 34 x a λy=>
 ix 34 y h λz=>
 fd 163 0 z λA=>
 ld 9 A a λB=>
 fd 36 2 d λC=>
 ld 34 C a λD=>
 ix 34 D g λE=>
 fd 163 0 E λF=>
 ld 9 F a λG=>
 bn .eql 9 B G λI=>
 ob (GV.asB I) λv=>jn (bC v (oN [d,g,h] a) (oR [(.bool false)] a)) λk s=>U3 k λm n o=>oN [m,n,o] s)) λl t=>U3 l λp q r=>bn .add 3 r (i 1) λJ=>
 oN [p,q,J] t) (K 60)
def agz (c:CH) (x:QH) (w:List GV) (H:GH):RS:=U2 w λr o=>
 ln 9 r λs=>
 ln 9 o λt=>
 bn .geq 3 s t λb=>
 gU (rG b true H (some (r,H))) λu p=>
 gU (rG b true p (some (o,p))) λv q=>
 gU (rG b true q (ob (Rh y 9 v) λf=>some (f,q))) λj a=>
 gU (rG b true a (ob (Cs y 9 u none (some j) a) λg=>some (g,a))) λk d=>
 gU (rG b true d (some (o,d))) λl e=>
 gU (rG b true e (ob (Dz y .eql 9 k l) λh=>some (h,e))) λm i=>
 ob (wE b m (.bool false)) λn=>
 oR [n] i
def agA (c:CH) (h:QH) (f:List GV) (H:GH):RS:=U1 f λg=>
 K c 235 [] H λd a=>
 K c 234 [g,(i 30),d] a λe b=>
 oR [e] b
def agB (c:CH) (D:QH) (C:List GV) (H:GH):RS:=U1 C λh=>
 jn (nB 0 (bn .lss 3 h (i 1) λu=>
 gU (rG u false H (some (h,H))) λz v=>
 gU (rG u false v (ob (Dz y .gtr 3 z (i 43)) λw=>some (w,v))) λA a=>
 ob (wE u (.bool true) A) λB=>
 ob (GV.asB B) λx=>jn (bC x (bn .leq 3 h (i 17) λr=>
 ob (GV.asB r) λo=>jn (bC o (bn .leq 3 h (i 29) λs=>
 ob (GV.asB s) λp=>jn (bC p (bn .leq 3 h (i 42) λt=>
 ob (GV.asB t) λq=>jn (bC q (oN [] a) (oR [(i 2)] a)) λb j=>U0 b (oN [] j)) (oR [(i 1)] a)) λd k=>U0 d (oN [] k)) (oR [(i 0)] a)) λe l=>U0 e (oN [] l)) (oR [(.int .i64 (.negSucc 0))] a)) λf m=>U0 f (oN [] m))) λg n=>U0 g (oR [(i 3)] n)
def agC (c:CH) (q:QH) (u:List GV) (H:GH):RS:=U2 u λm v=>
 K c 187 [m,(i 0)] H λr n=>
 ln 160 m λs=>
 bn .neq 3 r s λt=>
 ob (GV.asB t) λp=>jn (bC p (oN [m,v] n) (oR [(i 0),(.bool false)] n)) λl o=>U2 l λa e=>ln 160 a λg=>
 bn .sub 3 g (i 1) λh=>
 jn (nB 0 (q 67 [a,e,.snil,h] o)) λd b=>U1 d λf=>ix 22 f (i 0) λj=>
 ld 3 j b λk=>
 oR [k,(.bool true)] b
def L67 (c:CH) (ql:QH) (us:List GV) (H:GH):RS:=U4 us λt u e f=>jn (bn .geq 3 f (i 0) λL=>
 ob (GV.asB L) λJ=>jn (bC J (oX 0 [e] H) (oN [t,u,e,f] H)) λq m=>U4 q λg v a h=>jn (nB 1 (ln 22 a λM=>
 ix 160 g h λN=>
 fd 213 0 N λO=>
 ld 3 O m λP=>
 K c 218 [P] m λQ n=>
 bn .sub 3 M Q λo=>
 ob (Cs y 22 a (some o) none n) λp=>
 ln 22 p λR=>
 jn (nB 2 (ql 68 [g,v,a,h,o,(i 0),p,R,(i 0)] n)) λr b=>U6 r λj k w l x z=>ob (Cs y 22 w none (some x) b) λS=>
 ix 160 j l λT=>
 fd 213 0 T λU=>
 ld 3 U b λV=>
 ob (GV.asF k) λd=>gU (c d.1 (d.2.1++[V,z]++d.2.2) b) λW E=>
 gU (AO y 22 1 [(0,W)] E) λX F=>
 gU (Re y 22 22 S X F) λY G=>
 oN [j,k,Y,l] G)) λs I=>U4 s λA B C D=>bn .sub 3 D (i 1) λaa=>
 oN [A,B,C,aa] I) (ql 67)
def L68 (c:CH) (O:QH) (P:List GV) (H:GH):RS:=U9 P λd e f g h j s k l=>jn (bn .lss 3 l k λK=>
 ob (GV.asB K) λJ=>jn (bC J (oX 2 [d,e,f,g,h,j] H) (oN [d,e,f,g,h,j,s,k,l] H)) λq o=>U9 q λt u v w x y m z n=>jn (nB 3 (ix 22 m n λL=>
 ld 3 L o λM=>
 ob (UW y M) λN=>
 oN [t,u,v,w,x,N,m,z,n] o)) λr I=>U9 r λA B C D E F G a b=>bn .add 3 b (i 1) λp=>
 oN [A,B,C,D,E,F,G,a,p] I) (O 68)
def agD (c:CH) (e:QH) (b:List GV) (H:GH):RS:=U2 b λf d=>
 bn .add 3 d (i 1) λa=>
 oR [a] H
def agE (c:CH) (m:QH) (k:List GV) (H:GH):RS:=U2 k λl d=>
 K c 222 [l] H λh b=>
 ob (GV.asB h) λg=>jn (bC g (oN [d] b) (bn .add 3 d (i 1) λj=>
 oR [j] b)) λa f=>U1 a λe=>oR [e] f
def agF (c:CH) (l:QH) (k:List GV) (H:GH):RS:=U1 k λd=>
 bn .geq 3 d (i 20) λa=>
 gU (rG a true H (some (d,H))) λg b=>
 gU (rG a true b (ob (Dz y .leq 3 g (i 29)) λe=>some (e,b))) λh f=>
 ob (wE a h (.bool false)) λj=>
 oR [j] f
def agG (c:CH) (m:QH) (o:List GV) (H:GH):RS:=U3 o λg p q=>
 bn .eql 9 g (.str 0 0) λn=>
 ob (GV.asB n) λl=>jn (bC l (oN [g,p,q] H) (oR [(i 0)] H)) λf k=>U3 f λh j a=>ln 106 a λe=>
 jn (nB 0 (m 71 [h,j,a,e,(i 0)] k)) λb d=>U0 b (oR [(i 0)] d)
def L71 (c:CH) (L:QH) (M:List GV) (H:GH):RS:=U5 M λm n o d e=>jn (bn .lss 3 e d λE=>
 ob (GV.asB E) λC=>jn (bC C (oX 0 [] H) (oN [m,n,o,d,e] H)) λj b=>U5 j λf g h p a=>jn (nB 1 (ix 106 h a λF=>
 ld 9 F b λG=>
 bn .eql 9 G f λI=>
 ob (GV.asB I) λD=>jn (bC D (oN [f,g,h,p,a] b) (bn .add 3 g a λJ=>
 oR [J] b)) λk A=>U5 k λq r s t u=>oN [q,r,s,t,u] A)) λl B=>U5 l λv w x y z=>bn .add 3 z (i 1) λK=>
 oN [v,w,x,y,K] B) (L 71)
def agH (c:CH) (f:QH) (g:List GV) (H:GH):RS:=U1 g λh=>
 jn (nB 0 (f 73 [h,(i 0),(i 0),.snil,.snil,(i 0)] H)) λa e=>U2 a λb d=>oR [b,d] e
def L73 (c:CH) (ql:QH) (us:List GV) (H:GH):RS:=U6 us λa6 a7 a8 a9 u h=>jn (ln 160 a6 λad=>
 bn .lss 3 h ad λae=>
 ob (GV.asB ae) λac=>jn (bC ac (oX 0 [a7,a8] H) (oN [a6,a7,a8,a9,u,h] H)) λq b=>U6 q λe v w x z f=>jn (nB 1 (ix 160 e f λaf=>
 fd 213 0 af λn=>
 ld 3 n b λag=>
 ob (Option.casesOn (motive:=λ_=>Option (Option (Nat×Nat))) (ob (GV.asP n) λp=>some p.1) (some none) λm=>ob (GH.ver b m) λab=>some (some (m,ab))) λav=>
 K c 162 [ag] b λah k=>
 ob (some ()) λ_=>
 gU (AO y 22 1 [(0,ah)] k) λai l=>
 ob (some ()) λ_=>
 gU (Re y 22 22 x ai l) λaj g=>
 ob (some ()) λ_=>
 ix 160 e f λak=>
 fd 213 0 ak λo=>
 ld 3 o g λal=>
 ob (Option.casesOn (motive:=λ_=>Option (Option (Nat×Nat))) (ob (GV.asP o) λp=>some p.1) (some none) λa=>ob (GH.ver g a) λd=>vck l a d (vck k a d (vck b a d (some (some (a,d)))))) λaw=>
 K c 164 [al] g λam U=>
 ob (some ()) λ_=>
 gU (AO y 268 1 [(0,am)] U) λan V=>
 ob (some ()) λ_=>
 gU (Re y 268 268 z an V) λao W=>
 ob (some ()) λ_=>
 jn (nB 2 (ql 74 [e,v,w,aj,ao,f,(i 0),(i 0)] W)) λr X=>U7 r λA B C j D E F=>ln 22 j λap=>
 ob (UW B ap) λaq=>
 ob (UW C F) λar=>
 jn (nB 4 (ql 75 [A,aq,ar,j,D,E] X)) λs Y=>U6 s λG I J L M N=>oN [G,I,J,L,M,N] Y)) λt aa=>U6 t λO P Q R S T=>bn .add 3 T (i 1) λau=>
 oN [O,P,Q,R,S,au] aa) (ql 73)
def L74 (c:CH) (X:QH) (Y:List GV) (H:GH):RS:=U8 Y λy z A B a C D E=>jn (ln 268 a λT=>
 bn .lss 3 E T λU=>
 ob (GV.asB U) λR=>jn (bC R (oX 2 [y,z,A,B,a,C,D] H) (oN [y,z,A,B,a,C,D,E] H)) λQ e=>U8 Q λF G I J b K L d=>jn (nB 3 (ix 268 b d λV=>
 ld 4 V e λW=>
 ob (GV.asB W) λS=>jn (bC S (oN [F,G,I,J,b,K,L,d] e) (bn .add 3 L (i 1) λO=>
 oN [F,G,I,J,b,K,O,d] e)) λf M=>U8 f λh j k l m n o p=>oN [h,j,k,l,m,n,o,p] M)) λg N=>U8 g λq r s t u v w x=>bn .add 3 x (i 1) λP=>
 oN [q,r,s,t,u,v,w,P] N) (X 74)
def L75 (c:CH) (ql:QH) (us:List GV) (H:GH):RS:=U6 us λg h j d k l=>jn (ln 22 d λac=>
 bn .gtr 3 ac (i 0) λa=>
 gU (rG a true H (some (d,H))) λad s=>
 gU (rG a true s (some (d,s))) λae t=>
 gU (rG a true t (ob (Rh y 22 ae) λR=>some (R,t))) λaf u=>
 gU (rG a true u (ob (Dz y .sub 3 af (i 1)) λS=>some (S,u))) λag v=>
 gU (rG a true v (ob (KL y 22 ad ag) λT=>some (T,v))) λah f=>
 gU (rG a true f (ob (wD y 3 ah f) λU=>some (U,f))) λai w=>
 gU (rG a true w (ob (Dz y .eql 3 ai (i 0)) λV=>some (V,w))) λaj x=>
 ob (wE a aj (.bool false)) λak=>
 ob (GV.asB ak) λaa=>jn (bC aa (oX 4 [g,h,j,d,k,l] x) (oN [g,h,j,d,k,l] x)) λB e=>U6 B λm n o p q r=>jn (nB 5 (ln 22 p λal=>
 bn .sub 3 al (i 1) λam=>
 ob (Cs y 22 p none (some am) e) λb=>
 ln 268 q λan=>
 bn .sub 3 an (i 1) λao=>
 ob (Cs y 268 q none (some ao) e) λz=>
 ln 22 b λap=>
 bn .gtr 3 ap (i 0) λaq=>
 ob (GV.asB aq) λab=>jn (bC ab (oN [m,n,o,b,z,r] e) (ln 22 b λar=>
 bn .sub 3 ar (i 1) λA=>
 ix 22 b A λau=>
 ld 3 au e λav=>
 bn .sub 3 av (i 1) λaw=>
 ix 22 b A λax=>
 gU (qH y 3 ax aw e) λay W=>
 oN [m,n,o,b,z,r] W)) λC X=>U6 C λE F G I J K=>oN [E,F,G,I,J,K] X)) λD Y=>U6 D λL M N O P Q=>oN [L,M,N,O,P,Q] Y) (ql 75)
def agI (c:CH) (ql:QH) (us:List GV) (H:GH):RS:=U2 us λb a=>
 jn (nB 0 (bn .eql 3 b (i 20) λt3=>
 ob (GV.asB t3) λq4=>jn (bC q4 (bn .eql 3 b (i 21) λao=>
 ob (GV.asB ao) λaf=>jn (bC af (bn .eql 3 b (i 22) λau=>
 ob (GV.asB au) λag=>jn (bC ag (bn .eql 3 b (i 23) λaw=>
 ob (GV.asB aw) λah=>jn (bC ah (bn .eql 3 b (i 24) λay=>
 ob (GV.asB ay) λai=>jn (bC ai (bn .eql 3 b (i 25) λaA=>
 ob (GV.asB aA) λaj=>jn (bC aj (bn .eql 3 b (i 26) λaC=>
 ob (GV.asB aC) λak=>jn (bC ak (bn .eql 3 b (i 27) λaF=>
 ob (GV.asB aF) λal=>jn (bC al (bn .eql 3 b (i 28) λaH=>
 ob (GV.asB aH) λam=>jn (bC am (oN [a] H) (K c 268 [a] H λh U=>
 ex 0 h λaO=>
 ex 1 h λaI=>
 oR [aI] U)) λl V=>U1 l λy=>oN [y] V) (K c 269 [a] H λaG T=>
 oR [aG] T)) λm W=>U1 m λz=>oN [z] W) (ln 22 a λaD=>
 jn (nB 3 (ql 77 [(i 0),a,aD,(i 0)] H)) λk R=>U1 k λx=>K c 259 [x] R λaE S=>
 oR [aE] S)) λn X=>U1 n λA=>oN [A] X) (K c 268 [a] H λg Q=>
 ex 0 g λaB=>
 ex 1 g λaN=>
 oR [aB] Q)) λo Y=>U1 o λB=>oN [B] Y) (ln 22 a λaz=>
 jn (nB 1 (ql 76 [(i 1073741824),a,az,(i 0)] H)) λj P=>U1 j λw=>oR [w] P)) λp aa=>U1 p λC=>oN [C] aa) (K c 266 [a,(.fn 267 [] [])] H λax O=>
 oR [ax] O)) λq ab=>U1 q λD=>oN [D] ab) (K c 265 [a] H λav N=>
 oR [av] N)) λr ac=>U1 r λE=>oN [E] ac) (K c 265 [a] H λap L=>
 bn .gtr 3 ap (i 0) λaq=>
 K c 257 [aq] L λar M=>
 oR [ar] M)) λs ad=>U1 s λF=>oN [F] ad) (K c 265 [a] H λt5 h6=>
 ln 22 a λt7=>
 bn .eql 3 t5 t7 λt8=>
 K c 257 [t8] h6 λt9 J=>
 oR [t9] J)) λt ae=>U1 t λG=>oN [G] ae)) λu e=>U1 u λd=>ln 22 d λaJ=>
 bn .eql 3 aJ (i 0) λaK=>
 ob (GV.asB aK) λan=>jn (bC an (oN [d] e) (oR [(i 0)] e)) λv f=>U1 v λI=>ix 22 I (i 0) λaL=>
 ld 3 aL f λaM=>
 oR [aM] f
def L76 (c:CH) (y:QH) (z:List GV) (H:GH):RS:=U4 z λn v o p=>jn (bn .lss 3 p o λx=>
 ob (GV.asB x) λw=>jn (bC w (oX 1 [n] H) (oN [n,v,o,p] H)) λe d=>U4 e λg a h b=>jn (nB 2 (ix 22 a b λr=>
 ld 3 r d λs=>
 ob (aaT g s) λt=>
 oN [t,a,h,b] d)) λf q=>U4 f λj k l m=>bn .add 3 m (i 1) λu=>
 oN [j,k,l,u] q) (y 76)
def L77 (c:CH) (y:QH) (z:List GV) (H:GH):RS:=U4 z λa k b d=>jn (bn .lss 3 d b λt=>
 ob (GV.asB t) λs=>jn (bC s (oX 3 [a] H) (oN [a,k,b,d] H)) λh g=>U4 h λl e m f=>jn (nB 4 (ix 22 e f λu=>
 ld 3 u g λv=>
 bn .add 3 l v λw=>
 oN [w,e,m,f] g)) λj r=>U4 j λn o p q=>bn .add 3 q (i 1) λx=>
 oN [n,o,p,x] r) (y 77)
def d0:(Code×Cx)×fM:=gD1 (cL Tryz.f34 [1,1,0,1,0,0],gK Tryz.f34 [(0,12)]) 1 0 1
def d1:(Code×Cx)×fM:=gD (cL Tryz.f34 [1,1,0,1,0,0,1,1,0,0,1,1,1,0,0],gK Tryz.f34 [(2,3612),(1,3612),(0,12)]) 1
def d2:(Code×Cx)×fM:=((cL Tryz.f37 [1,1,0,1,0,0],gK Tryz.f37 [(0,38)]),L2)
def d3:(Code×Cx)×fM:=((cL Tryz.f37 [1,1,1,0,1,0,0],gK Tryz.f37 [(2,32)]),L3)
def d4:(Code×Cx)×fM:=((cL Tryz.f37 [1,1,1,0,1,0,0,1,1,0,0,1,1,1,0,0],gK Tryz.f37 [(4,100663334),(3,100663334),(2,32)]),L4)
def d5:(Code×Cx)×fM:=gD (cL Tryz.f41 [1,1,1,0,1,0,0],gK Tryz.f41 [(0,128)]) 5
def d6:(Code×Cx)×fM:=gD (cL Tryz.f55 [1,1,0,1,0,0],gK Tryz.f55 [(0,0)]) 6
def d7:(Code×Cx)×fM:=((cL Tryz.f63 [1,1,1,0,1,0,0],gK Tryz.f63 [(0,32)]),L7)
def d8:(Code×Cx)×fM:=((cL Tryz.f66 [1,1,1,0,1,0,0],gK Tryz.f66 [(0,2)]),L8)
def d9:(Code×Cx)×fM:=((cL Tryz.f66 [1,1,1,1,0,1,0,0],gK Tryz.f66 [(2,2)]),L9)
def d10:(Code×Cx)×fM:=((cL Tryz.f66 [1,1,1,1,1,1,0,1,0,0],gK Tryz.f66 [(4,0)]),L10)
def d11:(Code×Cx)×fM:=gD1 (cL Tryz.f89 [1,1,0,1,0,0],gK Tryz.f89 [(0,8)]) 1 11 12
def d12:(Code×Cx)×fM:=gD (cL Tryz.f89 [1,1,0,1,0,0,1,1,0,0,1,1,0,0],gK Tryz.f89 [(2,57352),(1,57352),(0,8)]) 12
def d13:(Code×Cx)×fM:=gD (cL Tryz.f91 [1,1,1,1,1,1,1,0,1,0,0],gK Tryz.f91 [(0,5378)]) 13
def d14:(Code×Cx)×fM:=((cL Tryz.f101 [1,0,0,0],gK Tryz.f101 [(0,2)]),L14)
def d15:(Code×Cx)×fM:=((cL Tryz.f101 [1,0,0,0,1,0,1,0,1,1,1,0,0,0],gK Tryz.f101 [(3,3),(2,3),(1,3),(0,2)]),L15)
def d16:(Code×Cx)×fM:=gD (cL Tryz.f106 [1,1,1,0,1,0,0],gK Tryz.f106 [(0,33)]) 16
def d17:(Code×Cx)×fM:=gD (cL Tryz.f107 [1,0,0],gK Tryz.f107 [(0,0)]) 17
def d18:(Code×Cx)×fM:=gD (cL Tryz.f109 [1,1,1,1,1,0,0,0],gK Tryz.f109 [(0,5)]) 18
def d19:(Code×Cx)×fM:=((cL Tryz.f112 [1,1,1,0,1,0,0],gK Tryz.f112 [(0,2)]),L19)
def d20:(Code×Cx)×fM:=((cL Tryz.f112 [1,1,1,1,1,0,1,0,0],gK Tryz.f112 [(2,0)]),L20)
def d21:(Code×Cx)×fM:=gD (cL Tryz.f114 [1,1,1,0,1,0,0],gK Tryz.f114 [(0,0)]) 21
def d22:(Code×Cx)×fM:=gD (cL Tryz.f115 [1,1,0,1,0,0],gK Tryz.f115 [(0,8)]) 22
def d23:(Code×Cx)×fM:=gD (cL Tryz.f116 [1,1,0,1,0,0],gK Tryz.f116 [(0,0)]) 23
def d24:(Code×Cx)×fM:=((cL Tryz.f117 [1,1,0,1,0,0],gK Tryz.f117 [(0,38)]),L24)
def d25:(Code×Cx)×fM:=((cL Tryz.f117 [1,1,1,1,1,0,0,0],gK Tryz.f117 [(2,32)]),L25)
def d26:(Code×Cx)×fM:=((cL Tryz.f117 [1,1,1,1,1,0,0,0,1,0,1,1,1,0,0],gK Tryz.f117 [(4,164),(3,164),(2,32)]),L26)
def d27:(Code×Cx)×fM:=gD (cL Tryz.f127 [1,1,1,0,1,0,0],gK Tryz.f127 [(0,0)]) 27
def d28:(Code×Cx)×fM:=gD (cL Tryz.f128 [1,1,0,1,0,0],gK Tryz.f128 [(0,0)]) 28
def d29:(Code×Cx)×fM:=gD1 (cL Tryz.f129 [1,1,0,1,0,0],gK Tryz.f129 [(0,32)]) 1 29 30
def d30:(Code×Cx)×fM:=gD (cL Tryz.f129 [1,1,0,1,0,0,1,1,0,0,1,1,1,0,0],gK Tryz.f129 [(2,49196),(1,49196),(0,32)]) 30
def d31:(Code×Cx)×fM:=gD1 (cL Tryz.f130 [1,1,0,1,0,0],gK Tryz.f130 [(0,32)]) 1 31 32
def d32:(Code×Cx)×fM:=gD (cL Tryz.f130 [1,1,0,1,0,0,1,1,0,0,1,1,1,0,0],gK Tryz.f130 [(2,3670056),(1,3670056),(0,32)]) 32
def d33:(Code×Cx)×fM:=gD (cL Tryz.f131 [1,1,0,1,0,0],gK Tryz.f131 [(0,8)]) 33
def d34:(Code×Cx)×fM:=gD (cL Tryz.f134 [1,1,0,1,0,0],gK Tryz.f134 [(0,128)]) 34
def d35:(Code×Cx)×fM:=gD (cL Tryz.f139 [1,1,0,1,0,0],gK Tryz.f139 [(0,32)]) 35
def d36:(Code×Cx)×fM:=gD (cL Tryz.f141 [1,0,1,0,0],gK Tryz.f141 [(0,0)]) 36
def d37:(Code×Cx)×fM:=((cL Tryz.f142 [1,1,0,0,0],gK Tryz.f142 [(0,32)]),L37)
def d38:(Code×Cx)×fM:=gD (cL Tryz.f146 [1,1,1,0,1,0,0],gK Tryz.f146 [(0,16)]) 38
def d39:(Code×Cx)×fM:=((cL Tryz.f147 [1,0,1,0,0],gK Tryz.f147 [(0,1)]),L39)
def d40:(Code×Cx)×fM:=gD (cL Tryz.f151 [1,1,0,1,0,0],gK Tryz.f151 [(0,1)]) 40
def d41:(Code×Cx)×fM:=gD (cL Tryz.f159 [1,1,0,1,0,0],gK Tryz.f159 [(0,1)]) 41
def d42:(Code×Cx)×fM:=gD (cL Tryz.f160 [1,1,0,1,0,0],gK Tryz.f160 [(0,7)]) 42
def d43:(Code×Cx)×fM:=((cL Tryz.f161 [1,1,1,0,1,0,0],gK Tryz.f161 [(0,2)]),L43)
def d44:(Code×Cx)×fM:=((cL Tryz.f161 [1,1,1,1,0,1,0,0],gK Tryz.f161 [(2,2)]),L44)
def d45:(Code×Cx)×fM:=((cL Tryz.f161 [1,1,1,1,1,0,1,0,0],gK Tryz.f161 [(4,0)]),L45)
def d46:(Code×Cx)×fM:=gD (cL Tryz.f168 [1,1,1,0,1,0,0],gK Tryz.f168 [(0,128)]) 46
def d47:(Code×Cx)×fM:=gD (cL Tryz.f170 [1,1,0,1,0,0],gK Tryz.f170 [(0,0)]) 47
def d48:(Code×Cx)×fM:=gD (cL Tryz.f171 [1,1,0,1,0,0],gK Tryz.f171 [(0,0)]) 48
def d49:(Code×Cx)×fM:=gD (cL Tryz.f172 [1,0,1,0,0],gK Tryz.f172 [(0,0)]) 49
def d50:(Code×Cx)×fM:=gD (cL Tryz.f174 [1,1,0,1,0,0],gK Tryz.f174 [(0,512)]) 50
def d51:(Code×Cx)×fM:=gD (cL Tryz.f176 [1,0,1,0,0],gK Tryz.f176 [(0,0)]) 51
def d52:(Code×Cx)×fM:=((cL Tryz.f184 [1,1,1,0,0],gK Tryz.f184 [(0,16)]),L52)
def d53:(Code×Cx)×fM:=((cL Tryz.f185 [1,1,0,1,0,0],gK Tryz.f185 [(0,32)]),L53)
def d54:(Code×Cx)×fM:=gD (cL Tryz.f186 [1,0,1,0,0],gK Tryz.f186 [(0,0)]) 54
def d55:(Code×Cx)×fM:=((cL Tryz.f187 [1,1,0,1,0,0],gK Tryz.f187 [(0,0)]),L55)
def d56:(Code×Cx)×fM:=gD (cL Tryz.f191 [1,1,1,1,1,1,0,1,0,0],gK Tryz.f191 [(0,1408)]) 56
def d57:(Code×Cx)×fM:=((cL Tryz.f193 [1,1,0,1,0,0],gK Tryz.f193 [(0,2)]),L57)
def d58:(Code×Cx)×fM:=((cL Tryz.f193 [1,1,1,0,1,0,0],gK Tryz.f193 [(4,0)]),L58)
def d59:(Code×Cx)×fM:=((cL Tryz.f193 [1,1,0,1,0,0,1,0,0,0,1,0,0],gK Tryz.f193 [(2,10),(1,10),(0,2)]),L59)
def d60:(Code×Cx)×fM:=((cL Tryz.f193 [1,1,1,0,1,0,0,1,0,0,0,1,0,0],gK Tryz.f193 [(6,34),(5,34),(4,0)]),L60)
def d61:(Code×Cx)×fM:=gD1 (cL Tryz.f195 [1,1,0,1,0,0],gK Tryz.f195 [(0,0)]) 1 61 62
def d62:(Code×Cx)×fM:=gD (cL Tryz.f195 [1,1,0,1,0,0,1,0,0,1,1,0,0],gK Tryz.f195 [(2,38),(1,38),(0,0)]) 62
def d63:(Code×Cx)×fM:=gD (cL Tryz.f196 [1,1,0,1,0,0],gK Tryz.f196 [(0,0)]) 63
def d64:(Code×Cx)×fM:=gD (cL Tryz.f197 [1,1,0,1,0,0],gK Tryz.f197 [(0,8)]) 64
def d65:(Code×Cx)×fM:=gD (cL Tryz.f204 [1,1,1,0,1,0,0],gK Tryz.f204 [(0,0)]) 65
def d66:(Code×Cx)×fM:=gD (cL Tryz.f206 [1,1,1,0,1,0,0],gK Tryz.f206 [(0,8)]) 66
def d67:(Code×Cx)×fM:=((cL Tryz.f219 [1,1,1,0,1,0,0],gK Tryz.f219 [(0,64)]),L67)
def d68:(Code×Cx)×fM:=((cL Tryz.f219 [1,1,1,0,1,0,0,1,0,0,1,1,0,1,0,0],gK Tryz.f219 [(2,963),(1,195),(0,64)]),L68)
def d69:(Code×Cx)×fM:=gD (cL Tryz.f226 [1,1,0,1,0,0],gK Tryz.f226 [(0,1)]) 69
def d70:(Code×Cx)×fM:=gD (cL Tryz.f228 [1,1,0,1,0,0],gK Tryz.f228 [(0,0)]) 70
def d71:(Code×Cx)×fM:=((cL Tryz.f234 [1,1,0,1,0,0],gK Tryz.f234 [(0,0)]),L71)
def d72:(Code×Cx)×fM:=gD (cL Tryz.f249 [1,1,1,0,1,0,0],gK Tryz.f249 [(0,903)]) 72
def d73:(Code×Cx)×fM:=((cL Tryz.f255 [1,1,1,1,0,1,0,0],gK Tryz.f255 [(0,48)]),L73)
def d74:(Code×Cx)×fM:=((cL Tryz.f255 [1,1,1,1,0,1,0,0,1,0,0,1,1,0,1,0,0],gK Tryz.f255 [(2,1009),(1,497),(0,48)]),L74)
def d75:(Code×Cx)×fM:=((cL Tryz.f255 [1,1,1,1,0,1,0,0,1,0,0,1,1,1,1,0,0],gK Tryz.f255 [(4,497),(1,497),(0,48)]),L75)
def d76:(Code×Cx)×fM:=((cL Tryz.f258 [1,0,1,0,1,1,1,1,1,1,1,1,1,0,1,0,1,0,0],gK Tryz.f258 [(1,32),(0,2)]),L76)
def d77:(Code×Cx)×fM:=((cL Tryz.f258 [1,0,1,0,1,1,1,1,1,1,1,1,1,1,1,1,1,0,1,0,1,0,0],gK Tryz.f258 [(3,1024),(0,2)]),L77)
def d78:(Code×Cx)×fM:=gD (cL Tryz.f265 [1,1,0,1,0,0],gK Tryz.f265 [(0,8)]) 78
def d79:(Code×Cx)×fM:=gD (cL Tryz.f266 [1,0,1,0,0],gK Tryz.f266 [(0,0)]) 79
def d80:(Code×Cx)×fM:=gD (cL Tryz.f268 [1,1,0,1,0,0],gK Tryz.f268 [(0,12)]) 80
def d81:(Code×Cx)×fM:=gD (cL Tryz.f269 [1,1,0,0,0],gK Tryz.f269 [(0,8)]) 81
def d82:(Code×Cx)×fM:=gD (cL Tryz.f272 [1,0,1,0,0],gK Tryz.f272 [(0,0)]) 82
def Wc (f:Nat):Option (Func×fM):=(tN f 176 (tN f 115 (tN f 71 (tN f 41 (tN f 23 (tN f 14 (tN f 10 (tL f 8 (Tryz.f8,(gB Tryz.f8))) (tL f 10 (Tryz.f10,(gB Tryz.f10)))) (tN f 18 (tL f 14 (Tryz.f14,(gB Tryz.f14))) (tN f 22 (tL f 18 (Tryz.f18,(gB Tryz.f18))) (tL f 22 (Tryz.f22,(gB Tryz.f22)))))) (tN f 32 (tN f 25 (tL f 23 (Tryz.f23,(gB Tryz.f23))) (tL f 25 (Tryz.f25,(gB Tryz.f25)))) (tN f 34 (tL f 32 (Tryz.f32,(gB Tryz.f32))) (tN f 37 (tL f 34 (Tryz.f34,(pZ Tryz.f34 0))) (tL f 37 (Tryz.f37,B37)))))) (tN f 55 (tN f 52 (tN f 51 (tL f 41 (Tryz.f41,(pZ Tryz.f41 5))) (tL f 51 (Tryz.f51,(gB Tryz.f51)))) (tN f 53 (tL f 52 (Tryz.f52,(gB Tryz.f52))) (tN f 54 (tL f 53 (Tryz.f53,(gB Tryz.f53))) (tL f 54 (Tryz.f54,(gB Tryz.f54)))))) (tN f 63 (tN f 57 (tL f 55 (Tryz.f55,(pZ Tryz.f55 6))) (tN f 60 (tL f 57 (Tryz.f57,(gB Tryz.f57))) (tL f 60 (Tryz.f60,(gB Tryz.f60))))) (tN f 65 (tL f 63 (Tryz.f63,B63)) (tN f 66 (tL f 65 (Tryz.f65,(gB Tryz.f65))) (tL f 66 (Tryz.f66,B66))))))) (tN f 102 (tN f 90 (tN f 87 (tN f 86 (tL f 71 (Tryz.f71,(gB Tryz.f71))) (tL f 86 (Tryz.f86,(gB Tryz.f86)))) (tN f 88 (tL f 87 (Tryz.f87,(gB Tryz.f87))) (tN f 89 (tL f 88 (Tryz.f88,(gB Tryz.f88))) (tL f 89 (Tryz.f89,(pZ Tryz.f89 11)))))) (tN f 97 (tN f 91 (tL f 90 (Tryz.f90,(gB Tryz.f90))) (tN f 92 (tL f 91 (Tryz.f91,(pZ Tryz.f91 13))) (tL f 92 (Tryz.f92,(gB Tryz.f92))))) (tN f 98 (tL f 97 (Tryz.f97,(gB Tryz.f97))) (tN f 101 (tL f 98 (Tryz.f98,(gB Tryz.f98))) (tL f 101 (Tryz.f101,agi)))))) (tN f 109 (tN f 106 (tN f 105 (tL f 102 (Tryz.f102,(gB Tryz.f102))) (tL f 105 (Tryz.f105,(gB Tryz.f105)))) (tN f 107 (tL f 106 (Tryz.f106,(pZ Tryz.f106 16))) (tN f 108 (tL f 107 (Tryz.f107,(pZ Tryz.f107 17))) (tL f 108 (Tryz.f108,(gB Tryz.f108)))))) (tN f 112 (tN f 110 (tL f 109 (Tryz.f109,(pZ Tryz.f109 18))) (tN f 111 (tL f 110 (Tryz.f110,(gB Tryz.f110))) (tL f 111 (Tryz.f111,(gB Tryz.f111))))) (tN f 113 (tL f 112 (Tryz.f112,agj)) (tN f 114 (tL f 113 (Tryz.f113,(gB Tryz.f113))) (tL f 114 (Tryz.f114,(pZ Tryz.f114 21))))))))) (tN f 149 (tN f 135 (tN f 128 (tN f 117 (tN f 116 (tL f 115 (Tryz.f115,(pZ Tryz.f115 22))) (tL f 116 (Tryz.f116,(pZ Tryz.f116 23)))) (tN f 122 (tL f 117 (Tryz.f117,agk)) (tN f 127 (tL f 122 (Tryz.f122,(gB Tryz.f122))) (tL f 127 (Tryz.f127,(pZ Tryz.f127 27)))))) (tN f 131 (tN f 129 (tL f 128 (Tryz.f128,(pZ Tryz.f128 28))) (tN f 130 (tL f 129 (Tryz.f129,(pZ Tryz.f129 29))) (tL f 130 (Tryz.f130,(pZ Tryz.f130 31))))) (tN f 132 (tL f 131 (Tryz.f131,(pZ Tryz.f131 33))) (tN f 134 (tL f 132 (Tryz.f132,(gB Tryz.f132))) (tL f 134 (Tryz.f134,(pZ Tryz.f134 34))))))) (tN f 143 (tN f 140 (tN f 139 (tL f 135 (Tryz.f135,(gB Tryz.f135))) (tL f 139 (Tryz.f139,(pZ Tryz.f139 35)))) (tN f 141 (tL f 140 (Tryz.f140,(gB Tryz.f140))) (tN f 142 (tL f 141 (Tryz.f141,(pZ Tryz.f141 36))) (tL f 142 (Tryz.f142,agl))))) (tN f 146 (tN f 144 (tL f 143 (Tryz.f143,agm)) (tN f 145 (tL f 144 (Tryz.f144,agn)) (tL f 145 (Tryz.f145,ago)))) (tN f 147 (tL f 146 (Tryz.f146,(pZ Tryz.f146 38))) (tN f 148 (tL f 147 (Tryz.f147,agp)) (tL f 148 (Tryz.f148,agq))))))) (tN f 160 (tN f 154 (tN f 151 (tN f 150 (tL f 149 (Tryz.f149,agr)) (tL f 150 (Tryz.f150,(gB Tryz.f150)))) (tN f 152 (tL f 151 (Tryz.f151,(pZ Tryz.f151 40))) (tN f 153 (tL f 152 (Tryz.f152,ags)) (tL f 153 (Tryz.f153,(gB Tryz.f153)))))) (tN f 157 (tN f 155 (tL f 154 (Tryz.f154,(gB Tryz.f154))) (tN f 156 (tL f 155 (Tryz.f155,(gB Tryz.f155))) (tL f 156 (Tryz.f156,(gB Tryz.f156))))) (tN f 158 (tL f 157 (Tryz.f157,(gB Tryz.f157))) (tN f 159 (tL f 158 (Tryz.f158,(gB Tryz.f158))) (tL f 159 (Tryz.f159,(pZ Tryz.f159 41))))))) (tN f 169 (tN f 162 (tN f 161 (tL f 160 (Tryz.f160,(pZ Tryz.f160 42))) (tL f 161 (Tryz.f161,agt))) (tN f 164 (tL f 162 (Tryz.f162,(gB Tryz.f162))) (tN f 168 (tL f 164 (Tryz.f164,(gB Tryz.f164))) (tL f 168 (Tryz.f168,(pZ Tryz.f168 46)))))) (tN f 172 (tN f 170 (tL f 169 (Tryz.f169,(gB Tryz.f169))) (tN f 171 (tL f 170 (Tryz.f170,(pZ Tryz.f170 47))) (tL f 171 (Tryz.f171,(pZ Tryz.f171 48))))) (tN f 174 (tL f 172 (Tryz.f172,(pZ Tryz.f172 49))) (tN f 175 (tL f 174 (Tryz.f174,(pZ Tryz.f174 50))) (tL f 175 (Tryz.f175,(gB Tryz.f175)))))))))) (tN f 227 (tN f 205 (tN f 188 (tN f 182 (tN f 179 (tN f 177 (tL f 176 (Tryz.f176,(pZ Tryz.f176 51))) (tL f 177 (Tryz.f177,(gB Tryz.f177)))) (tN f 180 (tL f 179 (Tryz.f179,(gB Tryz.f179))) (tN f 181 (tL f 180 (Tryz.f180,agu)) (tL f 181 (Tryz.f181,(gB Tryz.f181)))))) (tN f 185 (tN f 183 (tL f 182 (Tryz.f182,(gB Tryz.f182))) (tN f 184 (tL f 183 (Tryz.f183,(gB Tryz.f183))) (tL f 184 (Tryz.f184,agv)))) (tN f 186 (tL f 185 (Tryz.f185,agw)) (tN f 187 (tL f 186 (Tryz.f186,(pZ Tryz.f186 54))) (tL f 187 (Tryz.f187,agx)))))) (tN f 193 (tN f 190 (tN f 189 (tL f 188 (Tryz.f188,(gB Tryz.f188))) (tL f 189 (Tryz.f189,(gB Tryz.f189)))) (tN f 191 (tL f 190 (Tryz.f190,(gB Tryz.f190))) (tN f 192 (tL f 191 (Tryz.f191,(pZ Tryz.f191 56))) (tL f 192 (Tryz.f192,(gB Tryz.f192)))))) (tN f 196 (tN f 194 (tL f 193 (Tryz.f193,agy)) (tN f 195 (tL f 194 (Tryz.f194,(gB Tryz.f194))) (tL f 195 (Tryz.f195,(pZ Tryz.f195 61))))) (tN f 197 (tL f 196 (Tryz.f196,(pZ Tryz.f196 63))) (tN f 204 (tL f 197 (Tryz.f197,(pZ Tryz.f197 64))) (tL f 204 (Tryz.f204,(pZ Tryz.f204 65)))))))) (tN f 216 (tN f 210 (tN f 207 (tN f 206 (tL f 205 (Tryz.f205,(gB Tryz.f205))) (tL f 206 (Tryz.f206,(pZ Tryz.f206 66)))) (tN f 208 (tL f 207 (Tryz.f207,(gB Tryz.f207))) (tN f 209 (tL f 208 (Tryz.f208,(gB Tryz.f208))) (tL f 209 (Tryz.f209,(gB Tryz.f209)))))) (tN f 213 (tN f 211 (tL f 210 (Tryz.f210,(gB Tryz.f210))) (tN f 212 (tL f 211 (Tryz.f211,agz)) (tL f 212 (Tryz.f212,(gB Tryz.f212))))) (tN f 214 (tL f 213 (Tryz.f213,(gB Tryz.f213))) (tN f 215 (tL f 214 (Tryz.f214,(gB Tryz.f214))) (tL f 215 (Tryz.f215,agA)))))) (tN f 221 (tN f 218 (tN f 217 (tL f 216 (Tryz.f216,(gB Tryz.f216))) (tL f 217 (Tryz.f217,(gB Tryz.f217)))) (tN f 219 (tL f 218 (Tryz.f218,agB)) (tN f 220 (tL f 219 (Tryz.f219,agC)) (tL f 220 (Tryz.f220,agD))))) (tN f 224 (tN f 222 (tL f 221 (Tryz.f221,agE)) (tN f 223 (tL f 222 (Tryz.f222,agF)) (tL f 223 (Tryz.f223,(gB Tryz.f223))))) (tN f 225 (tL f 224 (Tryz.f224,(gB Tryz.f224))) (tN f 226 (tL f 225 (Tryz.f225,(gB Tryz.f225))) (tL f 226 (Tryz.f226,(pZ Tryz.f226 69))))))))) (tN f 251 (tN f 240 (tN f 234 (tN f 229 (tN f 228 (tL f 227 (Tryz.f227,(gB Tryz.f227))) (tL f 228 (Tryz.f228,(pZ Tryz.f228 70)))) (tN f 231 (tL f 229 (Tryz.f229,(gB Tryz.f229))) (tN f 233 (tL f 231 (Tryz.f231,(gB Tryz.f231))) (tL f 233 (Tryz.f233,(gB Tryz.f233)))))) (tN f 237 (tN f 235 (tL f 234 (Tryz.f234,agG)) (tN f 236 (tL f 235 (Tryz.f235,(gB Tryz.f235))) (tL f 236 (Tryz.f236,(gB Tryz.f236))))) (tN f 238 (tL f 237 (Tryz.f237,(gB Tryz.f237))) (tN f 239 (tL f 238 (Tryz.f238,(gB Tryz.f238))) (tL f 239 (Tryz.f239,(gB Tryz.f239))))))) (tN f 245 (tN f 242 (tN f 241 (tL f 240 (Tryz.f240,(gB Tryz.f240))) (tL f 241 (Tryz.f241,(gB Tryz.f241)))) (tN f 243 (tL f 242 (Tryz.f242,(gB Tryz.f242))) (tN f 244 (tL f 243 (Tryz.f243,(gB Tryz.f243))) (tL f 244 (Tryz.f244,(gB Tryz.f244)))))) (tN f 248 (tN f 246 (tL f 245 (Tryz.f245,(gB Tryz.f245))) (tN f 247 (tL f 246 (Tryz.f246,(gB Tryz.f246))) (tL f 247 (Tryz.f247,(gB Tryz.f247))))) (tN f 249 (tL f 248 (Tryz.f248,(gB Tryz.f248))) (tN f 250 (tL f 249 (Tryz.f249,(pZ Tryz.f249 72))) (tL f 250 (Tryz.f250,(gB Tryz.f250)))))))) (tN f 262 (tN f 256 (tN f 253 (tN f 252 (tL f 251 (Tryz.f251,(gB Tryz.f251))) (tL f 252 (Tryz.f252,(gB Tryz.f252)))) (tN f 254 (tL f 253 (Tryz.f253,(gB Tryz.f253))) (tN f 255 (tL f 254 (Tryz.f254,(gB Tryz.f254))) (tL f 255 (Tryz.f255,agH))))) (tN f 259 (tN f 257 (tL f 256 (Tryz.f256,(gB Tryz.f256))) (tN f 258 (tL f 257 (Tryz.f257,(gB Tryz.f257))) (tL f 258 (Tryz.f258,agI)))) (tN f 260 (tL f 259 (Tryz.f259,(gB Tryz.f259))) (tN f 261 (tL f 260 (Tryz.f260,(gB Tryz.f260))) (tL f 261 (Tryz.f261,(gB Tryz.f261))))))) (tN f 267 (tN f 264 (tN f 263 (tL f 262 (Tryz.f262,(gB Tryz.f262))) (tL f 263 (Tryz.f263,(gB Tryz.f263)))) (tN f 265 (tL f 264 (Tryz.f264,(gB Tryz.f264))) (tN f 266 (tL f 265 (Tryz.f265,(pZ Tryz.f265 78))) (tL f 266 (Tryz.f266,(pZ Tryz.f266 79)))))) (tN f 270 (tN f 268 (tL f 267 (Tryz.f267,(gB Tryz.f267))) (tN f 269 (tL f 268 (Tryz.f268,(pZ Tryz.f268 80))) (tL f 269 (Tryz.f269,(pZ Tryz.f269 81))))) (tN f 271 (tL f 270 (Tryz.f270,(gB Tryz.f270))) (tN f 272 (tL f 271 (Tryz.f271,(gB Tryz.f271))) (tL f 272 (Tryz.f272,(pZ Tryz.f272 82)))))))))))
def adY (f:Nat):Option ((Code×Cx)×fM):=(tN f 41 (tN f 20 (tN f 10 (tN f 5 (tN f 2 (tN f 1 (tL f 0 d0) (tL f 1 d1)) (tN f 3 (tL f 2 d2) (tN f 4 (tL f 3 d3) (tL f 4 d4)))) (tN f 7 (tN f 6 (tL f 5 d5) (tL f 6 d6)) (tN f 8 (tL f 7 d7) (tN f 9 (tL f 8 d8) (tL f 9 d9))))) (tN f 15 (tN f 12 (tN f 11 (tL f 10 d10) (tL f 11 d11)) (tN f 13 (tL f 12 d12) (tN f 14 (tL f 13 d13) (tL f 14 d14)))) (tN f 17 (tN f 16 (tL f 15 d15) (tL f 16 d16)) (tN f 18 (tL f 17 d17) (tN f 19 (tL f 18 d18) (tL f 19 d19)))))) (tN f 30 (tN f 25 (tN f 22 (tN f 21 (tL f 20 d20) (tL f 21 d21)) (tN f 23 (tL f 22 d22) (tN f 24 (tL f 23 d23) (tL f 24 d24)))) (tN f 27 (tN f 26 (tL f 25 d25) (tL f 26 d26)) (tN f 28 (tL f 27 d27) (tN f 29 (tL f 28 d28) (tL f 29 d29))))) (tN f 35 (tN f 32 (tN f 31 (tL f 30 d30) (tL f 31 d31)) (tN f 33 (tL f 32 d32) (tN f 34 (tL f 33 d33) (tL f 34 d34)))) (tN f 38 (tN f 36 (tL f 35 d35) (tN f 37 (tL f 36 d36) (tL f 37 d37))) (tN f 39 (tL f 38 d38) (tN f 40 (tL f 39 d39) (tL f 40 d40))))))) (tN f 62 (tN f 51 (tN f 46 (tN f 43 (tN f 42 (tL f 41 d41) (tL f 42 d42)) (tN f 44 (tL f 43 d43) (tN f 45 (tL f 44 d44) (tL f 45 d45)))) (tN f 48 (tN f 47 (tL f 46 d46) (tL f 47 d47)) (tN f 49 (tL f 48 d48) (tN f 50 (tL f 49 d49) (tL f 50 d50))))) (tN f 56 (tN f 53 (tN f 52 (tL f 51 d51) (tL f 52 d52)) (tN f 54 (tL f 53 d53) (tN f 55 (tL f 54 d54) (tL f 55 d55)))) (tN f 59 (tN f 57 (tL f 56 d56) (tN f 58 (tL f 57 d57) (tL f 58 d58))) (tN f 60 (tL f 59 d59) (tN f 61 (tL f 60 d60) (tL f 61 d61)))))) (tN f 72 (tN f 67 (tN f 64 (tN f 63 (tL f 62 d62) (tL f 63 d63)) (tN f 65 (tL f 64 d64) (tN f 66 (tL f 65 d65) (tL f 66 d66)))) (tN f 69 (tN f 68 (tL f 67 d67) (tL f 68 d68)) (tN f 70 (tL f 69 d69) (tN f 71 (tL f 70 d70) (tL f 71 d71))))) (tN f 77 (tN f 74 (tN f 73 (tL f 72 d72) (tL f 73 d73)) (tN f 75 (tL f 74 d74) (tN f 76 (tL f 75 d75) (tL f 76 d76)))) (tN f 80 (tN f 78 (tL f 77 d77) (tN f 79 (tL f 78 d78) (tL f 79 d79))) (tN f 81 (tL f 80 d80) (tN f 82 (tL f 81 d81) (tL f 82 d82))))))))
def F_:IY:=⟨Wc,adY⟩
def FO (f:Nat) (e:Func×fM):Prop:=(∀(c:CH) (a:LH) us H,e.2 c (F_.loop a) us H=Zq xT c a e.1 us H)∧Tryz.prog.funcs[f]? = some e.1∧aU Tryz.prog f∧okF y e.1=true
def LO (e:(Code×Cx)×fM):Prop:=∀(c:CH) (a:LH) us H,e.2 c (F_.loop a) us H=evL xT c a e.1.1 e.1.2 us H
theorem e8:FO 8 (Tryz.f8,(gB Tryz.f8)):=⟨λ_ _ _ _=>by kernel_rfl,Tryz.func8,Tryz.call8,by kernel_rfl⟩
theorem e10:FO 10 (Tryz.f10,(gB Tryz.f10)):=⟨λ_ _ _ _=>by kernel_rfl,Tryz.func10,Tryz.call10,by kernel_rfl⟩
theorem e14:FO 14 (Tryz.f14,(gB Tryz.f14)):=⟨λ_ _ _ _=>by kernel_rfl,Tryz.func14,Tryz.call14,by kernel_rfl⟩
theorem e18:FO 18 (Tryz.f18,(gB Tryz.f18)):=⟨λ_ _ _ _=>by kernel_rfl,Tryz.func18,Tryz.call18,by kernel_rfl⟩
theorem e22:FO 22 (Tryz.f22,(gB Tryz.f22)):=⟨λ_ _ _ _=>by kernel_rfl,Tryz.func22,Tryz.call22,by kernel_rfl⟩
theorem e23:FO 23 (Tryz.f23,(gB Tryz.f23)):=⟨λ_ _ _ _=>by kernel_rfl,Tryz.func23,Tryz.call23,by kernel_rfl⟩
theorem e25:FO 25 (Tryz.f25,(gB Tryz.f25)):=⟨λ_ _ _ _=>by kernel_rfl,Tryz.func25,Tryz.call25,by kernel_rfl⟩
theorem e32:FO 32 (Tryz.f32,(gB Tryz.f32)):=⟨λ_ _ _ _=>by kernel_rfl,Tryz.func32,Tryz.call32,by kernel_rfl⟩
theorem e34:FO 34 (Tryz.f34,(pZ Tryz.f34 0)):=⟨λ_ _ _ _=>by kernel_rfl,Tryz.func34,Tryz.call34,by kernel_rfl⟩
theorem e37:FO 37 (Tryz.f37,B37):=⟨λ_ _ _ _=>by kernel_rfl,Tryz.func37,Tryz.call37,by kernel_rfl⟩
theorem e41:FO 41 (Tryz.f41,(pZ Tryz.f41 5)):=⟨λ_ _ _ _=>by kernel_rfl,Tryz.func41,Tryz.call41,by kernel_rfl⟩
theorem e51:FO 51 (Tryz.f51,(gB Tryz.f51)):=⟨λ_ _ _ _=>by kernel_rfl,Tryz.func51,Tryz.call51,by kernel_rfl⟩
theorem e52:FO 52 (Tryz.f52,(gB Tryz.f52)):=⟨λ_ _ _ _=>by kernel_rfl,Tryz.func52,Tryz.call52,by kernel_rfl⟩
theorem e53:FO 53 (Tryz.f53,(gB Tryz.f53)):=⟨λ_ _ _ _=>by kernel_rfl,Tryz.func53,Tryz.call53,by kernel_rfl⟩
theorem e54:FO 54 (Tryz.f54,(gB Tryz.f54)):=⟨λ_ _ _ _=>by kernel_rfl,Tryz.func54,Tryz.call54,by kernel_rfl⟩
theorem e55:FO 55 (Tryz.f55,(pZ Tryz.f55 6)):=⟨λ_ _ _ _=>by kernel_rfl,Tryz.func55,Tryz.call55,by kernel_rfl⟩
theorem e57:FO 57 (Tryz.f57,(gB Tryz.f57)):=⟨λ_ _ _ _=>by kernel_rfl,Tryz.func57,Tryz.call57,by kernel_rfl⟩
theorem e60:FO 60 (Tryz.f60,(gB Tryz.f60)):=⟨λ_ _ _ _=>by kernel_rfl,Tryz.func60,Tryz.call60,by kernel_rfl⟩
theorem e63:FO 63 (Tryz.f63,B63):=⟨λ_ _ _ _=>by kernel_rfl,Tryz.func63,Tryz.call63,by kernel_rfl⟩
theorem e65:FO 65 (Tryz.f65,(gB Tryz.f65)):=⟨λ_ _ _ _=>by kernel_rfl,Tryz.func65,Tryz.call65,by kernel_rfl⟩
theorem e66:FO 66 (Tryz.f66,B66):=⟨λ_ _ _ _=>by kernel_rfl,Tryz.func66,Tryz.call66,by kernel_rfl⟩
theorem e71:FO 71 (Tryz.f71,(gB Tryz.f71)):=⟨λ_ _ _ _=>by kernel_rfl,Tryz.func71,Tryz.call71,by kernel_rfl⟩
theorem e86:FO 86 (Tryz.f86,(gB Tryz.f86)):=⟨λ_ _ _ _=>by kernel_rfl,Tryz.func86,Tryz.call86,by kernel_rfl⟩
theorem e87:FO 87 (Tryz.f87,(gB Tryz.f87)):=⟨λ_ _ _ _=>by kernel_rfl,Tryz.func87,Tryz.call87,by kernel_rfl⟩
theorem e88:FO 88 (Tryz.f88,(gB Tryz.f88)):=⟨λ_ _ _ _=>by kernel_rfl,Tryz.func88,Tryz.call88,by kernel_rfl⟩
theorem e89:FO 89 (Tryz.f89,(pZ Tryz.f89 11)):=⟨λ_ _ _ _=>by kernel_rfl,Tryz.func89,Tryz.call89,by kernel_rfl⟩
theorem e90:FO 90 (Tryz.f90,(gB Tryz.f90)):=⟨λ_ _ _ _=>by kernel_rfl,Tryz.func90,Tryz.call90,by kernel_rfl⟩
theorem e91:FO 91 (Tryz.f91,(pZ Tryz.f91 13)):=⟨λ_ _ _ _=>by kernel_rfl,Tryz.func91,Tryz.call91,by kernel_rfl⟩
theorem e92:FO 92 (Tryz.f92,(gB Tryz.f92)):=⟨λ_ _ _ _=>by kernel_rfl,Tryz.func92,Tryz.call92,by kernel_rfl⟩
theorem e97:FO 97 (Tryz.f97,(gB Tryz.f97)):=⟨λ_ _ _ _=>by kernel_rfl,Tryz.func97,Tryz.call97,by kernel_rfl⟩
theorem e98:FO 98 (Tryz.f98,(gB Tryz.f98)):=⟨λ_ _ _ _=>by kernel_rfl,Tryz.func98,Tryz.call98,by kernel_rfl⟩
theorem aip:FO 101 (Tryz.f101,agi):=⟨λ_ _ _ _=>by kernel_rfl,Tryz.func101,Tryz.call101,by kernel_rfl⟩
theorem aiq:FO 102 (Tryz.f102,(gB Tryz.f102)):=⟨λ_ _ _ _=>by kernel_rfl,Tryz.func102,Tryz.call102,by kernel_rfl⟩
theorem air:FO 105 (Tryz.f105,(gB Tryz.f105)):=⟨λ_ _ _ _=>by kernel_rfl,Tryz.func105,Tryz.call105,by kernel_rfl⟩
theorem ais:FO 106 (Tryz.f106,(pZ Tryz.f106 16)):=⟨λ_ _ _ _=>by kernel_rfl,Tryz.func106,Tryz.call106,by kernel_rfl⟩
theorem ait:FO 107 (Tryz.f107,(pZ Tryz.f107 17)):=⟨λ_ _ _ _=>by kernel_rfl,Tryz.func107,Tryz.call107,by kernel_rfl⟩
theorem aiu:FO 108 (Tryz.f108,(gB Tryz.f108)):=⟨λ_ _ _ _=>by kernel_rfl,Tryz.func108,Tryz.call108,by kernel_rfl⟩
theorem aiv:FO 109 (Tryz.f109,(pZ Tryz.f109 18)):=⟨λ_ _ _ _=>by kernel_rfl,Tryz.func109,Tryz.call109,by kernel_rfl⟩
theorem aiw:FO 110 (Tryz.f110,(gB Tryz.f110)):=⟨λ_ _ _ _=>by kernel_rfl,Tryz.func110,Tryz.call110,by kernel_rfl⟩
theorem aix:FO 111 (Tryz.f111,(gB Tryz.f111)):=⟨λ_ _ _ _=>by kernel_rfl,Tryz.func111,Tryz.call111,by kernel_rfl⟩
theorem aiy:FO 112 (Tryz.f112,agj):=⟨λ_ _ _ _=>by kernel_rfl,Tryz.func112,Tryz.call112,by kernel_rfl⟩
theorem aiz:FO 113 (Tryz.f113,(gB Tryz.f113)):=⟨λ_ _ _ _=>by kernel_rfl,Tryz.func113,Tryz.call113,by kernel_rfl⟩
theorem aiA:FO 114 (Tryz.f114,(pZ Tryz.f114 21)):=⟨λ_ _ _ _=>by kernel_rfl,Tryz.func114,Tryz.call114,by kernel_rfl⟩
theorem afd:FO 115 (Tryz.f115,(pZ Tryz.f115 22)):=⟨λ_ _ _ _=>by kernel_rfl,Tryz.func115,Tryz.call115,by kernel_rfl⟩
theorem aiB:FO 116 (Tryz.f116,(pZ Tryz.f116 23)):=⟨λ_ _ _ _=>by kernel_rfl,Tryz.func116,Tryz.call116,by kernel_rfl⟩
theorem aiC:FO 117 (Tryz.f117,agk):=⟨λ_ _ _ _=>by kernel_rfl,Tryz.func117,Tryz.call117,by kernel_rfl⟩
theorem aiD:FO 122 (Tryz.f122,(gB Tryz.f122)):=⟨λ_ _ _ _=>by kernel_rfl,Tryz.func122,Tryz.call122,by kernel_rfl⟩
theorem aiE:FO 127 (Tryz.f127,(pZ Tryz.f127 27)):=⟨λ_ _ _ _=>by kernel_rfl,Tryz.func127,Tryz.call127,by kernel_rfl⟩
theorem aiF:FO 128 (Tryz.f128,(pZ Tryz.f128 28)):=⟨λ_ _ _ _=>by kernel_rfl,Tryz.func128,Tryz.call128,by kernel_rfl⟩
theorem aiG:FO 129 (Tryz.f129,(pZ Tryz.f129 29)):=⟨λ_ _ _ _=>by kernel_rfl,Tryz.func129,Tryz.call129,by kernel_rfl⟩
theorem aiH:FO 130 (Tryz.f130,(pZ Tryz.f130 31)):=⟨λ_ _ _ _=>by kernel_rfl,Tryz.func130,Tryz.call130,by kernel_rfl⟩
theorem aiI:FO 131 (Tryz.f131,(pZ Tryz.f131 33)):=⟨λ_ _ _ _=>by kernel_rfl,Tryz.func131,Tryz.call131,by kernel_rfl⟩
theorem aiJ:FO 132 (Tryz.f132,(gB Tryz.f132)):=⟨λ_ _ _ _=>by kernel_rfl,Tryz.func132,Tryz.call132,by kernel_rfl⟩
theorem aiK:FO 134 (Tryz.f134,(pZ Tryz.f134 34)):=⟨λ_ _ _ _=>by kernel_rfl,Tryz.func134,Tryz.call134,by kernel_rfl⟩
theorem aiL:FO 135 (Tryz.f135,(gB Tryz.f135)):=⟨λ_ _ _ _=>by kernel_rfl,Tryz.func135,Tryz.call135,by kernel_rfl⟩
theorem aiM:FO 139 (Tryz.f139,(pZ Tryz.f139 35)):=⟨λ_ _ _ _=>by kernel_rfl,Tryz.func139,Tryz.call139,by kernel_rfl⟩
theorem aiN:FO 140 (Tryz.f140,(gB Tryz.f140)):=⟨λ_ _ _ _=>by kernel_rfl,Tryz.func140,Tryz.call140,by kernel_rfl⟩
theorem aiO:FO 141 (Tryz.f141,(pZ Tryz.f141 36)):=⟨λ_ _ _ _=>by kernel_rfl,Tryz.func141,Tryz.call141,by kernel_rfl⟩
theorem aiP:FO 142 (Tryz.f142,agl):=⟨λ_ _ _ _=>by kernel_rfl,Tryz.func142,Tryz.call142,by kernel_rfl⟩
theorem aiQ:FO 143 (Tryz.f143,agm):=⟨λ_ _ _ _=>by kernel_rfl,Tryz.func143,Tryz.call143,by kernel_rfl⟩
theorem aiR:FO 144 (Tryz.f144,agn):=⟨λ_ _ _ _=>by kernel_rfl,Tryz.func144,Tryz.call144,by kernel_rfl⟩
theorem aiS:FO 145 (Tryz.f145,ago):=⟨λ_ _ _ _=>by kernel_rfl,Tryz.func145,Tryz.call145,by kernel_rfl⟩
theorem aiT:FO 146 (Tryz.f146,(pZ Tryz.f146 38)):=⟨λ_ _ _ _=>by kernel_rfl,Tryz.func146,Tryz.call146,by kernel_rfl⟩
theorem aiU:FO 147 (Tryz.f147,agp):=⟨λ_ _ _ _=>by kernel_rfl,Tryz.func147,Tryz.call147,by kernel_rfl⟩
theorem aiV:FO 148 (Tryz.f148,agq):=⟨λ_ _ _ _=>by kernel_rfl,Tryz.func148,Tryz.call148,by kernel_rfl⟩
theorem aiW:FO 149 (Tryz.f149,agr):=⟨λ_ _ _ _=>by kernel_rfl,Tryz.func149,Tryz.call149,by kernel_rfl⟩
theorem aiX:FO 150 (Tryz.f150,(gB Tryz.f150)):=⟨λ_ _ _ _=>by kernel_rfl,Tryz.func150,Tryz.call150,by kernel_rfl⟩
theorem aiY:FO 151 (Tryz.f151,(pZ Tryz.f151 40)):=⟨λ_ _ _ _=>by kernel_rfl,Tryz.func151,Tryz.call151,by kernel_rfl⟩
theorem aiZ:FO 152 (Tryz.f152,ags):=⟨λ_ _ _ _=>by kernel_rfl,Tryz.func152,Tryz.call152,by kernel_rfl⟩
theorem ai_:FO 153 (Tryz.f153,(gB Tryz.f153)):=⟨λ_ _ _ _=>by kernel_rfl,Tryz.func153,Tryz.call153,by kernel_rfl⟩
theorem aja:FO 154 (Tryz.f154,(gB Tryz.f154)):=⟨λ_ _ _ _=>by kernel_rfl,Tryz.func154,Tryz.call154,by kernel_rfl⟩
theorem ajb:FO 155 (Tryz.f155,(gB Tryz.f155)):=⟨λ_ _ _ _=>by kernel_rfl,Tryz.func155,Tryz.call155,by kernel_rfl⟩
theorem ajc:FO 156 (Tryz.f156,(gB Tryz.f156)):=⟨λ_ _ _ _=>by kernel_rfl,Tryz.func156,Tryz.call156,by kernel_rfl⟩
theorem ajd:FO 157 (Tryz.f157,(gB Tryz.f157)):=⟨λ_ _ _ _=>by kernel_rfl,Tryz.func157,Tryz.call157,by kernel_rfl⟩
theorem aje:FO 158 (Tryz.f158,(gB Tryz.f158)):=⟨λ_ _ _ _=>by kernel_rfl,Tryz.func158,Tryz.call158,by kernel_rfl⟩
theorem ajf:FO 159 (Tryz.f159,(pZ Tryz.f159 41)):=⟨λ_ _ _ _=>by kernel_rfl,Tryz.func159,Tryz.call159,by kernel_rfl⟩
theorem ajg:FO 160 (Tryz.f160,(pZ Tryz.f160 42)):=⟨λ_ _ _ _=>by kernel_rfl,Tryz.func160,Tryz.call160,by kernel_rfl⟩
theorem ajh:FO 161 (Tryz.f161,agt):=⟨λ_ _ _ _=>by kernel_rfl,Tryz.func161,Tryz.call161,by kernel_rfl⟩
theorem aji:FO 162 (Tryz.f162,(gB Tryz.f162)):=⟨λ_ _ _ _=>by kernel_rfl,Tryz.func162,Tryz.call162,by kernel_rfl⟩
theorem ajj:FO 164 (Tryz.f164,(gB Tryz.f164)):=⟨λ_ _ _ _=>by kernel_rfl,Tryz.func164,Tryz.call164,by kernel_rfl⟩
theorem ajk:FO 168 (Tryz.f168,(pZ Tryz.f168 46)):=⟨λ_ _ _ _=>by kernel_rfl,Tryz.func168,Tryz.call168,by kernel_rfl⟩
theorem ajl:FO 169 (Tryz.f169,(gB Tryz.f169)):=⟨λ_ _ _ _=>by kernel_rfl,Tryz.func169,Tryz.call169,by kernel_rfl⟩
theorem ajm:FO 170 (Tryz.f170,(pZ Tryz.f170 47)):=⟨λ_ _ _ _=>by kernel_rfl,Tryz.func170,Tryz.call170,by kernel_rfl⟩
theorem ajn:FO 171 (Tryz.f171,(pZ Tryz.f171 48)):=⟨λ_ _ _ _=>by kernel_rfl,Tryz.func171,Tryz.call171,by kernel_rfl⟩
theorem ajo:FO 172 (Tryz.f172,(pZ Tryz.f172 49)):=⟨λ_ _ _ _=>by kernel_rfl,Tryz.func172,Tryz.call172,by kernel_rfl⟩
theorem ajp:FO 174 (Tryz.f174,(pZ Tryz.f174 50)):=⟨λ_ _ _ _=>by kernel_rfl,Tryz.func174,Tryz.call174,by kernel_rfl⟩
theorem ajq:FO 175 (Tryz.f175,(gB Tryz.f175)):=⟨λ_ _ _ _=>by kernel_rfl,Tryz.func175,Tryz.call175,by kernel_rfl⟩
theorem ajr:FO 176 (Tryz.f176,(pZ Tryz.f176 51)):=⟨λ_ _ _ _=>by kernel_rfl,Tryz.func176,Tryz.call176,by kernel_rfl⟩
theorem ajs:FO 177 (Tryz.f177,(gB Tryz.f177)):=⟨λ_ _ _ _=>by kernel_rfl,Tryz.func177,Tryz.call177,by kernel_rfl⟩
theorem ajt:FO 179 (Tryz.f179,(gB Tryz.f179)):=⟨λ_ _ _ _=>by kernel_rfl,Tryz.func179,Tryz.call179,by kernel_rfl⟩
theorem aju:FO 180 (Tryz.f180,agu):=⟨λ_ _ _ _=>by kernel_rfl,Tryz.func180,Tryz.call180,by kernel_rfl⟩
theorem ajv:FO 181 (Tryz.f181,(gB Tryz.f181)):=⟨λ_ _ _ _=>by kernel_rfl,Tryz.func181,Tryz.call181,by kernel_rfl⟩
theorem ajw:FO 182 (Tryz.f182,(gB Tryz.f182)):=⟨λ_ _ _ _=>by kernel_rfl,Tryz.func182,Tryz.call182,by kernel_rfl⟩
theorem ajx:FO 183 (Tryz.f183,(gB Tryz.f183)):=⟨λ_ _ _ _=>by kernel_rfl,Tryz.func183,Tryz.call183,by kernel_rfl⟩
theorem ajy:FO 184 (Tryz.f184,agv):=⟨λ_ _ _ _=>by kernel_rfl,Tryz.func184,Tryz.call184,by kernel_rfl⟩
theorem ajz:FO 185 (Tryz.f185,agw):=⟨λ_ _ _ _=>by kernel_rfl,Tryz.func185,Tryz.call185,by kernel_rfl⟩
theorem ajA:FO 186 (Tryz.f186,(pZ Tryz.f186 54)):=⟨λ_ _ _ _=>by kernel_rfl,Tryz.func186,Tryz.call186,by kernel_rfl⟩
theorem ajB:FO 187 (Tryz.f187,agx):=⟨λ_ _ _ _=>by kernel_rfl,Tryz.func187,Tryz.call187,by kernel_rfl⟩
theorem ajC:FO 188 (Tryz.f188,(gB Tryz.f188)):=⟨λ_ _ _ _=>by kernel_rfl,Tryz.func188,Tryz.call188,by kernel_rfl⟩
theorem ajD:FO 189 (Tryz.f189,(gB Tryz.f189)):=⟨λ_ _ _ _=>by kernel_rfl,Tryz.func189,Tryz.call189,by kernel_rfl⟩
theorem ajE:FO 190 (Tryz.f190,(gB Tryz.f190)):=⟨λ_ _ _ _=>by kernel_rfl,Tryz.func190,Tryz.call190,by kernel_rfl⟩
theorem ajF:FO 191 (Tryz.f191,(pZ Tryz.f191 56)):=⟨λ_ _ _ _=>by kernel_rfl,Tryz.func191,Tryz.call191,by kernel_rfl⟩
theorem ajG:FO 192 (Tryz.f192,(gB Tryz.f192)):=⟨λ_ _ _ _=>by kernel_rfl,Tryz.func192,Tryz.call192,by kernel_rfl⟩
theorem ajH:FO 193 (Tryz.f193,agy):=⟨λ_ _ _ _=>by kernel_rfl,Tryz.func193,Tryz.call193,by kernel_rfl⟩
theorem ajI:FO 194 (Tryz.f194,(gB Tryz.f194)):=⟨λ_ _ _ _=>by kernel_rfl,Tryz.func194,Tryz.call194,by kernel_rfl⟩
theorem ajJ:FO 195 (Tryz.f195,(pZ Tryz.f195 61)):=⟨λ_ _ _ _=>by kernel_rfl,Tryz.func195,Tryz.call195,by kernel_rfl⟩
theorem ajK:FO 196 (Tryz.f196,(pZ Tryz.f196 63)):=⟨λ_ _ _ _=>by kernel_rfl,Tryz.func196,Tryz.call196,by kernel_rfl⟩
theorem ajL:FO 197 (Tryz.f197,(pZ Tryz.f197 64)):=⟨λ_ _ _ _=>by kernel_rfl,Tryz.func197,Tryz.call197,by kernel_rfl⟩
theorem ajM:FO 204 (Tryz.f204,(pZ Tryz.f204 65)):=⟨λ_ _ _ _=>by kernel_rfl,Tryz.func204,Tryz.call204,by kernel_rfl⟩
theorem ajN:FO 205 (Tryz.f205,(gB Tryz.f205)):=⟨λ_ _ _ _=>by kernel_rfl,Tryz.func205,Tryz.call205,by kernel_rfl⟩
theorem ajO:FO 206 (Tryz.f206,(pZ Tryz.f206 66)):=⟨λ_ _ _ _=>by kernel_rfl,Tryz.func206,Tryz.call206,by kernel_rfl⟩
theorem ajP:FO 207 (Tryz.f207,(gB Tryz.f207)):=⟨λ_ _ _ _=>by kernel_rfl,Tryz.func207,Tryz.call207,by kernel_rfl⟩
theorem ajQ:FO 208 (Tryz.f208,(gB Tryz.f208)):=⟨λ_ _ _ _=>by kernel_rfl,Tryz.func208,Tryz.call208,by kernel_rfl⟩
theorem ajR:FO 209 (Tryz.f209,(gB Tryz.f209)):=⟨λ_ _ _ _=>by kernel_rfl,Tryz.func209,Tryz.call209,by kernel_rfl⟩
theorem ajS:FO 210 (Tryz.f210,(gB Tryz.f210)):=⟨λ_ _ _ _=>by kernel_rfl,Tryz.func210,Tryz.call210,by kernel_rfl⟩
theorem ajT:FO 211 (Tryz.f211,agz):=⟨λ_ _ _ _=>by kernel_rfl,Tryz.func211,Tryz.call211,by kernel_rfl⟩
theorem ajU:FO 212 (Tryz.f212,(gB Tryz.f212)):=⟨λ_ _ _ _=>by kernel_rfl,Tryz.func212,Tryz.call212,by kernel_rfl⟩
theorem ajV:FO 213 (Tryz.f213,(gB Tryz.f213)):=⟨λ_ _ _ _=>by kernel_rfl,Tryz.func213,Tryz.call213,by kernel_rfl⟩
theorem ajW:FO 214 (Tryz.f214,(gB Tryz.f214)):=⟨λ_ _ _ _=>by kernel_rfl,Tryz.func214,Tryz.call214,by kernel_rfl⟩
theorem ajX:FO 215 (Tryz.f215,agA):=⟨λ_ _ _ _=>by kernel_rfl,Tryz.func215,Tryz.call215,by kernel_rfl⟩
theorem ajY:FO 216 (Tryz.f216,(gB Tryz.f216)):=⟨λ_ _ _ _=>by kernel_rfl,Tryz.func216,Tryz.call216,by kernel_rfl⟩
theorem ajZ:FO 217 (Tryz.f217,(gB Tryz.f217)):=⟨λ_ _ _ _=>by kernel_rfl,Tryz.func217,Tryz.call217,by kernel_rfl⟩
theorem aj_:FO 218 (Tryz.f218,agB):=⟨λ_ _ _ _=>by kernel_rfl,Tryz.func218,Tryz.call218,by kernel_rfl⟩
theorem aka:FO 219 (Tryz.f219,agC):=⟨λ_ _ _ _=>by kernel_rfl,Tryz.func219,Tryz.call219,by kernel_rfl⟩
theorem akb:FO 220 (Tryz.f220,agD):=⟨λ_ _ _ _=>by kernel_rfl,Tryz.func220,Tryz.call220,by kernel_rfl⟩
theorem akc:FO 221 (Tryz.f221,agE):=⟨λ_ _ _ _=>by kernel_rfl,Tryz.func221,Tryz.call221,by kernel_rfl⟩
theorem akd:FO 222 (Tryz.f222,agF):=⟨λ_ _ _ _=>by kernel_rfl,Tryz.func222,Tryz.call222,by kernel_rfl⟩
theorem ake:FO 223 (Tryz.f223,(gB Tryz.f223)):=⟨λ_ _ _ _=>by kernel_rfl,Tryz.func223,Tryz.call223,by kernel_rfl⟩
theorem akf:FO 224 (Tryz.f224,(gB Tryz.f224)):=⟨λ_ _ _ _=>by kernel_rfl,Tryz.func224,Tryz.call224,by kernel_rfl⟩
theorem akg:FO 225 (Tryz.f225,(gB Tryz.f225)):=⟨λ_ _ _ _=>by kernel_rfl,Tryz.func225,Tryz.call225,by kernel_rfl⟩
theorem akh:FO 226 (Tryz.f226,(pZ Tryz.f226 69)):=⟨λ_ _ _ _=>by kernel_rfl,Tryz.func226,Tryz.call226,by kernel_rfl⟩
theorem aki:FO 227 (Tryz.f227,(gB Tryz.f227)):=⟨λ_ _ _ _=>by kernel_rfl,Tryz.func227,Tryz.call227,by kernel_rfl⟩
theorem akj:FO 228 (Tryz.f228,(pZ Tryz.f228 70)):=⟨λ_ _ _ _=>by kernel_rfl,Tryz.func228,Tryz.call228,by kernel_rfl⟩
theorem akk:FO 229 (Tryz.f229,(gB Tryz.f229)):=⟨λ_ _ _ _=>by kernel_rfl,Tryz.func229,Tryz.call229,by kernel_rfl⟩
theorem akl:FO 231 (Tryz.f231,(gB Tryz.f231)):=⟨λ_ _ _ _=>by kernel_rfl,Tryz.func231,Tryz.call231,by kernel_rfl⟩
theorem akm:FO 233 (Tryz.f233,(gB Tryz.f233)):=⟨λ_ _ _ _=>by kernel_rfl,Tryz.func233,Tryz.call233,by kernel_rfl⟩
theorem akn:FO 234 (Tryz.f234,agG):=⟨λ_ _ _ _=>by kernel_rfl,Tryz.func234,Tryz.call234,by kernel_rfl⟩
theorem ako:FO 235 (Tryz.f235,(gB Tryz.f235)):=⟨λ_ _ _ _=>by kernel_rfl,Tryz.func235,Tryz.call235,by kernel_rfl⟩
theorem akp:FO 236 (Tryz.f236,(gB Tryz.f236)):=⟨λ_ _ _ _=>by kernel_rfl,Tryz.func236,Tryz.call236,by kernel_rfl⟩
theorem akq:FO 237 (Tryz.f237,(gB Tryz.f237)):=⟨λ_ _ _ _=>by kernel_rfl,Tryz.func237,Tryz.call237,by kernel_rfl⟩
theorem akr:FO 238 (Tryz.f238,(gB Tryz.f238)):=⟨λ_ _ _ _=>by kernel_rfl,Tryz.func238,Tryz.call238,by kernel_rfl⟩
theorem aks:FO 239 (Tryz.f239,(gB Tryz.f239)):=⟨λ_ _ _ _=>by kernel_rfl,Tryz.func239,Tryz.call239,by kernel_rfl⟩
theorem akt:FO 240 (Tryz.f240,(gB Tryz.f240)):=⟨λ_ _ _ _=>by kernel_rfl,Tryz.func240,Tryz.call240,by kernel_rfl⟩
theorem aku:FO 241 (Tryz.f241,(gB Tryz.f241)):=⟨λ_ _ _ _=>by kernel_rfl,Tryz.func241,Tryz.call241,by kernel_rfl⟩
theorem akv:FO 242 (Tryz.f242,(gB Tryz.f242)):=⟨λ_ _ _ _=>by kernel_rfl,Tryz.func242,Tryz.call242,by kernel_rfl⟩
theorem akw:FO 243 (Tryz.f243,(gB Tryz.f243)):=⟨λ_ _ _ _=>by kernel_rfl,Tryz.func243,Tryz.call243,by kernel_rfl⟩
theorem akx:FO 244 (Tryz.f244,(gB Tryz.f244)):=⟨λ_ _ _ _=>by kernel_rfl,Tryz.func244,Tryz.call244,by kernel_rfl⟩
theorem aky:FO 245 (Tryz.f245,(gB Tryz.f245)):=⟨λ_ _ _ _=>by kernel_rfl,Tryz.func245,Tryz.call245,by kernel_rfl⟩
theorem akz:FO 246 (Tryz.f246,(gB Tryz.f246)):=⟨λ_ _ _ _=>by kernel_rfl,Tryz.func246,Tryz.call246,by kernel_rfl⟩
theorem akA:FO 247 (Tryz.f247,(gB Tryz.f247)):=⟨λ_ _ _ _=>by kernel_rfl,Tryz.func247,Tryz.call247,by kernel_rfl⟩
theorem akB:FO 248 (Tryz.f248,(gB Tryz.f248)):=⟨λ_ _ _ _=>by kernel_rfl,Tryz.func248,Tryz.call248,by kernel_rfl⟩
theorem akC:FO 249 (Tryz.f249,(pZ Tryz.f249 72)):=⟨λ_ _ _ _=>by kernel_rfl,Tryz.func249,Tryz.call249,by kernel_rfl⟩
theorem akD:FO 250 (Tryz.f250,(gB Tryz.f250)):=⟨λ_ _ _ _=>by kernel_rfl,Tryz.func250,Tryz.call250,by kernel_rfl⟩
theorem akE:FO 251 (Tryz.f251,(gB Tryz.f251)):=⟨λ_ _ _ _=>by kernel_rfl,Tryz.func251,Tryz.call251,by kernel_rfl⟩
theorem akF:FO 252 (Tryz.f252,(gB Tryz.f252)):=⟨λ_ _ _ _=>by kernel_rfl,Tryz.func252,Tryz.call252,by kernel_rfl⟩
theorem akG:FO 253 (Tryz.f253,(gB Tryz.f253)):=⟨λ_ _ _ _=>by kernel_rfl,Tryz.func253,Tryz.call253,by kernel_rfl⟩
theorem akH:FO 254 (Tryz.f254,(gB Tryz.f254)):=⟨λ_ _ _ _=>by kernel_rfl,Tryz.func254,Tryz.call254,by kernel_rfl⟩
theorem akI:FO 255 (Tryz.f255,agH):=⟨λ_ _ _ _=>by kernel_rfl,Tryz.func255,Tryz.call255,by kernel_rfl⟩
theorem akJ:FO 256 (Tryz.f256,(gB Tryz.f256)):=⟨λ_ _ _ _=>by kernel_rfl,Tryz.func256,Tryz.call256,by kernel_rfl⟩
theorem akK:FO 257 (Tryz.f257,(gB Tryz.f257)):=⟨λ_ _ _ _=>by kernel_rfl,Tryz.func257,Tryz.call257,by kernel_rfl⟩
theorem akL:FO 258 (Tryz.f258,agI):=⟨λ_ _ _ _=>by kernel_rfl,Tryz.func258,Tryz.call258,by kernel_rfl⟩
theorem akM:FO 259 (Tryz.f259,(gB Tryz.f259)):=⟨λ_ _ _ _=>by kernel_rfl,Tryz.func259,Tryz.call259,by kernel_rfl⟩
theorem akN:FO 260 (Tryz.f260,(gB Tryz.f260)):=⟨λ_ _ _ _=>by kernel_rfl,Tryz.func260,Tryz.call260,by kernel_rfl⟩
theorem akO:FO 261 (Tryz.f261,(gB Tryz.f261)):=⟨λ_ _ _ _=>by kernel_rfl,Tryz.func261,Tryz.call261,by kernel_rfl⟩
theorem akP:FO 262 (Tryz.f262,(gB Tryz.f262)):=⟨λ_ _ _ _=>by kernel_rfl,Tryz.func262,Tryz.call262,by kernel_rfl⟩
theorem akQ:FO 263 (Tryz.f263,(gB Tryz.f263)):=⟨λ_ _ _ _=>by kernel_rfl,Tryz.func263,Tryz.call263,by kernel_rfl⟩
theorem akR:FO 264 (Tryz.f264,(gB Tryz.f264)):=⟨λ_ _ _ _=>by kernel_rfl,Tryz.func264,Tryz.call264,by kernel_rfl⟩
theorem akS:FO 265 (Tryz.f265,(pZ Tryz.f265 78)):=⟨λ_ _ _ _=>by kernel_rfl,Tryz.func265,Tryz.call265,by kernel_rfl⟩
theorem akT:FO 266 (Tryz.f266,(pZ Tryz.f266 79)):=⟨λ_ _ _ _=>by kernel_rfl,Tryz.func266,Tryz.call266,by kernel_rfl⟩
theorem akU:FO 267 (Tryz.f267,(gB Tryz.f267)):=⟨λ_ _ _ _=>by kernel_rfl,Tryz.func267,Tryz.call267,by kernel_rfl⟩
theorem akV:FO 268 (Tryz.f268,(pZ Tryz.f268 80)):=⟨λ_ _ _ _=>by kernel_rfl,Tryz.func268,Tryz.call268,by kernel_rfl⟩
theorem akW:FO 269 (Tryz.f269,(pZ Tryz.f269 81)):=⟨λ_ _ _ _=>by kernel_rfl,Tryz.func269,Tryz.call269,by kernel_rfl⟩
theorem akX:FO 270 (Tryz.f270,(gB Tryz.f270)):=⟨λ_ _ _ _=>by kernel_rfl,Tryz.func270,Tryz.call270,by kernel_rfl⟩
theorem akY:FO 271 (Tryz.f271,(gB Tryz.f271)):=⟨λ_ _ _ _=>by kernel_rfl,Tryz.func271,Tryz.call271,by kernel_rfl⟩
theorem akZ:FO 272 (Tryz.f272,(pZ Tryz.f272 82)):=⟨λ_ _ _ _=>by kernel_rfl,Tryz.func272,Tryz.call272,by kernel_rfl⟩
theorem l0:LO d0:=λ_ _ _ _=>by kernel_rfl
theorem l1:LO d1:=λ_ _ _ _=>by kernel_rfl
theorem l2:LO d2:=λ_ _ _ _=>by kernel_rfl
theorem l3:LO d3:=λ_ _ _ _=>by kernel_rfl
theorem l4:LO d4:=λ_ _ _ _=>by kernel_rfl
theorem l5:LO d5:=λ_ _ _ _=>by kernel_rfl
theorem l6:LO d6:=λ_ _ _ _=>by kernel_rfl
theorem l7:LO d7:=λ_ _ _ _=>by kernel_rfl
theorem l8:LO d8:=λ_ _ _ _=>by kernel_rfl
theorem l9:LO d9:=λ_ _ _ _=>by kernel_rfl
theorem l10:LO d10:=λ_ _ _ _=>by kernel_rfl
theorem l11:LO d11:=λ_ _ _ _=>by kernel_rfl
theorem l12:LO d12:=λ_ _ _ _=>by kernel_rfl
theorem l13:LO d13:=λ_ _ _ _=>by kernel_rfl
theorem l14:LO d14:=λ_ _ _ _=>by kernel_rfl
theorem l15:LO d15:=λ_ _ _ _=>by kernel_rfl
theorem l16:LO d16:=λ_ _ _ _=>by kernel_rfl
theorem VN:LO d17:=λ_ _ _ _=>by kernel_rfl
theorem l18:LO d18:=λ_ _ _ _=>by kernel_rfl
theorem l19:LO d19:=λ_ _ _ _=>by kernel_rfl
theorem l20:LO d20:=λ_ _ _ _=>by kernel_rfl
theorem l21:LO d21:=λ_ _ _ _=>by kernel_rfl
theorem l22:LO d22:=λ_ _ _ _=>by kernel_rfl
theorem l23:LO d23:=λ_ _ _ _=>by kernel_rfl
theorem l24:LO d24:=λ_ _ _ _=>by kernel_rfl
theorem l25:LO d25:=λ_ _ _ _=>by kernel_rfl
theorem l26:LO d26:=λ_ _ _ _=>by kernel_rfl
theorem l27:LO d27:=λ_ _ _ _=>by kernel_rfl
theorem l28:LO d28:=λ_ _ _ _=>by kernel_rfl
theorem l29:LO d29:=λ_ _ _ _=>by kernel_rfl
theorem l30:LO d30:=λ_ _ _ _=>by kernel_rfl
theorem l31:LO d31:=λ_ _ _ _=>by kernel_rfl
theorem l32:LO d32:=λ_ _ _ _=>by kernel_rfl
theorem l33:LO d33:=λ_ _ _ _=>by kernel_rfl
theorem l34:LO d34:=λ_ _ _ _=>by kernel_rfl
theorem l35:LO d35:=λ_ _ _ _=>by kernel_rfl
theorem l36:LO d36:=λ_ _ _ _=>by kernel_rfl
theorem l37:LO d37:=λ_ _ _ _=>by kernel_rfl
theorem l38:LO d38:=λ_ _ _ _=>by kernel_rfl
theorem l39:LO d39:=λ_ _ _ _=>by kernel_rfl
theorem l40:LO d40:=λ_ _ _ _=>by kernel_rfl
theorem l41:LO d41:=λ_ _ _ _=>by kernel_rfl
theorem l42:LO d42:=λ_ _ _ _=>by kernel_rfl
theorem l43:LO d43:=λ_ _ _ _=>by kernel_rfl
theorem l44:LO d44:=λ_ _ _ _=>by kernel_rfl
theorem l45:LO d45:=λ_ _ _ _=>by kernel_rfl
theorem l46:LO d46:=λ_ _ _ _=>by kernel_rfl
theorem l47:LO d47:=λ_ _ _ _=>by kernel_rfl
theorem l48:LO d48:=λ_ _ _ _=>by kernel_rfl
theorem l49:LO d49:=λ_ _ _ _=>by kernel_rfl
theorem l50:LO d50:=λ_ _ _ _=>by kernel_rfl
theorem l51:LO d51:=λ_ _ _ _=>by kernel_rfl
theorem l52:LO d52:=λ_ _ _ _=>by kernel_rfl
theorem l53:LO d53:=λ_ _ _ _=>by kernel_rfl
theorem l54:LO d54:=λ_ _ _ _=>by kernel_rfl
theorem l55:LO d55:=λ_ _ _ _=>by kernel_rfl
theorem l56:LO d56:=λ_ _ _ _=>by kernel_rfl
theorem l57:LO d57:=λ_ _ _ _=>by kernel_rfl
theorem l58:LO d58:=λ_ _ _ _=>by kernel_rfl
theorem l59:LO d59:=λ_ _ _ _=>by kernel_rfl
theorem l60:LO d60:=λ_ _ _ _=>by kernel_rfl
theorem l61:LO d61:=λ_ _ _ _=>by kernel_rfl
theorem l62:LO d62:=λ_ _ _ _=>by kernel_rfl
theorem l63:LO d63:=λ_ _ _ _=>by kernel_rfl
theorem l64:LO d64:=λ_ _ _ _=>by kernel_rfl
theorem l65:LO d65:=λ_ _ _ _=>by kernel_rfl
theorem l66:LO d66:=λ_ _ _ _=>by kernel_rfl
theorem l67:LO d67:=λ_ _ _ _=>by kernel_rfl
theorem l68:LO d68:=λ_ _ _ _=>by kernel_rfl
theorem l69:LO d69:=λ_ _ _ _=>by kernel_rfl
theorem l70:LO d70:=λ_ _ _ _=>by kernel_rfl
theorem l71:LO d71:=λ_ _ _ _=>by kernel_rfl
theorem l72:LO d72:=λ_ _ _ _=>by kernel_rfl
theorem l73:LO d73:=λ_ _ _ _=>by kernel_rfl
theorem l74:LO d74:=λ_ _ _ _=>by kernel_rfl
theorem l75:LO d75:=λ_ _ _ _=>by kernel_rfl
theorem l76:LO d76:=λ_ _ _ _=>by kernel_rfl
theorem l77:LO d77:=λ_ _ _ _=>by kernel_rfl
theorem l78:LO d78:=λ_ _ _ _=>by kernel_rfl
theorem l79:LO d79:=λ_ _ _ _=>by kernel_rfl
theorem l80:LO d80:=λ_ _ _ _=>by kernel_rfl
theorem l81:LO d81:=λ_ _ _ _=>by kernel_rfl
theorem l82:LO d82:=λ_ _ _ _=>by kernel_rfl
theorem Pe {f:Nat} {e:Func×fM}:Wc f=some e->FO f e:=(rN (rN (rN (rN (rN (rN (rN (rL e8) (rL e10)) (rN (rL e14) (rN (rL e18) (rL e22)))) (rN (rN (rL e23) (rL e25)) (rN (rL e32) (rN (rL e34) (rL e37))))) (rN (rN (rN (rL e41) (rL e51)) (rN (rL e52) (rN (rL e53) (rL e54)))) (rN (rN (rL e55) (rN (rL e57) (rL e60))) (rN (rL e63) (rN (rL e65) (rL e66)))))) (rN (rN (rN (rN (rL e71) (rL e86)) (rN (rL e87) (rN (rL e88) (rL e89)))) (rN (rN (rL e90) (rN (rL e91) (rL e92))) (rN (rL e97) (rN (rL e98) (rL aip))))) (rN (rN (rN (rL aiq) (rL air)) (rN (rL ais) (rN (rL ait) (rL aiu)))) (rN (rN (rL aiv) (rN (rL aiw) (rL aix))) (rN (rL aiy) (rN (rL aiz) (rL aiA))))))) (rN (rN (rN (rN (rN (rL afd) (rL aiB)) (rN (rL aiC) (rN (rL aiD) (rL aiE)))) (rN (rN (rL aiF) (rN (rL aiG) (rL aiH))) (rN (rL aiI) (rN (rL aiJ) (rL aiK))))) (rN (rN (rN (rL aiL) (rL aiM)) (rN (rL aiN) (rN (rL aiO) (rL aiP)))) (rN (rN (rL aiQ) (rN (rL aiR) (rL aiS))) (rN (rL aiT) (rN (rL aiU) (rL aiV)))))) (rN (rN (rN (rN (rL aiW) (rL aiX)) (rN (rL aiY) (rN (rL aiZ) (rL ai_)))) (rN (rN (rL aja) (rN (rL ajb) (rL ajc))) (rN (rL ajd) (rN (rL aje) (rL ajf))))) (rN (rN (rN (rL ajg) (rL ajh)) (rN (rL aji) (rN (rL ajj) (rL ajk)))) (rN (rN (rL ajl) (rN (rL ajm) (rL ajn))) (rN (rL ajo) (rN (rL ajp) (rL ajq)))))))) (rN (rN (rN (rN (rN (rN (rL ajr) (rL ajs)) (rN (rL ajt) (rN (rL aju) (rL ajv)))) (rN (rN (rL ajw) (rN (rL ajx) (rL ajy))) (rN (rL ajz) (rN (rL ajA) (rL ajB))))) (rN (rN (rN (rL ajC) (rL ajD)) (rN (rL ajE) (rN (rL ajF) (rL ajG)))) (rN (rN (rL ajH) (rN (rL ajI) (rL ajJ))) (rN (rL ajK) (rN (rL ajL) (rL ajM)))))) (rN (rN (rN (rN (rL ajN) (rL ajO)) (rN (rL ajP) (rN (rL ajQ) (rL ajR)))) (rN (rN (rL ajS) (rN (rL ajT) (rL ajU))) (rN (rL ajV) (rN (rL ajW) (rL ajX))))) (rN (rN (rN (rL ajY) (rL ajZ)) (rN (rL aj_) (rN (rL aka) (rL akb)))) (rN (rN (rL akc) (rN (rL akd) (rL ake))) (rN (rL akf) (rN (rL akg) (rL akh))))))) (rN (rN (rN (rN (rN (rL aki) (rL akj)) (rN (rL akk) (rN (rL akl) (rL akm)))) (rN (rN (rL akn) (rN (rL ako) (rL akp))) (rN (rL akq) (rN (rL akr) (rL aks))))) (rN (rN (rN (rL akt) (rL aku)) (rN (rL akv) (rN (rL akw) (rL akx)))) (rN (rN (rL aky) (rN (rL akz) (rL akA))) (rN (rL akB) (rN (rL akC) (rL akD)))))) (rN (rN (rN (rN (rL akE) (rL akF)) (rN (rL akG) (rN (rL akH) (rL akI)))) (rN (rN (rL akJ) (rN (rL akK) (rL akL))) (rN (rL akM) (rN (rL akN) (rL akO))))) (rN (rN (rN (rL akP) (rL akQ)) (rN (rL akR) (rN (rL akS) (rL akT)))) (rN (rN (rL akU) (rN (rL akV) (rL akW))) (rN (rL akX) (rN (rL akY) (rL akZ)))))))))
theorem aas {f:Nat} {e:(Code×Cx)×fM}:adY f=some e->LO e:=(rN (rN (rN (rN (rN (rN (rL (R:=λ_=>LO) l0) (rL (R:=λ_=>LO) l1)) (rN (rL (R:=λ_=>LO) l2) (rN (rL (R:=λ_=>LO) l3) (rL (R:=λ_=>LO) l4)))) (rN (rN (rL (R:=λ_=>LO) l5) (rL (R:=λ_=>LO) l6)) (rN (rL (R:=λ_=>LO) l7) (rN (rL (R:=λ_=>LO) l8) (rL (R:=λ_=>LO) l9))))) (rN (rN (rN (rL (R:=λ_=>LO) l10) (rL (R:=λ_=>LO) l11)) (rN (rL (R:=λ_=>LO) l12) (rN (rL (R:=λ_=>LO) l13) (rL (R:=λ_=>LO) l14)))) (rN (rN (rL (R:=λ_=>LO) l15) (rL (R:=λ_=>LO) l16)) (rN (rL (R:=λ_=>LO) VN) (rN (rL (R:=λ_=>LO) l18) (rL (R:=λ_=>LO) l19)))))) (rN (rN (rN (rN (rL (R:=λ_=>LO) l20) (rL (R:=λ_=>LO) l21)) (rN (rL (R:=λ_=>LO) l22) (rN (rL (R:=λ_=>LO) l23) (rL (R:=λ_=>LO) l24)))) (rN (rN (rL (R:=λ_=>LO) l25) (rL (R:=λ_=>LO) l26)) (rN (rL (R:=λ_=>LO) l27) (rN (rL (R:=λ_=>LO) l28) (rL (R:=λ_=>LO) l29))))) (rN (rN (rN (rL (R:=λ_=>LO) l30) (rL (R:=λ_=>LO) l31)) (rN (rL (R:=λ_=>LO) l32) (rN (rL (R:=λ_=>LO) l33) (rL (R:=λ_=>LO) l34)))) (rN (rN (rL (R:=λ_=>LO) l35) (rN (rL (R:=λ_=>LO) l36) (rL (R:=λ_=>LO) l37))) (rN (rL (R:=λ_=>LO) l38) (rN (rL (R:=λ_=>LO) l39) (rL (R:=λ_=>LO) l40))))))) (rN (rN (rN (rN (rN (rL (R:=λ_=>LO) l41) (rL (R:=λ_=>LO) l42)) (rN (rL (R:=λ_=>LO) l43) (rN (rL (R:=λ_=>LO) l44) (rL (R:=λ_=>LO) l45)))) (rN (rN (rL (R:=λ_=>LO) l46) (rL (R:=λ_=>LO) l47)) (rN (rL (R:=λ_=>LO) l48) (rN (rL (R:=λ_=>LO) l49) (rL (R:=λ_=>LO) l50))))) (rN (rN (rN (rL (R:=λ_=>LO) l51) (rL (R:=λ_=>LO) l52)) (rN (rL (R:=λ_=>LO) l53) (rN (rL (R:=λ_=>LO) l54) (rL (R:=λ_=>LO) l55)))) (rN (rN (rL (R:=λ_=>LO) l56) (rN (rL (R:=λ_=>LO) l57) (rL (R:=λ_=>LO) l58))) (rN (rL (R:=λ_=>LO) l59) (rN (rL (R:=λ_=>LO) l60) (rL (R:=λ_=>LO) l61)))))) (rN (rN (rN (rN (rL (R:=λ_=>LO) l62) (rL (R:=λ_=>LO) l63)) (rN (rL (R:=λ_=>LO) l64) (rN (rL (R:=λ_=>LO) l65) (rL (R:=λ_=>LO) l66)))) (rN (rN (rL (R:=λ_=>LO) l67) (rL (R:=λ_=>LO) l68)) (rN (rL (R:=λ_=>LO) l69) (rN (rL (R:=λ_=>LO) l70) (rL (R:=λ_=>LO) l71))))) (rN (rN (rN (rL (R:=λ_=>LO) l72) (rL (R:=λ_=>LO) l73)) (rN (rL (R:=λ_=>LO) l74) (rN (rL (R:=λ_=>LO) l75) (rL (R:=λ_=>LO) l76)))) (rN (rN (rL (R:=λ_=>LO) l77) (rN (rL (R:=λ_=>LO) l78) (rL (R:=λ_=>LO) l79))) (rN (rL (R:=λ_=>LO) l80) (rN (rL (R:=λ_=>LO) l81) (rL (R:=λ_=>LO) l82))))))))
theorem BL:Mn F_ xT:=⟨λh=>(Pe h).1,aas⟩
theorem aar {f:Nat} {e:Func×fM} (h:Wc f=some e):Tryz.prog.funcs[f]? = some e.1∧aU Tryz.prog f∧okF y e.1=true:=(Pe h).2
end
end Go.Gx
end
namespace Go.Gx
open Go Go.Sx
section
variable {P:Program} {gs:BV} {w0:fR gs} {tb:TB}
theorem Sd:tZ P w0 (λ_ _ _=>none):=λf b H g a h=>by cases h
theorem La:Ka P w0 tb (λ_ _ _ _=>none):=λb c d H a h=>by cases h
theorem acA {C:CH} {G:LH} (y:gG P tb) (Q:P.follows .mixedOrders=true) (k:∀w0:fR gs,tZ P w0 C) (l:Ka P w0 tb G) {f:Nat} {d:Func} {J:List GV} {H:GH} {c:RE} (L:P.funcs[f]? = some d) (A:okF tb d=true) (h:Zq tb C G d J H=some c) (O:c.e = .ret) {t:fC} {w:World} {s:List Value} (R:gH w0 t H w) (E:pO t J s):
  Calls P f s.toArray w λe u=>∃v a,e = .returned v∧t.le a∧gH w0 a c.H u∧Rl a (XA c.vs) v:=by
 obtain⟨M,N⟩:=SP A;obtain⟨i,D,h⟩:=aF.1 (show ob d.body _=some c from h);obtain⟨K,m,h⟩:=sI h;rw[List.range_eq_range']at m;have r:=Mq m;have S:s.length<=d.ntmps:=by rw[<-E.len,r];exact N
 refine vJ L D ?_;have F:lP t d.ntmps K {tmps:=s.toArray++Array.replicate (d.ntmps - s.toArray.size) undef,defers:=[]}:=by
  refine PO Z (by simp;omega) E (λj v p=> ?_) m;have z:=bP p;rw[Nat.zero_add,zBe (by simpa using z)];simpa using p
 refine Fc y Q k l i _ _ _ ⟨K,H⟩ c t _ w _ (M i D) h F R ⟨λI a B u q b n o=> ?_,λid I a B u q b n o=> ?_,λI a B u q b n o=> ?_⟩
 ·obtain⟨x,v,p,g⟩:=Jx (fn:=d) y Z n o q;exact Sx.body_end (.inr Z) n.defers g ⟨v,a,rfl,b,by rw[x];exact o,p⟩
 ·have:=CU q;rw[O]at this;cases this
 ·obtain⟨x,v,p,g⟩:=Jx (fn:=d) y Z n o q;exact Sx.body_end (.inl Z) n.defers g ⟨v,a,rfl,b,by rw[x];exact o,p⟩
noncomputable def OD (tb:TB) (f:Nat) (a:Func):CH:=λg b H=>bif Nat.beq g f then Pd (Zq tb (λ_ _ _=>none) (λ_ _ _ _=>none) a b H)else none
theorem YV (m:gG P tb) (p:P.follows .mixedOrders=true) {f:Nat} {c:Func} (k:P.funcs[f]? = some c) (n:aU P f) (i:okF tb c=true):tZ P w0 (OD tb f c):=λg r H x j h t w s R q=>by
 unfold OD at h;cases b:Nat.beq g f with
 |false=>rw[b]at h;cases h
 |true=>
 rw[b]at h;have b:=zA2 b;subst b;replace h:Pd (Zq tb (λ_ _ _=>none) (λ_ _ _ _=>none) c r H)=some (x,j):=h;unfold Pd at h;obtain⟨o,l,a⟩:=aF.1 h;cases d:o.e with
 |normal=>rw[d]at a;cases a
 |exit id=>rw[d]at a;cases a
 |ret=>
  rw[d]at a;cases a;exact .inr ⟨n _ w,acA m p (λ_=>Sd) La k i l d R q⟩
theorem XP {id:Nat} {o:Oper} {l:List Oper} {Q:Exit->Act->List Frame->World->Prop} {a:Act} {d:List Frame} {w:World} (x:l.all kK=true) (C:o.guard=none) (r:(execOp a.eval o).run P w = .ok .recover w)
  (q:recoverD d=none) (h:Sx.wpList P (o::l).toArray (λe g t=>Q e g d t) l (a.put o.dst .nilIface) w):(Code.region id (o::l).toArray false).wpSIn (FR none) 0 P Q a d w:=by
 intro b k B f u c;have y:(o::l).toArray[0]? = some o:=by simp
 obtain⟨e,g,t,E,i⟩:=wp_opsIn (F:=FR none) (n:=0) (Q:=λe g t=>Q e g d t) (ops:=(o::l).toArray) (List.range' 1 l.length) (a.put o.dst .nilIface) w
  (by rw[wpOpsIn_eq_wpListIn l 1 (by intro j;simp[Nat.add_comm 1 j])];exact Sx.wpList_in l _ w x h) b k d f u c
 have H:Region.wanted o (yielded (o::l).toArray a.tmps)=true:=by simp[Region.wanted,C]
 have A:(lone (b.atR a (.inRegion (o::l).toArray (0::List.range' 1 l.length)::k)) d w).fenced P (FR none):=fenced_oper u c y (λ_ _=>trivial);have p:=stepGR_op (P:=P) (b:=b) (k:=k) (cs:=d) (w:=w) (rest:=List.range' 1 l.length) y H;rw[f,Oper.semAt_none]at p;have m:∀v,(b.atR a (.inRegion (o::l).toArray (0::List.range' 1 l.length)::k)).finish v=b.atR (a.put o.dst v) (.inRegion (o::l).toArray (List.range' 1 l.length)::k):=by
  intro v;rw[Frame.finish_atR,y];rfl
 have D:(b.atR a (.inRegion (o::l).toArray (0::List.range' 1 l.length)::k)).kind = .deferred:=B;have s:=tryRecover_deferred D d;have G:List.range (o::l).toArray.size=0::List.range' 1 l.length:=by simp[List.range_eq_range',List.range'_succ]
 have z:=stepR_region (P:=P) (b:=b) (a:=a) (k:=k) (cs:=d) (w:=w) (id:=id) (ops:=(o::l).toArray);rw[G]at z;refine⟨e,g,d,t,rfl,E,.of_steps (.head (fenced_calm u c Z) z (.one A (step_lone_go ?_))) i⟩
 rw[p,<-m];simp only[Frame.atR,f]at s ⊢;simp[stepG.apply,r,s,q]
theorem WY {ch:CH} {lp:LH} (I:gG P tb) (hm:P.follows .mixedOrders=true) {f:Nat} {i:Func} {id m d:Nat} {o:Oper} {l:List Oper} {b:Code} {U:Cx} {q:RE} {a:Array Value} {w:World}
  (c:∀w0:fR noG,tZ P w0 ch) (p:Ka P (fR.one w) tb lp) (X:P.funcs[f]? = some i) (V:i.body=some (.seq (.region id (o::l).toArray false) b)) (B:o.guard=none) (W:o.dst=some d) (A:d<i.ntmps)
  (u:∀ρ w,(execOp ρ o).run P w = .ok .recover w) (K:l.all (Ks i.ntmps)=true) (hr:JY tb i.ntmps b=true) (s:i.results = #[]) (aa:a.size<=i.ntmps)
  (h:HU tb ch (o::l) (evC tb ch lp b m U (Jw [])) l ⟨[(d,.inil)],H0⟩=some q) (J:q.e = .normal):
  CallsDIn (FR none) 0 P f a .returning w λe u' E=>∃v,e = .returned v∧u' = .returning∧Oo w E:=by
 have D:l.all kK=true:=zA4.2 λo C=>(vY (zA4.1 K o C)).1;refine callsDIn_of_wpSIn X V trivial λk T M=> ?_;have r:recoverD (k::T)=none:=by simp[recoverD,M]
 refine wpSIn_seq (XP D B (u _ _) r ?_);have F:lP (λ_=>none) i.ntmps [(d,.inil)] (({tmps:=a++Array.replicate (i.ntmps - a.size) undef,defers:=[]}:Act).put o.dst .nilIface):=by
  rw[W];refine lP.put ⟨rfl,by simp;omega,λt g B=>(by cases B)⟩ A ?_;exact .inil
 refine Jh I (c (fR.one w)) l ⟨[(d,.inil)],H0⟩ _ _ w K F (gH.start (fR.one w) Z) h λs' G S E Y L Q R=> ?_;refine wpSIn_of_wpIn Z ?_;refine Fc I hm c p b _ _ _ s' q G S E _ hr Y Q R ⟨λN x H O j n y z=> ?_,λid N x H O j n y z=> ?_,λN x H O j n y z=> ?_⟩
 ·refine⟨y.defers,k.mode,rfl,.tuple #[],?_,_,rfl,M,z.ext.ext⟩
  simp[results,s]
 ·have:=CU j;rw[J]at this;cases this
 ·have:=QF j;rw[J]at this;cases this
theorem Md {o:Oper} {l:List Oper} {b:Array Oper} {Q:Exit->Act->World->Prop} {a:Act} {w w':World} {v:Value} (c:o.guard=none) (d:(execOp a.eval o).run P w = .ok (.value v) w') (h:Sx.wpList P b Q l (a.put o.dst v) w'):Sx.wpList P b Q (o::l) a w:=by
 unfold Sx.wpList;rw[if_pos (by simp[Region.wanted,c])];exact .inl (by simp only[Oper.wp,d,Oper.upon];exact h)
theorem TA {o:Oper} {l:List Oper} {b:Array Oper} {Q:Exit->Act->World->Prop} {a:Act} {w w':World} (c:o.guard=none) (d:(execOp a.eval o).run P w = .ok .skip w') (h:Sx.wpList P b Q l (a.put o.dst undef) w'):Sx.wpList P b Q (o::l) a w:=by
 unfold Sx.wpList;rw[if_pos (by simp[Region.wanted,c])];exact .inl (by simp only[Oper.wp,d,Oper.upon];exact h)
theorem XQ {o:Oper} {l:List Oper} {b:Array Oper} {Q:Exit->Act->World->Prop} {a:Act} {w:World} {f:Nat} {args:Array Value} {S:Value->World->Prop} (d:o.guard=none) (g:(execOp a.eval o).run P w = .ok (.enter f args) w)
  (c:Calls P f args w λe w'=>∃v,e = .returned v∧S v w') (h:∀v w',S v w'->Sx.wpList P b Q l (a.put o.dst v) w'):Sx.wpList P b Q (o::l) a w:=by
 unfold Sx.wpList;rw[if_pos (by simp[Region.wanted,d])];refine .inl ?_;simp only[Oper.wp,g,Oper.upon];refine c.mono ?_;rintro e w' ⟨v,rfl,i⟩;exact h v w' i
theorem aeX (M:gG P tb) {c cc T1 T2 i0 i1 i2 i3 y0 y1 y2 y3 y4 y5 y6 y7:Nat} {p0 p1 p2 p3 p4 p5 p6 p7:String} {e0 e1 e2 e3 e4 e5 e6 e7:Array Edge} {z:Func} (hf:P.funcs[c]? = some z) (ag:aU P c) (ah:aU P cc)
  (hb:z.body=some (.seq (.region i0 #[⟨some 2,.alloc T1,y0,p0,e0,none⟩,⟨some 3,.alloc T2,y1,p1,e1,none⟩] false)
   (.seq (.region i1 #[⟨some 4,.makeFunc (.func cc) #[] #[.tmp 2,.tmp 3],y2,p2,e2,none⟩,⟨none,.defer ⟨.value (.tmp 4),#[],#[]⟩,y3,p3,e3,none⟩] false)
   (.seq (.region i2 #[⟨some 5,.move (.tmp 0),y4,p4,e4,none⟩,⟨some 6,.call ⟨.value (.tmp 5),#[],#[]⟩,y5,p5,e5,none⟩] false)
   (.seq (.region i3 #[⟨none,.store T1 (.tmp 2) (.const (.int .i64 0)),y6,p6,e6,none⟩,⟨none,.store T2 (.tmp 3) (.const (.int .i64 0)),y7,p7,e7,none⟩] false) .ret)))))
  (hn:z.ntmps=7) (Q:z.results = #[.cell 2 T1,.cell 3 T2])
  (aa:∀H,vG tb T1 H=some (.ptr H.n 0,H.new (.cells [AT]))) (ab:∀H,vG tb T2 H=some (.ptr H.n 0,H.new (.cells [AT])))
  (ae:∀H h c,GH.cells H h=some [c]->qH tb T1 (.ptr h 0) AT H=some (.un,H.set h (.cells [AT]))) (af:∀H h c,GH.cells H h=some [c]->qH tb T2 (.ptr h 0) AT H=some (.un,H.set h (.cells [AT])))
  (ac:∀H h,GH.cells H h=some [AT]->wD tb T1 (.ptr h 0) H=some AT) (ad:∀H h,GH.cells H h=some [AT]->wD tb T2 (.ptr h 0) H=some AT)
  (N:∀o w,o.size=2->CallsDIn (FR none) 0 P cc o .returning w λe u' l=>∃v,e = .returned v∧u' = .returning∧Oo w l)
  {G:fC} {g:Nat} {k j:List Value} {w:World} {H s:GH} {c1 c2:GV} (R:gH w0 G H w) (hc:∀i l,G.le i->gH w0 i ((H.new (.cells [AT])).new (.cells [AT])) l->∃x,jR P w0 i g (k++j) l x s) (h1:s.cells H.n=some [c1]) (J:s.cells (H.n+1)=some [c2]):
  jR P w0 G c [.func (.func g) k.toArray j.toArray] w (.tup [AT,AT]) ((((s.set H.n (.cells [AT])).set (H.n+1) (.cells [AT])).del H.n).del (H.n+1)):=by
 refine .inr ⟨ag _ w,?_⟩;refine Se (r:=none) (n:=0) (callsIn_of_wp_defers hf hb trivial ?_);rw[hn];obtain⟨b,w1,ap,aj,C,R1,U⟩:=KJ (P:=P) M R (aa H);obtain⟨d,y,I,ak,p,R2,V⟩:=KJ (P:=P) M R1 (ab _);obtain⟨x,hx⟩:=hc I y (fC.le_trans C p) R2;refine wpIn_seq (vH Z ?_);refine Md Z (v:=b) (w':=w1) (by simp[execOp,aj]) ?_;refine Md Z (v:=d) (w':=y) (by simp[execOp,ak]) ?_;show Code.wpIn (FR none) 0 P _ _ (⟨#[.func (.func g) k.toArray j.toArray,undef,b,d,undef,undef,undef],[]⟩:Act) y;refine wpIn_seq (wpIn_region_lit ?_);refine wpListIn_plain Z λK hK=>⟨λ_ _=>trivial,?_⟩
 have hm:(Oper.semAt (FR none).round (⟨#[.func (.func g) k.toArray j.toArray,undef,b,d,undef,undef,undef],[]⟩:Act).eval ⟨some 4,.makeFunc (.func cc) #[] #[.tmp 2,.tmp 3],y2,p2,e2,none⟩).run P y = .ok (.value (.func (.func cc) #[] #[b,d])) y:=by
  rw[show(FR none).round=none from rfl,Oper.semAt_none];simp[execOp,Instr.makeFunc,Act.eval]
 rw[hm];refine hK _ _ ?_;show wpListIn _ _ _ _ _ _ (⟨#[.func (.func g) k.toArray j.toArray,undef,b,d,.func (.func cc) #[] #[b,d],undef,undef],[]⟩:Act) y;refine wpListIn_plain Z λK hK=>⟨λ_ _=>trivial,?_⟩
 have hm:(Oper.semAt (FR none).round (⟨#[.func (.func g) k.toArray j.toArray,undef,b,d,.func (.func cc) #[] #[b,d],undef,undef],[]⟩:Act).eval ⟨none,.defer ⟨.value (.tmp 4),#[],#[]⟩,y3,p3,e3,none⟩).run P y = .ok (.defer ⟨.fn (.func cc) #[b,d],#[]⟩) y:=by
  rw[show(FR none).round=none from rfl,Oper.semAt_none];simp[execOp,resolve,Act.eval,Deferred.ofValue]
 rw[hm];refine hK _ _ ?_;show Code.wpIn (FR none) 0 P _ _ (⟨#[.func (.func g) k.toArray j.toArray,undef,b,d,.func (.func cc) #[] #[b,d],undef,undef],[⟨.fn (.func cc) #[b,d],#[]⟩]⟩:Act) y;refine wpIn_seq (vH Z ?_);refine Md Z (v:= .func (.func g) k.toArray j.toArray) (w':=y) (by simp[execOp,Act.eval]) ?_;show Sx.wpList _ _ _ _ (⟨#[.func (.func g) k.toArray j.toArray,undef,b,d,.func (.func cc) #[] #[b,d],.func (.func g) k.toArray j.toArray,undef],[⟨.fn (.func cc) #[b,d],#[]⟩]⟩:Act) y;have go:∀v D m,I.le m->gH w0 m s D->Code.wpIn (FR none) 0 P (.seq (.region i3 #[⟨none,.store T1 (.tmp 2) (.const (.int .i64 0)),y6,p6,e6,none⟩,⟨none,.store T2 (.tmp 3) (.const (.int .i64 0)),y7,p7,e7,none⟩] false) .ret) (bodyPostDIn (FR none) 0 P z λe l=>∃v i,e = .returned v∧G.le i∧gH w0 i ((((s.set H.n (.cells [AT])).set (H.n+1) (.cells [AT])).del H.n).del (H.n+1)) l∧Rl i (.tup [AT,AT]) v) (⟨#[.func (.func g) k.toArray j.toArray,undef,b,d,.func (.func cc) #[] #[b,d],.func (.func g) k.toArray j.toArray,v],[⟨.fn (.func cc) #[b,d],#[]⟩]⟩:Act) D:=by
  intro v D m a L;have hz:∀G,Rl G AT (.int .i64 0):=λG=> .int _ _;obtain⟨_,w4,aq,al,q,R4⟩:=KM (P:=P) (T:=T1) M L ((U.le p).le a) (hz _) (ae _ _ _ h1);have Y:(s.set H.n (.cells [AT])).cells (H.n+1)=some [c2]:=by
   rw[jL]at J ⊢;rw[t_,if_neg (by omega)];exact J
  obtain⟨_,X,W,am,u,R5⟩:=KM (P:=P) (T:=T2) M R4 ((V.le a).le q) (hz _) (af _ _ _ Y);refine wpIn_seq (vH Z ?_);refine TA Z (w':=w4) (by simp[execOp,Act.eval,al]) ?_;refine TA Z (w':=X) (by simp[execOp,Act.eval,Act.put,am]) ?_;refine wpIn_ret ?_;show LeavesIn (FR none) 0 P z #[.func (.func g) k.toArray j.toArray,undef,b,d,.func (.func cc) #[] #[b,d],.func (.func g) k.toArray j.toArray,v] _ [⟨.fn (.func cc) #[b,d],#[]⟩] .returning X;refine leavesIn_cons (f:=cc) (args:= #[b,d]) (by simp) (by simp[FR,Fence.wide]) (by simp[invoke,ah _ X]) (λ_ _=>trivial) ?_;refine(N #[b,d] X Z).mono ?_;rintro e u' w6 ⟨x6,rfl,rfl,O⟩;have R6:=R5.ext' O;have F:lP W 7 [(2,.ptr H.n 0),(3,.ptr (H.n+1) 0)] (⟨#[.func (.func g) k.toArray j.toArray,undef,b,d,.func (.func cc) #[] #[b,d],.func (.func g) k.toArray j.toArray,v],[]⟩:Act):=by
   refine⟨rfl,rfl,λt g B=> ?_⟩
   rw[Da]at B;by_cases J:t=2
   ·rw[if_pos J]at B;cases B;rw[J];exact(((U.le p).le a).le q).le u
   ·rw[if_neg J,Da]at B;by_cases h3:t=3
    ·rw[if_pos h3]at B;cases B;rw[h3];exact((V.le a).le q).le u
    ·rw[if_neg h3]at B;cases B
  have E:UL tb ⟨z.results.toList,0,[]⟩ ⟨[(2,.ptr H.n 0),(3,.ptr (H.n+1) 0)],(s.set H.n (.cells [AT])).set (H.n+1) (.cells [AT])⟩=some ⟨.ret,[AT,AT],(s.set H.n (.cells [AT])).set (H.n+1) (.cells [AT])⟩:=by
   rw[Q];have q1:wD tb T1 (.ptr H.n 0) ((s.set H.n (.cells [AT])).set (H.n+1) (.cells [AT]))=some AT:=ac _ _ (by rw[jL,t_,if_neg (by omega),t_,if_pos Z]);have q2:wD tb T2 (.ptr (H.n+1) 0) ((s.set H.n (.cells [AT])).set (H.n+1) (.cells [AT]))=some AT:=ad _ _ (by rw[jL,t_,if_pos Z]);show ob (ob (wD tb T1 (.ptr H.n 0) _) λv=>ob (ob (wD tb T2 (.ptr (H.n+1) 0) _) λv=>ob (some []) λvs=>some (v::vs)) λvs=>some (v::vs)) _=_;rw[q1,q2];rfl
  obtain⟨_,v6,ao,an⟩:=Jx (fn:=z) (P:=P) M Z F R6 E;exact⟨v6,an,v6,W,rfl,fC.le_trans C (fC.le_trans p (fC.le_trans a (fC.le_trans q u))),(R6.del _).del _,ao⟩
 rcases hx with⟨v,D,m,hr,a,L,_⟩|⟨hr,A⟩
 ·refine Md Z (v:=v) (w':=D) (by simpa [execOp,resolve,Act.eval,Deferred.ofValue,invoke]using hr) ?_;exact go v D m a L
 ·refine XQ Z (f:=g) (args:=(k++j).toArray) (S:=λv l=>∃i,I.le i∧gH w0 i s l) (by simpa [execOp,resolve,Act.eval,Deferred.ofValue,invoke]using hr) (A.mono ?_) λv D ⟨m,a,L⟩=>go v D m a L;rintro e l ⟨v,i,rfl,ai,R',_⟩;exact⟨v,rfl,i,ai,R'⟩
end
noncomputable section
def Uy (n c:Nat) (a:Nat):Nat->Option Nat:=Nat.rec (motive:=λ_=>Nat->Option Nat) (λ_=>none) (λ_ b i=>Bool.casesOn (motive:=λ_=>Option Nat) (Nat.beq (Nat.mod (Nat.shiftRight n (Nat.mul 8 i)) 256) c) (b (Nat.succ i)) (some i)) a
def alg (k:IntKind):Bool:=match k with
 | .u8=>true
 |_=>false
def ZC (b:Nat) (f:Nat) (d:List GV):Option GV:=bif Nat.beq f b then List.casesOn (motive:=λ_=>Option GV) d none (λa r=>List.casesOn (motive:=λ_=>Option GV) r none λc r=>List.casesOn (motive:=λ_=>Option GV) r (ob a.asStr λs=>ob c.asI λp=>ob (asN p.2) λk=>
 bif alg p.1 then(bif Nat.blt k 256 then Option.casesOn (motive:=λ_=>Option GV) (Uy s.1 k s.2 0) (some (.int .i64 (.negSucc 0))) (λi=>some (.int .i64 (.ofNat i)))else none)else none) λ_ _=>none)else none
theorem VH (x:List UInt8) (c:Nat) (m:c<256):∀k i,i+k=x.length->(match Uy (mD x) c k i with|none=>(-1:Int)|some j=>(j:Int))=(if Lib.indexByte (x.drop i) c.toUInt8 = -1 then -1 else Lib.indexByte (x.drop i) c.toUInt8+i)
 |0,i,h=>by
  rw[List.drop_of_length_le (by omega)];simp[Uy,Lib.indexByte]
 | k + 1, i, h => by
  have o:=VH x c m k (i+1) (by omega);have g:i<x.length:=by omega
  have e:Uy (mD x) c (k+1) i=Bool.casesOn (motive:=λ_=>Option Nat) (Nat.beq (Nat.mod (Nat.shiftRight (mD x) (Nat.mul 8 i)) 256) c) (Uy (mD x) c k (i+1)) (some i):=rfl;rw[e,VC x i g,List.drop_eq_getElem_cons g];have a:(x[i]).toNat=c↔x[i]=c.toUInt8:=by
   rw[<-UInt8.toNat_inj];have:c.toUInt8.toNat=c:=by simp[Nat.toUInt8];omega
   rw[this]
  unfold Lib.indexByte;cases d:Nat.beq (x[i]).toNat c with
  |true=>
   have:=a.1 (zA2 d);simp[this]
  | false =>
   have f:¬x[i]=c.toUInt8:=λl=>by
    have:=a.2 l;rw[this]at d;simp at d
   have n:=Lib.indexByte_ge (x.drop (i+1)) c.toUInt8;simp only[beq_iff_eq,f,if_false];rw[o];by_cases b:Lib.indexByte (x.drop (i+1)) c.toUInt8 = -1
   ·simp[b]
   ·rw[if_neg b,if_neg b,if_neg (by omega)]
    push_cast;omega
section
variable {P:Program} {gs:BV} {w0:fR gs}
theorem acH {u:Nat} {l:Func} (F:P.funcs[u]? = some l) (e:(l.name == "runtime.NumGoroutine")=false) (D:l.body.isNone=true) (I:Extern.findNext l=none) (E:Extern.find l=some Extern.BytealgIndexByte.indexByte)
  {f:Nat} {i:List GV} {g:GV} (h:ZC u f i=some g) (q:fC) (w:World) (o:List Value) (H:GH) (R:gH w0 q H w) (m:pO q i o):jR P w0 q f o w g H:=by
 unfold ZC at h;replace h:=bW.1 h;have C:=zA2 h.1;replace h:=h.2;subst C;cases i with
 |nil=>cases h
 |cons a i=>
 cases i with
 |nil=>cases h
 |cons c i=>
 cases i with
 |cons _ _=>cases h
 |nil=>
 obtain⟨s,L,h⟩:=aF.1 (show ob a.asStr _=some g from h);obtain⟨p,J,h⟩:=aF.1 h;obtain⟨k,G,h⟩:=aF.1 h;obtain⟨x,h⟩:=bW.1 h;obtain⟨d,h⟩:=bW.1 h;obtain⟨v,o,rfl,y,m⟩:=m.of_cons;obtain⟨N,o,rfl,b,m⟩:=m.of_cons;rw[m.of_nil];rw[qZ L]at y;rw[pA J]at b;obtain⟨S,rfl,A,M⟩:=y.str_inv;have b:=b.int_inv;subst b;have t:p.1 = .u8:=by cases K:p.1<;>rw[K]at x<;>first|rfl|cases x
 have r:p.2=(k:Int):=Kc G;have d:k<256:=by simpa using d
 refine .inl ⟨.int .i64 (Lib.indexByte S.data.toList p.2.toNat.toUInt8),w,q,?_,fC.le_refl _,R,?_⟩
 ·rw[run_callFunc_extern F e D I E,t,Lib.run_indexByteString];rfl
 ·have n:=VH (bT S) k d s.2 0 (by omega);rw[A]at h;rw[List.drop_zero]at n;have B:Lib.indexByte S.data.toList p.2.toNat.toUInt8=(match Uy (mD (bT S)) k s.2 0 with|none=>(-1:Int)|some j=>(j:Int)):=by
   rw[n,r];have:bT S=S.data.toList:=rfl;rw[this];simp only[zAh];split
   ·assumption
   ·omega
  rw[B];cases z:Uy (mD (bT S)) k s.2 0 with
  |none=>rw[z]at h;cases h;exact .int _ _
  |some j=>rw[z]at h;cases h;exact .int _ _
end
end
end Go.Gx