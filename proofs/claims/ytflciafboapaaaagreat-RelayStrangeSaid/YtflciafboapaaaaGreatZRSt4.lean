/- Models and proofs. Conditions: none. -/
import Derived.Test.YtflciafboapaaaaGreatZRSt3
import Derived.Test.YtflciafboapaaaaGreatZRSt1
import Derived.RecoverIn
import Derived.DefersIn
import Derived.Lib.Bytealg
import Derived.Test.YtflciafboapaaaaGreatZRSt2
set_option linter.unusedVariables false
set_option linter.unusedSimpArgs false
set_option maxHeartbeats 4000000
set_option maxRecDepth 20000
namespace Go.Gx
open Go Go.Sx Go.RowKit
section
variable {R α:Type}
theorem AN (r:OR) (k:GV->GH->Option R):lU r k=lU (lU r IY) k:=by
 cases r with
 |none=>rfl
 |some p=>rfl
theorem eW (x:Option α) {f:α->Option R} {g:α->OR} {k:GV->GH->Option R} (h:∀a,f a=lU (g a) k):ob x f=lU (ob x g) k:=by
 cases x with
 |none=>rfl
 |some a=>exact h a
theorem ZR {n:TB} {s:CH} {d:GF} {H:GH} (o:Op) (k:GV->GH->Option R):OJ n s o d H k=lU (OJ n s o d H IY) k:=by
 have e:∀x (f:GV->Option GV),k1 x f d H k=lU (k1 x f d H IY) k:=λx f=>eW _ λx=>eW _ λv=>eW _ λg=>rfl;have j:∀x y (f:GV->GV->Option GV),k2 x y f d H k=lU (k2 x y f d H IY) k:=λx y f=>eW _ λx=>eW _ λv=>eW _ λu=>eW _ λg=>rfl;have B:∀x y z (f:GV->GV->GV->Option GV),k3 x y z f d H k=lU (k3 x y z f d H IY) k:=λx y z f=>eW _ λx=>eW _ λv=>eW _ λu=>eW _ λt=>eW _ λg=>rfl;cases o with
 |move x=>exact eW _ λv=>rfl
 |assign x=>exact eW _ λv=>rfl
 |pick c x y=>exact B _ _ _ _
 |alloc T=>exact AN _ _
 |box T x=>exact eW _ λv=>AN _ _
 |build T G=>exact eW _ λJ=>eW _ λg=>rfl
 |buildSlice T m G=>exact eW _ λx=>AN _ _
 |load T x=>exact eW _ λv=>eW _ λg=>rfl
 |store T x y=>exact eW _ λv=>eW _ λu=>AN _ _
 |nilCheck x=>exact e _ _
 |binOp F T x y A=>exact j _ _ _
 |unOp F T x=>exact e _ _
 |convert S D x=>exact e _ _
 |makeFunc C first r=>
  cases C with
  |func f=>exact eW _ λI=>eW _ λJ=>rfl
  |_=>rfl
 |makeMap T q=>
  cases q with
  |none=>exact AN _ _
  |some x=>rfl
 |makeSlice T x y=>exact eW _ λv=>eW _ λu=>AN _ _
 |slice T x L K E=>
  cases E with
  |none=>exact eW _ λv=>eW _ λl=>eW _ λh=>eW _ λg=>rfl
  |some y=>rfl
 |fieldAddr T x f=>exact e _ _
 |field T x f=>exact e _ _
 |indexAddr T x y=>exact j _ _ _
 |index T x y=>exact j _ _ _
 |lookup T x y M=>exact eW _ λv=>eW _ λu=>eW _ λg=>rfl
 |mapUpdate T x y z=>exact eW _ λv=>eW _ λu=>eW _ λt=>AN _ _
 |extract x i=>exact e _ _
 | call c =>
  obtain⟨p,a,w⟩:=c;cases p with
  |value f=>exact eW _ λv=>eW _ λg=>eW _ λI=>AN _ _
  |invoke x m=>rfl
  | builtin b =>
   show Ro n a w b d H k=lU (Ro n a w b d H IY) k;obtain⟨a⟩:=a;cases b with
   |len=>
    match a with
    | []=>rfl
    | [x]=>exact eW _ λT=>eW _ λv=>eW _ λg=>rfl
    |_::_::_=>rfl
   |max=>
    match a with
    | []=>rfl
    | [x]=>rfl
    | [x,y]=>exact j _ _ _
    |_::_::_::_=>rfl
   |min=>
    match a with
    | []=>rfl
    | [x]=>rfl
    | [x,y]=>exact j _ _ _
    |_::_::_::_=>rfl
   |append=>
    match a with
    | []=>rfl
    | [x]=>rfl
    | [x,y]=>exact eW _ λT=>eW _ λA=>eW _ λv=>eW _ λu=>AN _ _
    |_::_::_::_=>rfl
   |copy=>
    match a with
    | []=>rfl
    | [x]=>rfl
    | [x,y]=>exact eW _ λT=>eW _ λv=>eW _ λu=>AN _ _
    |_::_::_::_=>rfl
   |cap=>
    match a with
    | []=>rfl
    | [x]=>exact eW _ λT=>eW _ λv=>eW _ λg=>rfl
    |_::_::_=>rfl
   |_=>rfl
 |_=>rfl
theorem Eo {b a:GF}:∀{xs:List Operand},(∀x∈xs,lD b x=lD a x)->Hk b xs=Hk a xs
 | [],_=>rfl
 |x::xs,h=>by
  show ob (lD b x) (λv=>ob (Hk b xs) λc=>some (v::c))=ob (lD a x) (λv=>ob (Hk a xs) λc=>some (v::c));rw[h x zAc,Eo λy d=>h y (zAj _ d)]
theorem Ep {b a:GF}:∀{xs:List (Nat×Operand)},(∀x∈xs,lD b x.2=lD a x.2)->vQ b xs=vQ a xs
 | [],_=>rfl
 |x::xs,h=>by
  show ob (lD b x.2) (λv=>ob (vQ b xs) λc=>some ((x.1,v)::c))=ob (lD a x.2) (λv=>ob (vQ a xs) λc=>some ((x.1,v)::c));rw[h x zAc,Ep λy d=>h y (zAj _ d)]
theorem KS {b a:GF} {o:Option Operand} (h:∀x∈o.toArray,lD b x=lD a x):IQ b o=IQ a o:=by
 cases o with
 |none=>rfl
 |some x=>
  show ob (lD b x) (λv=>some (some v))=ob (lD a x) (λv=>some (some v));rw[h x (by simp)]
theorem Ur {n:TB} {G:CH} {j a:GF} {H:GH} {o:Op} {k:GV->GH->Option R} (h:∀x∈o.operands,lD j x=lD a x):OJ n G o j H k=OJ n G o a H k:=by
 have s:∀x (f:GV->Option GV),lD j x=lD a x->k1 x f j H k=k1 x f a H k:=λx f e=>by simp only[k1,ob,e]
 have t:∀x y (f:GV->GV->Option GV),lD j x=lD a x->lD j y=lD a y->k2 x y f j H k=k2 x y f a H k:=λx y f e w=>by simp only[k2,ob,e,w]
 have J:∀x y z (f:GV->GV->GV->Option GV),lD j x=lD a x->lD j y=lD a y->lD j z=lD a z->k3 x y z f j H k=k3 x y z f a H k:=λx y z f e w A=>by simp only[k3,ob,e,w,A]
 cases o with
 |move x=>show Jv x j H k=Jv x a H k;simp only[Jv,ob,h x (by simp[Op.operands])]
 |assign x=>show Jv x j H k=Jv x a H k;simp only[Jv,ob,h x (by simp[Op.operands])]
 |pick c x y=>exact J _ _ _ _ (h _ (by simp[Op.operands])) (h _ (by simp[Op.operands])) (h _ (by simp[Op.operands]))
 |alloc T=>rfl
 |box T x=>show ZW x j H k=ZW x a H k;simp only[ZW,ob,h x (by simp[Op.operands])]
 | build T ps =>
  show ob (vQ j ps.toList) _=ob (vQ a ps.toList) _;rw[Ep λx d=>h x.2 (by
   have:x∈ps:=by simpa using d
   simp only[Op.operands,List.mem_toArray,List.mem_map];exact⟨x,d,rfl⟩)]
 | buildSlice T m ps =>
  show ob (vQ j ps.toList) _=ob (vQ a ps.toList) _;rw[Ep λx d=>h x.2 (by
   simp only[Op.operands,List.mem_toArray,List.mem_map];exact⟨x,d,rfl⟩)]
 |load T x=>show SY n T x j H k=SY n T x a H k;simp only[SY,ob,h x (by simp[Op.operands])]
 |store T x y=>show NU n T x y j H k=NU n T x y a H k;simp only[NU,ob,h x (by simp[Op.operands]),h y (by simp[Op.operands])]
 |nilCheck x=>exact s _ _ (h _ (by simp[Op.operands]))
 |binOp L T x y M=>exact t _ _ _ (h _ (by simp[Op.operands])) (h _ (by simp[Op.operands]))
 |unOp L T x=>exact s _ _ (h _ (by simp[Op.operands]))
 |convert S D x=>exact s _ _ (h _ (by simp[Op.operands]))
 | makeFunc fn first caps =>
  cases fn with
  | func f =>
   show ob (Hk j first.toList) _=ob (Hk a first.toList) _;rw[Eo λx d=>h x (by simp only[Op.operands,Array.mem_append];exact .inl (by simpa using d)),
    Eo (xs:=caps.toList) λx d=>h x (by simp only[Op.operands,Array.mem_append];exact .inr (by simpa using d))]
  |_=>rfl
 |makeMap T q=>
  cases q with
  |none=>rfl
  |some x=>rfl
 |makeSlice T x y=>show S_ n T x y j H k=S_ n T x y a H k;simp only[S_,ob,h x (by simp[Op.operands]),h y (by simp[Op.operands])]
 | slice T x lo hi mx =>
  cases mx with
  |none=>
   show ob (some x) (λx=>ob (lD j x) λv=>ob (IQ j lo) λl=>ob (IQ j hi) λh=>ob (CS n T v l h H) λg=>k g H)=ob (some x) (λx=>ob (lD a x) λv=>ob (IQ a lo) λl=>ob (IQ a hi) λh=>ob (CS n T v l h H) λg=>k g H);have C:IQ j lo=IQ a lo:=KS λy F=>h y (by simp only[Op.operands,Array.mem_append];exact .inl (.inl (.inr F)));have B:IQ j hi=IQ a hi:=KS λy F=>h y (by simp only[Op.operands,Array.mem_append];exact .inl (.inr F));have d:lD j x=lD a x:=h x (by simp only[Op.operands,Array.mem_append];exact .inl (.inl (.inl (by simp))));simp only[ob,C,B,d]
  |some y=>rfl
 |fieldAddr T x f=>exact s _ _ (h _ (by simp[Op.operands]))
 |field T x f=>exact s _ _ (h _ (by simp[Op.operands]))
 |indexAddr T x y=>exact t _ _ _ (h _ (by simp[Op.operands])) (h _ (by simp[Op.operands]))
 |index T x y=>exact t _ _ _ (h _ (by simp[Op.operands])) (h _ (by simp[Op.operands]))
 |lookup T x y I=>show SZ n T x y I j H k=SZ n T x y I a H k;simp only[SZ,ob,h x (by simp[Op.operands]),h y (by simp[Op.operands])]
 |mapUpdate T x y z=>show NT n T x y z j H k=NT n T x y z a H k;simp only[NT,ob,h x (by simp[Op.operands]),h y (by simp[Op.operands]),h z (by simp[Op.operands])]
 |extract x i=>exact s _ _ (h _ (by simp[Op.operands]))
 | call c =>
  obtain⟨u,p,r⟩:=c;cases u with
  |value f=>
   have K:lD j f=lD a f:=h f (by simp[Op.operands,Call.operands]);have E:Hk j p.toList=Hk a p.toList:=Eo λx d=>h x (by simp[Op.operands,Call.operands];exact .inr (by simpa using d));show ob (lD j f) _=ob (lD a f) _;simp only[ob,K,E]
  |invoke x m=>rfl
  | builtin b =>
   show Ro n p r b j H k=Ro n p r b a H k;have d:∀x∈p,lD j x=lD a x:=λx d=>h x (by simp[Op.operands,Call.operands];exact d);obtain⟨p⟩:=p;cases b with
   |len=>
    match p,d with
    | [],_=>rfl
    | [x],d=>show Uz n r.toList x j H k=Uz n r.toList x a H k;simp only[Uz,ob,d x (by simp)]
    |_::_::_,_=>rfl
   |max=>
    match p,d with
    | [],_=>rfl
    | [x],_=>rfl
    | [x,y],d=>exact t _ _ _ (d _ (by simp)) (d _ (by simp))
    |_::_::_::_,_=>rfl
   |min=>
    match p,d with
    | [],_=>rfl
    | [x],_=>rfl
    | [x,y],d=>exact t _ _ _ (d _ (by simp)) (d _ (by simp))
    |_::_::_::_,_=>rfl
   |append=>
    match p,d with
    | [],_=>rfl
    | [x],_=>rfl
    | [x,y],d=>show WV n r.toList x y j H k=WV n r.toList x y a H k;simp only[WV,ob,d x (by simp),d y (by simp)]
    |_::_::_::_,_=>rfl
   |copy=>
    match p,d with
    | [],_=>rfl
    | [x],_=>rfl
    | [x,y],d=>show Ps n r.toList x y j H k=Ps n r.toList x y a H k;simp only[Ps,ob,d x (by simp),d y (by simp)]
    |_::_::_::_,_=>rfl
   |cap=>
    match p,d with
    | [],_=>rfl
    | [x],d=>show Uy n r.toList x j H k=Uy n r.toList x a H k;simp only[Uy,ob,d x (by simp)]
    |_::_::_,_=>rfl
   |_=>rfl
 |_=>rfl
end
noncomputable def Gr (c:TB) (b:CH) (all:List Oper) (o:Oper) (a:GF) (H:GH):OR:=Option.casesOn (motive:=λ_=>OR) o.guard (OJ c b o.op a H IY) λg=>ob (IC all g.1) λe=>ob e.dst λd=>ob (Gs a d) λv=>evG c b o ⟨a,H⟩ g.2 v
theorem ZH {b:TB} {a:CH} {all:List Oper} {o:Oper} {k:GS->RS} {s:GS}:KO b a all o k s=lU (Gr b a all o s.σ s.H) (opK o.dst s k):=by
 unfold KO Gr;cases o.guard with
 |none=>exact ZR _ _
 |some g=>exact eW _ λd=>eW _ λc=>eW _ λv=>rfl
theorem Ge {d:TB} {c:CH} {all:List Oper} {o:Oper} {k:GS->RS} {s:GS} {a:OW} (h:KO d c all o k s=some a):∃g b,Gr d c all o s.σ s.H=some (g,b)∧k ⟨putD o.dst g s.σ,b⟩=some a:=by
 rw[ZH]at h;obtain⟨g,b,e,f⟩:=nJ h;exact⟨g,b,e,f⟩
theorem Q_ {c:TB} {b:CH} {all:List Oper} {o:Oper} {d a:GF} {H:GH} (h:∀t∈o.looksAt all.toArray,Gs d t=Gs a t):Gr c b all o d H=Gr c b all o a H:=by
 have e:OJ c b o.op d H IY=OJ c b o.op a H IY:=Ur λx l=>by
  cases x with
  |tmp t=>exact h t (List.mem_append_left _ (List.mem_filterMap.2 ⟨.tmp t,by simpa using l,rfl⟩))
  |_=>rfl
 unfold Gr;cases j:o.guard with
 |none=>exact e
 | some g =>
  show ob (IC all g.1) _=ob (IC all g.1) _;cases f:IC all g.1 with
  |none=>rfl
  | some oj =>
   show ob oj.dst _=ob oj.dst _;cases i:oj.dst with
   |none=>rfl
   | some dj =>
    have k:dj∈o.looksAt all.toArray:=by
     rw[vR]at f;simp[Oper.looksAt,j,f,i]
    show ob (Gs d dj) (λv=>evG c b o ⟨d,H⟩ g.2 v)=ob (Gs a dj) (λv=>evG c b o ⟨a,H⟩ g.2 v);rw[h dj k];cases Gs a dj with
    |none=>rfl
    | some v =>
     show evG c b o ⟨d,H⟩ g.2 v=evG c b o ⟨a,H⟩ g.2 v;cases v with
     |bool q=>
      show Bool.casesOn (motive:=λ_=>OR) (SQ q g.2) (some (.un,H)) (OJ c b o.op d H IY)=Bool.casesOn (motive:=λ_=>OR) (SQ q g.2) (some (.un,H)) (OJ c b o.op a H IY);rw[e]
     |_=>rfl
section
variable {P:Program} {tb:TB} {gs:By} {w0:g_ gs}
theorem Gd {u:CH} {all:List Oper} {n:Nat} {o:Oper} {r:GF} {H k:GH} {g:GV} {ρ:fQ} {a:Act} (F:lQ ρ n r a) (h:Gr tb u all o r H=some (g,k)):
  (Region.wanted o (yielded all.toArray a.tmps)=true∧OJ tb u o.op r H IY=some (g,k))∨(Region.wanted o (yielded all.toArray a.tmps)=false∧g = .un∧k=H):=by
 unfold Gr at h;cases l:o.guard with
 |none=>
  rw[l]at h;exact .inl ⟨by simp[Region.wanted,l],h⟩
 | some gd =>
  rw[l]at h;obtain⟨A,m,h⟩:=aH.1 (show ob (IC all gd.1) _=some (g,k)from h);obtain⟨i,s,h⟩:=aH.1 h;obtain⟨v,y,j⟩:=aH.1 h;have e:=F.slot i v y;rw[vR]at m;have t:yielded all.toArray a.tmps gd.1=(match a.tmps[i]? with|some (.bool b)=>some b|_=>none):=by
   unfold yielded;have:(all.toArray[gd.1]?).bind (·.dst)=some i:=by simp[m,s]
   rw[this];rfl
  cases v with
  | bool q =>
   have d:=e.bool_inv;have x:a.tmps[i]? = some (.bool q):=by
    simp only[Act.eval,Array.getD_eq_getD_getElem?]at d;cases p:a.tmps[i]? with
    |none=>rw[p]at d;cases d
    |some z=>rw[p]at d;simp at d;rw[d]
   rw[x]at t;have c:Bool.casesOn (motive:=λ_=>OR) (SQ q gd.2) (some (.un,H)) (OJ tb u o.op r H IY)=some (g,k):=j;rw[Hi]at c;have w:Region.wanted o (yielded all.toArray a.tmps)=(q==gd.2):=by
    simp only[Region.wanted,l];rw[t];cases q<;>cases gd.2<;>rfl
   cases f:(q==gd.2)with
   |true=>rw[f]at c;exact .inl ⟨by rw[w,f],c⟩
   |false=>rw[f]at c;cases c;exact .inr ⟨by rw[w,f],rfl,rfl⟩
  | un =>
   have d:=e.un_inv;cases j;refine .inr ⟨?_,rfl,rfl⟩;simp only[Region.wanted,l];rw[t];have:(match a.tmps[i]? with|some (.bool b)=>some b|_=>none)=(none:Option Bool):=by
    simp only[Act.eval,Array.getD_eq_getD_getElem?]at d;cases p:a.tmps[i]? with
    |none=>rfl
    |some z=>rw[p]at d;simp at d;rw[d];rfl
   rw[this];rfl
  |_=>cases j
theorem JW {f:CH} (k:gY P tb) (c:sV P w0 f) {all:List Oper} {n:Nat} {o:Oper} {e:GF} {H b:GH} {g:GV} {d:fQ} {a:Act} {w:World} (p:IX n o=true) (F:lQ d n e a) (R:iI w0 d H w) (h:Gr tb f all o e H=some (g,b)):
  (Region.wanted o (yielded all.toArray a.tmps)=true∧Dz P w0 d e a w o g H b)∨(Region.wanted o (yielded all.toArray a.tmps)=false∧g = .un∧b=H):=by
 obtain⟨_,_,j⟩:=uU p;rcases Gd F h with⟨r,l⟩|h
 ·obtain⟨s,i,m,q⟩:=Rh k c F R j l;cases m;exact .inl ⟨r,q⟩
 ·exact .inr h
def XM (tb:TB) (T:TypeId):Bool:=match tb T with
 |some t=>(match t.desc with|.array .. => false|_=>true)
 |none=>false
def pureOp (tb:TB):Op->Bool
 | .move _ | .assign _ | .pick .. | .build .. | .nilCheck _ | .binOp .. | .unOp .. | .convert .. | .makeFunc .. | .fieldAddr .. | .field .. | .indexAddr .. | .index .. | .extract .. => true
 | .slice T _ _ _ _=>XM tb T
 | .call ⟨.builtin .len,_,_⟩ | .call ⟨.builtin .max,_,_⟩ | .call ⟨.builtin .min,_,_⟩=>true
 |_=>false
def isFloat:Op->Bool
 | .buildSlice .. | .alloc .. | .box .. => true
 |_=>false
theorem iZ {b:fQ} {g:GV} {s:Sem Value} {a:Act} {o:Oper} (h:Ea P b s g) (c:∀w v,s.run P w = .ok v w->(execOp a.eval o).run P w = .ok (.value v) w):∃v,Rl b g v∧∀w,(execOp a.eval o).run P w = .ok (.value v) w:=
 let ⟨v,hv,hr⟩:=h;⟨v,hv,λw=>c w v (hr w)⟩
theorem WN {ih:CH} (E:gY P tb) {ρ:fQ} {n:Nat} {s:GF} {a:Act} (F:lQ ρ n s a) {o:Oper} {H r:GH} {g:GV} (R:pureOp tb o.op=true) (aa:Lg o.op=true) (h:OJ tb ih o.op s H IY=some (g,r)):
  r=H∧∃v,Rl ρ g v∧∀w,(execOp a.eval o).run P w = .ok (.value v) w:=by
 obtain⟨d,W,J,ad,ac,gd⟩:=o;cases W with
 |move x=>
  obtain⟨v,q,h⟩:=aH.1 (show ob (lD s x) _=some (g,r)from h);cases h;exact⟨rfl,_,dN F q,λw=>by simp[execOp]⟩
 |assign x=>
  obtain⟨v,q,h⟩:=aH.1 (show ob (lD s x) _=some (g,r)from h);cases h;exact⟨rfl,_,dN F q,λw=>by simp[execOp]⟩
 |pick c x y=>
  obtain⟨v,q,h⟩:=aH.1 (show ob (lD s c) _=some (g,r)from h);obtain⟨u,C,h⟩:=aH.1 h;obtain⟨t,ht,h⟩:=aH.1 h;obtain⟨z,k,h⟩:=aH.1 h;cases h;obtain⟨b,hb,k⟩:=aH.1 (show ob v.asB _=some g from k);have Y:=dN F q;rw[Dk hb]at Y;cases b with
  |true=>cases k;exact⟨rfl,_,dN F C,λw=>by simp[execOp,Y.bool_inv,asBool]⟩
  |false=>cases k;exact⟨rfl,_,dN F ht,λw=>by simp[execOp,Y.bool_inv,asBool]⟩
 | build T ps =>
  obtain⟨vs,N,h⟩:=aH.1 (show ob (vQ s ps.toList) _=some (g,r)from h);obtain⟨z,k,h⟩:=aH.1 h;cases h;exact⟨rfl,iZ (Nb E (DJ F N) k) (λw v j=>by
   have e:(ps.toList.map λp=>(p.1,a.eval p.2)).toArray=ps.map λp=>(p.1,a.eval p.2):=by apply Array.toList_inj.1;simp
   rw[e]at j;simp[execOp,j])⟩
 |nilCheck x=>
  obtain⟨v,q,h⟩:=aH.1 (show ob (lD s x) _=some (g,r)from h);obtain⟨z,k,h⟩:=aH.1 h;cases h;obtain⟨rfl,j⟩:=PE (P:=P) (dN F q) k;exact⟨rfl,_,dN F q,λw=>j _ x a.eval Z Z w⟩
 | binOp W T x y T' =>
  obtain⟨v,q,h⟩:=aH.1 (show ob (lD s x) _=some (g,r)from h);obtain⟨u,C,h⟩:=aH.1 h;obtain⟨z,k,h⟩:=aH.1 h;cases h;exact⟨rfl,iZ (TG E x y (dN F q) (dN F C) k) (λw v j=>by
   simp only[execOp];simp at j ⊢;cases V:Sem.run P (eqGuard W T x y (a.eval x) (a.eval y)) w with
   |ok u w1=>rw[V]at j;simp at j;simp[j]
   |halt h1 w1=>rw[V]at j;cases j)⟩
 |unOp W T x=>
  obtain⟨v,q,h⟩:=aH.1 (show ob (lD s x) _=some (g,r)from h);obtain⟨z,k,h⟩:=aH.1 h;cases h;exact⟨rfl,iZ (Yd (dN F q) k) (λw v j=>by simp[execOp,j])⟩
 |convert S D x=>
  obtain⟨v,q,h⟩:=aH.1 (show ob (lD s x) _=some (g,r)from h);obtain⟨z,k,h⟩:=aH.1 h;cases h;exact⟨rfl,iZ (Qf E (dN F q) k) (λw v j=>by simp[execOp,j])⟩
 | makeFunc fn first caps =>
  cases fn with
  |func f=>
   obtain⟨us,ab,h⟩:=aH.1 (show ob (Hk s first.toList) _=some (g,r)from h);obtain⟨vs,N,h⟩:=aH.1 h;cases h;refine⟨rfl,_,QG (Gf F ab) (Gf F N),λw=> ?_⟩
   have e1:(first.toList.map a.eval).toArray=first.map a.eval:=by apply Array.toList_inj.1;simp
   have e2:(caps.toList.map a.eval).toArray=caps.map a.eval:=by apply Array.toList_inj.1;simp
   rw[e1,e2];simp[execOp,Instr.makeFunc]
  |_=>cases h
 |fieldAddr T x f=>
  obtain⟨v,q,h⟩:=aH.1 (show ob (lD s x) _=some (g,r)from h);obtain⟨z,k,h⟩:=aH.1 h;cases h;exact⟨rfl,iZ (Nc E (dN F q) k) (λw v j=>by simp[execOp,j])⟩
 |field T x f=>
  obtain⟨v,q,h⟩:=aH.1 (show ob (lD s x) _=some (g,r)from h);obtain⟨z,k,h⟩:=aH.1 h;cases h;exact⟨rfl,iZ (Qi E (dN F q) k) (λw v j=>by simp[execOp,j])⟩
 |indexAddr T x y=>
  obtain⟨v,q,h⟩:=aH.1 (show ob (lD s x) _=some (g,r)from h);obtain⟨u,C,h⟩:=aH.1 h;obtain⟨z,k,h⟩:=aH.1 h;cases h;exact⟨rfl,iZ (Nf E (dN F q) (dN F C) k) (λw v j=>by simp[execOp,j])⟩
 |index T x y=>
  obtain⟨v,q,h⟩:=aH.1 (show ob (lD s x) _=some (g,r)from h);obtain⟨u,C,h⟩:=aH.1 h;obtain⟨z,k,h⟩:=aH.1 h;cases h;exact⟨rfl,iZ (XX E (dN F q) (dN F C) k) (λw v j=>by simp[execOp,j])⟩
 | slice T x lo hi mx =>
  cases mx with
  | none =>
   obtain⟨v,q,h⟩:=aH.1 (show ob (lD s x) _=some (g,r)from h);obtain⟨l,hl,h⟩:=aH.1 h;obtain⟨e,he,h⟩:=aH.1 h;obtain⟨z,k,h⟩:=aH.1 h;cases h;have hA:∀t,tb T=some t->tdA t.desc=none:=λt ht=>by
    have U:XM tb T=true:=R;unfold XM at U;rw[ht]at U;simp only at U;cases V:t.desc<;>rw[V]at U<;>first|rfl|cases U
   exact⟨rfl,iZ (Ng (gs:=noG) E (.inr hA) (dN F q) (JZ F hl) (JZ F he) k) (λw v j=>by simp[execOp,j])⟩
  |some y=>cases h
 |extract x i=>
  obtain⟨v,q,h⟩:=aH.1 (show ob (lD s x) _=some (g,r)from h);obtain⟨z,k,h⟩:=aH.1 h;cases h;exact⟨rfl,iZ (TI (dN F q) k) (λw v j=>by simp[execOp,j])⟩
 | call c =>
  obtain⟨X,Q,B⟩:=c;cases X with
  |value f=>cases R
  |invoke x m=>cases R
  | builtin b =>
   have A:B.size=Q.size:=zA6 aa;have h:Ro tb Q B b s H IY=some (g,r):=h;cases b with
   | len =>
    obtain⟨x,O,h⟩:=Er (show KW Q.toList (Uz tb B.toList) s H IY=some (g,r)from h);obtain⟨T,M,h⟩:=aH.1 (show ob (IC B.toList 0) _=some (g,r)from h);obtain⟨v,q,h⟩:=aH.1 h;obtain⟨z,k,h⟩:=aH.1 h;cases h;have L:=Ki O;subst L;have K:B = #[T]:=by
     rw[vR]at M;obtain⟨l⟩:=B
     match l,A with
     | [t],_=>simp at M;subst M;rfl
    subst K;exact⟨rfl,iZ (TJ E (ty:=J) (dN F q) k) (λw v j=>by simp[execOp,resolve,invoke,builtin,j])⟩
   | cap =>
    obtain⟨x,O,h⟩:=Er (show KW Q.toList (Uy tb B.toList) s H IY=some (g,r)from h);obtain⟨T,M,h⟩:=aH.1 (show ob (IC B.toList 0) _=some (g,r)from h);obtain⟨v,q,h⟩:=aH.1 h;obtain⟨z,k,h⟩:=aH.1 h;cases h;have L:=Ki O;subst L;have K:B = #[T]:=by
     rw[vR]at M;obtain⟨l⟩:=B
     match l,A with
     | [t],_=>simp at M;subst M;rfl
    subst K;exact⟨rfl,iZ (TH E (ty:=J) (dN F q) k) (λw v j=>by simp[execOp,resolve,invoke,builtin,j])⟩
   | max =>
    obtain⟨x,y,O,h⟩:=Ay (show FA Q.toList (λx y=>k2 x y Sb) s H IY=some (g,r)from h);obtain⟨v,q,h⟩:=aH.1 (show ob (lD s x) _=some (g,r)from h);obtain⟨u,C,h⟩:=aH.1 h;obtain⟨z,k,h⟩:=aH.1 h;cases h;have L:=Gn O;subst L;obtain⟨G,I,K⟩:∃G I,B = #[G,I]:=by
     obtain⟨l⟩:=B
     match l,A with
     | [t,t'],_=>exact⟨t,t',rfl⟩
    subst K;exact⟨rfl,iZ (TK (t1:=G) (t2:=I) (ty:=J) (dN F q) (dN F C) k) (λw v j=>by simp[execOp,resolve,invoke,builtin,j])⟩
   | min =>
    obtain⟨x,y,O,h⟩:=Ay (show FA Q.toList (λx y=>k2 x y aaG) s H IY=some (g,r)from h);obtain⟨v,q,h⟩:=aH.1 (show ob (lD s x) _=some (g,r)from h);obtain⟨u,C,h⟩:=aH.1 h;obtain⟨z,k,h⟩:=aH.1 h;cases h;have L:=Gn O;subst L;obtain⟨G,I,K⟩:∃G I,B = #[G,I]:=by
     obtain⟨l⟩:=B
     match l,A with
     | [t,t'],_=>exact⟨t,t',rfl⟩
    subst K;exact⟨rfl,iZ (TL (t1:=G) (t2:=I) (ty:=J) (dN F q) (dN F C) k) (λw v j=>by simp[execOp,resolve,invoke,builtin,j])⟩
   |_=>cases R
 |_=>cases R
theorem Qe (hG:gY P tb) {T:TypeId} {n:Nat} {l:List (Nat×GV)} {parts:List (Nat×Value)} {ρ:fQ} {H H':GH} {g:GV} (hp:RlP ρ l parts) (h:xE tb T n l H=some (g,H')):
  ∃cs a' T' len sz,H'=H.new (.cells cs)∧g = .sl H.n 0 len sz∧TV ρ cs a'∧cs.length=a'.size∧∀w:World,∃V,(Instr.buildSlice T n parts.toArray).run P w = .ok V (w.alloc (.cells a' T'))∧∀ρ':fQ,ρ' H.n=some ⟨w.heap.size,0,a'.size,.cells a' T',.cells cs⟩->Rl ρ' g V:=by
 obtain⟨te,hte,h⟩:=aH.1 (show ob (Cn tb T) _=some (g,H')from h);obtain⟨zc,hz,h⟩:=aH.1 h;obtain⟨hlen,h⟩:=cH.1 h;obtain⟨hbig,h⟩:=cH.1 h;obtain⟨h0,h⟩:=lL.1 h;obtain⟨cs,hfill,h⟩:=aH.1 h;rw[kB]at h;cases h;obtain⟨⟨d,hd,hde⟩,hE,htab⟩:=Av hG hte;obtain⟨dz,hdz,_,hC⟩:=xU (ρ:=ρ) hG hz;rw[htab]at hdz;cases hdz;have hlen:zc.length=te.2.size:=zA6 hlen;have h0:te.2.size≠0:=λe=>by rw[e]at h0;cases h0
 have hbig:n*te.2.size<16777216:=by simpa [zAu]using hbig
 have hrep:=Ke hC (by omega) n;rw[hlen]at hrep;obtain⟨a',f1,f2⟩:=Gg hp hrep hfill;have hsz0:cs.length=a'.size:=by have:=f2.r.len;simpa using this
 have hsz:a'.size=n*te.2.size:=by
  have e1:=f2.r.len;have:cs.length=(Qr zc n).length:=Hl hfill;rw[this,Ie,hlen]at e1;simp at e1;omega
 refine⟨cs,a',te.1,n,te.2.size,rfl,rfl,f2,hsz0,λw=>⟨.slice (some ⟨w.heap.size,0,none⟩) n n,?_,λρ' hρ=> .sl (l:=⟨w.heap.size,0,a'.size,.cells a' te.1,.cells cs⟩) hρ (zAg _) (.inr ⟨rfl,by simp[hsz]⟩)⟩⟩
 have hu:=hd.run_und w;rw[hde]at hu;by_cases hn:n*te.2.size=0
 ·have hz0:n=0:=by rcases Nat.mul_eq_zero.1 hn with h|h;exact h;exact absurd h h0
  subst hz0;have e0:(Array.range (0*te.2.size)).map (te.2.zero.cells[· % te.2.zero.cells.size]!)=(#[]:Array Value):=by simp
  rw[e0]at f1;have e1:(Array.range 0).map (λ_=>(default:Value)) = #[]:=by simp
  simp[Instr.buildSlice,hu,hE.run_size w,newRow];simp[e1,f1]
 ·simp[Instr.buildSlice,hu,hE.run_size w,hE.run_zero w,hn,f1,newRow,show¬(16777216<n*te.2.size) by omega]
theorem Vv {t u w:fQ} (x:∀h A l,t h=some A->u h=some l->w h=some l) {g:GV} {v:Value} (C:Rl u g v):∀{r:Value},Rl t g r->Rl w g v:=by
 induction C with
 |int k n=>exact λ_=> .int k n
 |bool b=>exact λ_=> .bool b
 |str s=>exact λ_=> .str s
 |ptr y q=>exact λj=>by cases j with|ptr _ m=>exact .ptr y (x _ _ _ m q)
 |pnil=>exact λ_=> .pnil
 |sl q E D=>exact λj=>by cases j with|sl m _ _=>exact .sl (x _ _ _ m q) E D
 |snil=>exact λ_=> .snil
 |map q=>exact λj=>by cases j with|map m=>exact .map (x _ _ _ m q)
 | fn f a b c d ihb ihd =>
   intro r j;cases j with
   | fn _ z p B d0 =>
    refine .fn f a (λi g v e o=> ?_) c (λi g v e o=> ?_)
    ·have:=bQ e;exact ihb i g v e o (p i g _ e (zA2 (by omega)))
    ·have:=bQ e;exact ihd i g v e o (d0 i g _ e (zA2 (by omega)))
 |fnil=>exact λ_=> .fnil
 |inil=>exact λ_=> .inil
 | agg a b c ihb =>
   intro r j;cases j with
   |agg z p B=>
    refine .agg a (λi g v e o=> ?_) c;have:=bQ e;exact ihb i g v e o (p i g _ e (zA2 (by omega)))
 | tup a b ihb =>
   intro r j;cases j with
   |tup z p=>
    refine .tup a (λi g v e o=> ?_);have:=bQ e;exact ihb i g v e o (p i g _ e (zA2 (by omega)))
 |un=>exact λ_=> .un
 |bad v=>exact λ_=> .bad v
 | opn v h hx =>
   intro r j;obtain⟨A,a,_⟩:=j.opn_inv;exact .opn v (x _ _ _ a h) hx
structure Trc (tb:TB) (ih:CH) (all l:List Oper) (S:Nat->GF) (HH:Nat->GH) (gg:Nat->GV):Prop where
 st:∀i o,l[i]? = some o->Gr tb ih all o (S i) (HH i)=some (gg i,HH (i+1))
 up:∀i o,l[i]? = some o->S (i+1)=putD o.dst (gg i) (S i)
theorem MB {d:CH} {all:List Oper} {k:GS->RS} {b:OW}:∀(l:List Oper) (s:GS),GE tb d all k l s=some b->∃S c e,S 0=s.σ∧c 0=s.H∧Trc tb d all l S c e∧k ⟨S l.length,c l.length⟩=some b
 | [],s,h=>⟨λ_=>s.σ,λ_=>s.H,λ_=> .un,rfl,rfl,⟨λi o a=>by simp at a,λi o a=>by simp at a⟩,h⟩
 | o :: l, s, h => by
  obtain⟨g,t,p,q⟩:=Ge (show KO tb d all o (GE tb d all k l) s=some b from h);obtain⟨S,c,e,m,n,j,r⟩:=MB l _ q;refine⟨λi=>Nat.casesOn i s.σ S,λi=>Nat.casesOn i s.H c,λi=>Nat.casesOn i g e,rfl,rfl,⟨λi f a=> ?_,λi f a=> ?_⟩,r⟩
  ·cases i with
   |zero=>simp at a;subst a;show Gr tb d all o s.σ s.H=some (g,c 0);rw[p,n]
   |succ i=>exact j.st i f (by simpa using a)
  ·cases i with
   |zero=>simp at a;subst a;exact m
   |succ i=>exact j.up i f (by simpa using a)
theorem Cy {o:Op} (h:oG o=true):fV o=false:=by
 cases o<;>first|rfl|cases h
structure Vrs (all l:List Oper) (m:List Nat) (i:Nat) (S:Nat->GF) (HH:Nat->GH) (pr:List (Nat×Option (Nat×Nat))) (hs:List (Nat×GH)):Prop where
 pr:∀q h v,(q,some (h,v))∈pr->∀j oj,l[j]? = some oj->fV oj.op=true->before m (i+j) q=false->(HH (j+1)).ver h=some v
 hs:∀k ok h,l[k]? = some ok->oG ok.op=true->ZZ (S k) ok.op=some h->∃v,(HH k).ver h=some v∧∀q Hq,(q,Hq)∈hs->before m (i+k) q=false->Hq.ver h=some v
 lo:∀k ok h v,l[k]? = some ok->oG ok.op=true->ZZ (S k) ok.op=some h->(HH k).ver h=some v->
  (∀j oj,j<k->l[j]? = some oj->fV oj.op=true->before m (i+k) (i+j)=false->(HH j).ver h=some v)∧(∀j oj,k<j->l[j]? = some oj->fV oj.op=true->before m (i+j) (i+k)=false->(HH (j+1)).ver h=some v)
theorem Vrs.cons {all l:List Oper} {m:List Nat} {i:Nat} {S:Nat->GF} {B:Nat->GH} {G x:List (Nat×Option (Nat×Nat))} {F u:List (Nat×GH)} {o:Oper} {L:GF} {H:GH} (V:Vrs all l m (i+1) S B x u)
  (E:∀p∈G,p∈x) (C:∀p∈F,p∈u) (I:fV o.op=true->(i,H)∈u∧∀p∈G,before m i p.1=false->∀d,p.2=some d->(B 0).ver d.1=some d.2)
  (J:oG o.op=true->∀h,ZZ L o.op=some h->∃v,H.ver h=some v∧(i,some (h,v))∈x∧∀q y,(q,y)∈F->before m i q=false->y.ver h=some v):
  Vrs all (o::l) m i (λj=>Nat.casesOn j L S) (λj=>Nat.casesOn j H B) G F:=by
 have e:∀j,i+(j+1)=i+1+j:=λj=>by omega
 refine⟨λq h v z j w g s f=> ?_,λk A h n s t=> ?_,λk A h v n s t d=>⟨λj w D g r f=> ?_,λj w D g r f=> ?_⟩⟩
 ·cases j with
  |zero=>simp at g;subst g;exact(I s).2 _ z (by simpa using f) _ Z
  |succ j=>exact V.pr q h v (E _ z) j w (by simpa using g) s (by rw[<-e];exact f)
 ·cases k with
  |zero=>
   simp at n;subst n;obtain⟨v,a,_,c⟩:=J s h t;exact⟨v,a,λq y z f=>c q y z (by simpa using f)⟩
  |succ k=>
   obtain⟨v,a,b⟩:=V.hs k A h (by simpa using n) s t;exact⟨v,a,λq y z f=>b q y (C _ z) (by rw[<-e];exact f)⟩
 ·cases k with
  |zero=>omega
  | succ k =>
   have n:l[k]? = some A:=by simpa using n
   cases j with
   |zero=>
    simp at g;subst g;obtain⟨K,a,b⟩:=V.hs k A h n s t;have a:(B k).ver h=some K:=a;have d:(B k).ver h=some v:=d;rw[a]at d;cases d;exact b i H (I r).1 (by rw[<-e];simpa using f)
   |succ j=>exact(V.lo k A h v n s t d).1 j w (by omega) (by simpa using g) r (by rw[<-e,<-e];exact f)
 ·cases j with
  |zero=>omega
  | succ j =>
   have g:l[j]? = some w:=by simpa using g
   cases k with
   |zero=>
    simp at n;subst n;obtain⟨K,a,b,_⟩:=J s h t;have d:H.ver h=some v:=d;rw[a]at d;cases d;exact V.pr i h v b j w g r (by rw[<-e];simpa using f)
   |succ k=>exact(V.lo k A h v (by simpa using n) s t d).2 j w (by omega) g r (by rw[<-e,<-e];exact f)
theorem JX {x:CH} {all:List Oper} {m:List Nat} {k:GS->RS} {A:OW}:∀(l:List Oper) (i:Nat) (J:List (Nat×Option (Nat×Nat))) (D:List (Nat×GH)) (s:GS),evW tb x all m k l i J D s=some A->
  ∃S a r,S 0=s.σ∧a 0=s.H∧Trc tb x all l S a r∧Vrs all l m i S a J D∧k ⟨S l.length,a l.length⟩=some A
 | [],i,J,D,s,h=>⟨λ_=>s.σ,λ_=>s.H,λ_=> .un,rfl,rfl,⟨λi o d=>by simp at d,λi o d=>by simp at d⟩,⟨λ_ _ _ _ j Y V=>by simp at V,λk X h f=>by simp at f,λk X h v f=>by simp at f⟩,h⟩
 | o :: l, i, J, D, s, h => by
  have t:WB tb x all m o (evW tb x all m k l) i J D s=some A:=h;have B:∀{g:GV} {C:GH} {S:Nat->GF} {a:Nat->GH} {r:Nat->GV},Gr tb x all o s.σ s.H=some (g,C)->S 0=putD o.dst g s.σ->a 0=C->Trc tb x all l S a r->Trc tb x all (o::l) (λj=>Nat.casesOn j s.σ S) (λj=>Nat.casesOn j s.H a) (λj=>Nat.casesOn j g r):=λ{g C S a r} z y n w=>⟨λi O d=>by
    cases i with
    |zero=>simp at d;subst d;show Gr tb x all o s.σ s.H=some (g,a 0);rw[z,n]
    |succ i=>exact w.st i O (by simpa using d),λi O d=>by
    cases i with
    |zero=>simp at d;subst d;exact y
    |succ i=>exact w.up i O (by simpa using d)⟩
  unfold WB at t;cases b:fV o.op with
  |true=>
   rw[b]at t;obtain⟨g,C,z,E⟩:=Ge t;obtain⟨_,u,K⟩:=aH.1 E;have u:=Fv u;obtain⟨S,a,r,y,n,w,I,f⟩:=JX l _ _ _ _ K;refine⟨_,_,_,rfl,rfl,B z y n w,I.cons (λ_ h=>h) (λp G=>zAj _ G) (λ_=>⟨zAc,λp G L M U=>by rw[n];exact u p G L M U⟩) (λc=>by rw[Cy c]at b;cases b),f⟩
  | false =>
   rw[b]at t;cases c:oG o.op with
   |true=>
    simp only[c]at t;obtain⟨g,C,z,E⟩:=Ge t;obtain⟨e,u,K⟩:=aH.1 E;obtain⟨S,a,r,y,n,w,I,f⟩:=JX l _ _ _ _ K;refine⟨_,_,_,rfl,rfl,B z y n w,I.cons (λp G=>zAj _ G) (λ_ h=>h) (λh=>by rw[b]at h;cases h) (λ_ Q F=> ?_),f⟩
    rw[F]at u;obtain⟨v,N,u⟩:=aH.1 (show ob (s.H.ver Q) (λv=>KH m i Q v D)=some e from u);obtain⟨rfl,T⟩:=Fw u;exact⟨v,N,zAc,λq R W L=>T (q,R) W L⟩
   |false=>
    simp only[c]at t;obtain⟨g,C,z,E⟩:=Ge t;obtain⟨S,a,r,y,n,w,I,f⟩:=JX l _ _ _ _ E;exact⟨_,_,_,rfl,rfl,B z y n w,I.cons (λ_ h=>h) (λ_ h=>h) (λh=>by rw[b]at h;cases h) (λh=>by rw[c]at h;cases h),f⟩
theorem WA {s:CH} (t:gY P tb) (p:sV P w0 s) {all:List Oper} {n:Nat} {o:Oper} {q:GF} {H k:GH} {g:GV} {d:fQ} {a:Act} {w:World} (r:IX n o=true) (F:lQ d n q a) (R:iI w0 d H w) (h:Gr tb s all o q H=some (g,k)):
  ∃b i e,d.le b∧iI w0 b k e∧lQ b n (putD o.dst g q) i:=by
 obtain⟨_,c,_⟩:=uU r;rcases JW t p r F R h with⟨_,x⟩|⟨_,rfl,rfl⟩
 ·rcases x with⟨_,_,_,rfl,v,f,_⟩|⟨_,_,rfl,v,_,_,_,_,_,f,_⟩|⟨_,_,rfl,v,f,_⟩|⟨_,u⟩
  ·exact⟨d,_,w,fQ.le_refl _,R,F.putD c f⟩
  ·exact⟨d,_,w,fQ.le_refl _,R,F.putD c f⟩
  ·exact⟨d,_,w,fQ.le_refl _,R,F.putD c f⟩
  ·obtain⟨i,e,b,v,j,l,m,rfl⟩:=PG (u (λi e=>∃b v,d.le b∧iI w0 b k e∧Rl b g v∧i=a.put o.dst v) λb e v j l m=>⟨b,v,j,l,m,rfl⟩);exact⟨b,_,e,j,l,(F.le j).putD c m⟩
 ·exact⟨d,_,w,fQ.le_refl _,R,F.putD c .un⟩
theorem MX {q:CH} (p:gY P tb) (f:sV P w0 q) {all:List Oper} {n:Nat} (c:all.all (IX n)=true) {S:Nat->GF} {g:Nat->GH} {u:Nat->GV} (T:Trc tb q all all S g u) {k:fQ} {a:Act} {w:World} (F:lQ k n (S 0) a) (R:iI w0 k (g 0) w):
    ∀m,m<=all.length->∃b:Nat->fQ,(∀i,i<=m->∃a w,iI w0 (b i) (g i) w∧lQ (b i) n (S i) a)∧∀i,i<m->(b i).le (b (i+1))
  | 0, _ => ⟨λ_ => k, λi h => by
      have : i = 0 := by omega
      subst this;exact⟨a,w,R,F⟩,λi h=>by omega⟩
  | m + 1, hm => by
    obtain⟨b,o,v⟩:=MX p f c T F R m (by omega);obtain⟨A,B,s,r⟩:=o m (zAg _);have d:all[m]? = some all[m]:=zA2 (by omega);obtain⟨l,t,z,j,x,y⟩:=WA p f (zA5.1 c _ (List.getElem_mem (by omega))) r s (T.st m _ d);refine⟨λi=>if i<=m then b i else l,λi h=> ?_,λi h=> ?_⟩
    · by_cases e:i<=m
      · simp only[e,if_true];exact o i e
      · have:i=m+1:=by omega
        subst this;simp only[e,if_false];exact⟨t,z,x,by rw[T.up m _ d];exact y⟩
    · by_cases e:i+1<=m
      · simp only[e,show i<=m by omega,if_true];exact v i (by omega)
      · have:i=m:=by omega
        subst this;simp only[e,zAg,if_true,if_false];exact j
theorem Qa {a:Nat->GH} {m:Nat} (b:∀i,i<m->(a i).n<=(a (i+1)).n) {i:Nat}:∀{j:Nat},i<=j->j<=m->(a i).n<=(a j).n
  | 0, h, _ => by
      have : i = 0 := by omega
      subst this;exact zAg _
  | j + 1, h, hj => by
    by_cases e:i=j+1
    · subst e;exact zAg _
    · exact zB2 (Qa b (by omega) (by omega)) (b j (by omega))
theorem Ly {w:CH} {all:List Oper} {S:Nat->GF} {u:Nat->GH} {n:Nat->GV} (T:Trc tb w all all S u n) {t:Nat} {g:GV}:∀k,k<=all.length->Gs (S k) t=some g->
  (∃i o,i<k∧all[i]? = some o∧o.dst=some t∧n i=g∧∀j a,i<j->j<k->all[j]? = some a->a.dst≠some t)∨((∀j a,j<k->all[j]? = some a->a.dst≠some t)∧Gs (S 0) t=some g)
 |0,_,h=> .inr ⟨λj a s=>by omega,h⟩
 | k + 1, hk, h => by
  have c:all[k]? = some all[k]:=zA2 (by omega);rw[T.up k _ c]at h;have m:all[k].dst≠some t->Gs (S k) t=some g->_:=λl h=>
   match Ly T k (by omega) h with
   | .inl ⟨i, o, q, p, h3, h4, h5⟩ => (.inl ⟨i, o, by omega, p, h3, h4, λj a r s b => by
     by_cases e:j=k
     ·subst e;rw[c]at b;cases b;exact l
     ·exact h5 j a r (by omega) b⟩:(∃i o,i<k+1∧all[i]? = some o∧o.dst=some t∧n i=g∧∀j a,i<j->j<k+1->all[j]? = some a->a.dst≠some t)∨((∀j a,j<k+1->all[j]? = some a->a.dst≠some t)∧Gs (S 0) t=some g))
   | .inr ⟨q, p⟩ => .inr ⟨λj a s b => by
     by_cases e:j=k
     ·subst e;rw[c]at b;cases b;exact l
     ·exact q j a (by omega) b,p⟩
  cases f:all[k].dst with
  |none=>
   rw[f]at h;exact m (by rw[f];simp) h
  | some d =>
   rw[f]at h;have h:Gs ((d,n k)::S k) t=some g:=h;rw[Cq]at h;by_cases e:t=d
   ·subst e;rw[if_pos Z]at h;cases h;exact .inl ⟨k,_,by omega,c,f,rfl,λj a q p=>by omega⟩
   ·rw[if_neg e]at h;exact m (by rw[f];intro v;cases v;exact e Z) h
def rU (o:Op):Bool:=fV o && !isFloat o
def KY (tb:TB) (x o:Op):Bool:=pureOp tb x||pureOp tb o||isFloat o||(!fV x && !fV o)||(oG x&&fV o)||(fV x&&oG o)
def chkF (tb:TB) (l:List Oper) (m:List Nat):Bool:=
 (List.range l.length).all λi=>match l[i]? with
  |none=>false
  |some o=>
   (vK o).all (λe=>Nat.blt e i&&before m i e&&(List.range i).all (λk=> !before m e k||before m i k)) &&
   (List.range l.length).all (λk=> !before m i k||(Nat.blt k i&&(vK o).any (λe=>Nat.beq e k||before m e k))) &&
   !DK o.op &&
   (List.range i).all (λx=>before m i x||(match l[x]? with|none=>false|some a=>a.apart l.toArray o&&KY tb a.op o.op))
structure Vb (tb:TB) (l:List Oper) (m:List Nat):Prop where
 edge:∀(i:Nat) (o:Oper),l[i]? = some o->∀e∈vK o,e<i∧before m i e=true
 trans:∀(i:Nat) (o:Oper),l[i]? = some o->∀k,before m i k=true->k<l.length->k<i∧∃e∈vK o,e=k∨before m e k=true
 ind:∀(i x:Nat) (oi ox:Oper),l[i]? = some oi->l[x]? = some ox->x<i->before m i x=false->ox.apart l.toArray oi=true∧KY tb ox.op oi.op=true
theorem IL {l:List Oper} {m:List Nat} (h:chkF tb l m=true):Vb tb l m:=by
 have b:∀(i:Nat) (o:Oper),l[i]? = some o->
   ((vK o).all (λe=>Nat.blt e i&&before m i e&&(List.range i).all (λk=> !before m e k||before m i k))=true)∧
   ((List.range l.length).all (λk=> !before m i k||(Nat.blt k i&&(vK o).any (λe=>Nat.beq e k||before m e k)))=true)∧DK o.op=false∧
   ((List.range i).all (λx=>before m i x||(match l[x]? with|none=>false|some g=>g.apart l.toArray o&&KY tb g.op o.op))=true):=by
  intro i o c;have:=zA5.1 h i (zAv.2 (bQ c));simp only[c,zA7,Bool.not_eq_true']at this;exact⟨this.1.1.1,this.1.1.2,this.1.2,this.2⟩
 refine⟨?_,?_,?_⟩
 ·intro i o c e f;have:=zA5.1 (b i o c).1 e f;simp only[zA7,zAu]at this;exact⟨this.1.1,this.1.2⟩
 ·intro i o c k q a;have:=zA5.1 (b i o c).2.1 k (zAv.2 a);simp only[q,Bool.not_true,Bool.false_or,zA7,zAu,List.any_eq_true,zB6]at this;obtain⟨j,e,f,d⟩:=this;refine⟨j,e,f,?_⟩
  rcases d with d|d
  ·exact .inl (zA6 d)
  ·exact .inr d
 ·intro i x s g p r a n;have:=(b i s p).2.2.2;have:=zA5.1 this x (zAv.2 a);simp only[n,Bool.false_or,r,zA7]at this;exact this
theorem MF {X:CH} (I:gY P tb) {all:List Oper} {n:Nat} {o:Oper} {z:GF} {H f:GH} {g:GV} {y:fQ} {a:Act} (S:isFloat o.op=true) (F:lQ y n z a) (h:Gr tb X all o z H=some (g,f)):
  (Region.wanted o (yielded all.toArray a.tmps)=false∧g = .un∧f=H)∨
  (Region.wanted o (yielded all.toArray a.tmps)=true∧∃k i u,f=H.new (.cells k)∧TV y k i∧k.length=i.size∧∀w:World,∃V,(execOp a.eval o).run P w = .ok (.value V) (w.alloc (.cells i u))∧∀c:fQ,c H.n=some ⟨w.heap.size,0,i.size,.cells i u,.cells k⟩->Rl c g V):=by
 rcases Gd F h with⟨U,b⟩|h
 ·refine .inr ⟨U,?_⟩;obtain⟨d,op,ty,aa,L,gd⟩:=o;cases op with
  |buildSlice T m D=>
   obtain⟨vs,C,b⟩:=aH.1 (show ob (vQ z D.toList) _=some (g,f)from b);obtain⟨E,q,b,s⟩:=nJ b;cases s;obtain⟨k,i,u,Y,sz,A,h2,M,N,O⟩:=Qe (P:=P) I (DJ F C) b;refine⟨k,i,u,A,M,N,λw=> ?_⟩
   obtain⟨V,t,B⟩:=O w;refine⟨V,?_,B⟩
   have e:(D.toList.map λp=>(p.1,a.eval p.2)).toArray=D.map λp=>(p.1,a.eval p.2):=by apply Array.toList_inj.1;simp
   rw[e]at t;simp[execOp,t]
  |alloc T=>
   obtain⟨E,q,b,s⟩:=nJ (show lU (CP tb T H) IY=some (g,f)from b);cases s;obtain⟨K,W,b⟩:=aH.1 (show ob (Dw tb T) _=some (g,f)from b);rw[kB]at b;cases b;obtain⟨d,hd,Q,G⟩:=xU (ρ:=y) I W;refine⟨K,d.zero.cells,T,rfl,G,by have:=G.r.len;simpa using this,λw=>⟨_,?_,λc j=> .ptr (l:=⟨w.heap.size,0,d.zero.cells.size,.cells d.zero.cells T,.cells K⟩) 0 j⟩⟩
   simp[execOp,Jc w Q]
  |box T x=>
   obtain⟨v,B,b⟩:=aH.1 (show ob (lD z x) (λv=>lU (UR v H) IY)=some (g,f)from b);obtain⟨E,q,b,s⟩:=nJ b;cases s;obtain⟨J,R,b⟩:=aH.1 (show ob v.cells _=some (g,f)from b);rw[kB]at b;cases b;obtain⟨vs,e,t,A⟩:=(dN F B).cells R;refine⟨J,(a.eval x).cells,T,rfl,by rw[e];exact⟨t,A⟩,by rw[e];have:=t.len;simpa using this,λw=>⟨_,?_,λc j=> .ptr (l:=⟨w.heap.size,0,(a.eval x).cells.size,.cells (a.eval x).cells T,.cells J⟩) 0 j⟩⟩
   simp[execOp,Instr.box,newVar,newRow]
  |_=>cases S
 ·exact .inl h
end
def HC (b a:fQ):fQ:=λh=>match b h with
 |some l=>some l
 |none=>a h
theorem yF {a b:fQ} {h:Nat} {l:Mm} (e:a h=some l):HC a b h=some l:=by simp[HC,e]
theorem yE {b a:fQ} {h:Nat} (e:b h=none):HC b a h=a h:=by simp[HC,e]
theorem HY {a b:fQ}:a.le (HC a b):=λ_ _ e=>yF e
def SlD (all:List Oper) (b:GF) (c:Nat->GV) (D:Nat->Bool) (t:Nat) (g:GV):Prop:=
 (∃i o,D i=true∧all[i]? = some o∧o.dst=some t∧c i=g∧∀j a,D j=true->all[j]? = some a->a.dst=some t->j<=i)∨((∀j a,D j=true->all[j]? = some a->a.dst≠some t)∧Gs b t=some g)
def ins (D:Nat->Bool) (k:Nat):Nat->Bool:=λj=>j==k||D j
theorem Ct (D:Nat->Bool) (k:Nat):ins D k k=true:=by simp[ins]
theorem BE {D:Nat->Bool} {k j:Nat} (h:j≠k):ins D k j=D j:=by simp[ins,h]
theorem Cs {D:Nat->Bool} {k j:Nat} (h:D j=true):ins D k j=true:=by simp[ins,h]
noncomputable def EP (σ:GF) (L:List Nat):GF:=L.filterMap λt=>(Gs σ t).map λg=>(t,g)
theorem DI {σ:GF} {t:Nat}:∀{L:List Nat},Gs (EP σ L) t=if t∈L then Gs σ t else none
 | []=>rfl
 | x :: L => by
  have c:=DI (σ:=σ) (t:=t) (L:=L);cases b:Gs σ x with
  |none=>
   have e:EP σ (x::L)=EP σ L:=by simp[EP,b]
   rw[e,c];by_cases a:t=x
   ·subst a;simp[b]
   ·simp[a]
  |some g=>
   have e:EP σ (x::L)=(x,g)::EP σ L:=by simp[EP,b]
   rw[e,Cq,c];by_cases a:t=x
   ·subst a;simp[b]
   ·simp[a]
section
variable {P:Program} {tb:TB} {gs:By} {w0:g_ gs} {ih:CH} {all:List Oper} {n:Nat} {S:Nat->GF} {HH:Nat->GH} {gg:Nat->GV}
structure xG (P:Program) (tb:TB) {gs:By} (w0:g_ gs) (ih:CH) (all:List Oper) (n:Nat) (S:Nat->GF) (HH:Nat->GH) (gg:Nat->GV):Prop where
 tab:gY P tb
 call:∀w0:g_ gs,sV P w0 ih
 ops:all.all (IX n)=true
 chk:Vb tb all (pJ all)
 trc:Trc tb ih all all S HH gg
 vrs:∀k ok h v,all[k]? = some ok->oG ok.op=true->ZZ (S k) ok.op=some h->(HH k).ver h=some v->
  (∀j oj,j<k->all[j]? = some oj->fV oj.op=true->before (pJ all) k j=false->(HH j).ver h=some v)∧(∀j oj,k<j->all[j]? = some oj->fV oj.op=true->before (pJ all) j k=false->(HH (j+1)).ver h=some v)
 chain:∃ρs:Nat->fQ,(∀i,i<=all.length->∃a w,iI w0 (ρs i) (HH i) w∧lQ (ρs i) n (S i) a)∧∀i,i<all.length->(ρs i).le (ρs (i+1))
theorem xG.ghost (E:xG P tb w0 ih all n S HH gg) (i:Nat) (c:i<=all.length):∃b a w,iI w0 b (HH i) w∧lQ b n (S i) a:=
 let ⟨ρs,h,_⟩:=E.chain
 ⟨ρs i,h i c⟩
theorem xG.mono (E:xG P tb w0 ih all n S HH gg) (i:Nat) (a:i<all.length):(HH i).n<=(HH (i+1)).n:=by
 obtain⟨e,h,b⟩:=E.chain;obtain⟨_,_,c,_⟩:=h i (Nat.le_of_lt a);obtain⟨_,_,d,_⟩:=h (i+1) a;exact c.mono d (b i a)
theorem Po {a:Nat->fQ} {m:Nat} (h:∀i,i<m->(a i).le (a (i+1))) {i:Nat}:∀{j:Nat},i<=j->j<=m->(a i).le (a j)
  | 0, h1, _ => by
      have : i = 0 := by omega
      subst this;exact fQ.le_refl _
  | j + 1, h1, hj => by
    by_cases e:i=j+1
    · subst e;exact fQ.le_refl _
    · exact fQ.le_trans (Po h (by omega) (by omega)) (h j (by omega))
theorem xG.same (E:xG P tb w0 ih all n S HH gg) {i j:Nat} (b:i<=j) (u:j<=all.length) {h v:Nat} (q:(HH i).ver h=some v) (r:(HH j).ver h=some v):(HH i).get h=(HH j).get h:=by
 obtain⟨J,s,e⟩:=E.chain;have A:=Po e b u;obtain⟨_,K,l,_⟩:=s i (by omega);obtain⟨_,L,m,_⟩:=s j u;have a:∀{k:Nat},(HH k).ver h=some v->∃o,(HH k).get h=some o:=λ{k} hv=>by
  obtain⟨p,B,_⟩:=aH.1 (show ob ((HH k).t.get h) _=some v from hv);exact⟨p.2,by unfold GH.get;rw[B];rfl⟩
 obtain⟨H,f⟩:=a q;obtain⟨I,g⟩:=a r;obtain⟨C,c,_⟩:=l.live h H f;obtain⟨D,d,_⟩:=m.live h I g;obtain⟨F,w,_,y⟩:=l.vers h v C q c;obtain⟨G,x,_,z⟩:=m.vers h v D r d;have:=A _ _ w;rw[x]at this;cases this;rw[y,z]
theorem xG.op (E:xG P tb w0 ih all n S HH gg) {k:Nat} {o:Oper} (a:all[k]? = some o):IX n o=true:=zA5.1 E.ops o (zA1 a)
theorem xG.quiet (E:xG P tb w0 ih all n S HH gg) {k:Nat} {o:Oper} (b:all[k]? = some o) (c:fV o.op=false):HH (k+1)=HH k:=by
 obtain⟨e,a,w,R,F⟩:=E.ghost k (Nat.le_of_lt (bQ b));rcases JW E.tab (E.call w0) (E.op b) F R (E.trc.st k o b)with⟨_,d⟩|⟨_,_,h⟩
 ·rcases d with⟨_,_,_,h,_⟩|⟨_,_,h,_⟩|⟨_,_,h,_⟩|⟨h,_⟩
  ·exact h
  ·exact h
  ·exact h
  ·rw[c]at h;cases h
 ·exact h
theorem xG.floats (E:xG P tb w0 ih all n S HH gg) {k:Nat} {o:Oper} (c:all[k]? = some o) (d:isFloat o.op=true):HH (k+1)=HH k∨∃b,HH (k+1)=(HH k).new (.cells b):=by
 obtain⟨e,a,w,R,F⟩:=E.ghost k (Nat.le_of_lt (bQ c));rcases MF (P:=P) E.tab d F (E.trc.st k o c)with⟨_,_,h⟩|⟨_,b,_,_,h,_⟩
 ·exact .inl h
 ·exact .inr ⟨b,h⟩
theorem Xf {H:GH} {o:GO} (h:H=H.new o):False:=by
 have:H.n=H.n+1:=congrArg GH.n h;omega
theorem UE {H:GH} {c a:List GV} (h:H.new (.cells c)=H.new (.cells a)):c=a:=by
 have b:=qU H (.cells c) H.n;have d:=qU H (.cells a) H.n;rw[if_pos Z]at b d;rw[h,d]at b;cases b;rfl
theorem xG.mono' (E:xG P tb w0 ih all n S HH gg) {i j:Nat} (h:i<=j) (a:j<=all.length):(HH i).n<=(HH j).n:=Qa E.mono h a
theorem xG.apart (E:xG P tb w0 ih all n S HH gg) {i j:Nat} {b c:List GV} (k:i<all.length) (l:j<all.length) (d:HH (i+1)=(HH i).new (.cells b)) (f:HH (j+1)=(HH j).new (.cells c)) (h:(HH i).n=(HH j).n):i=j:=by
 have e:(HH (i+1)).n=(HH i).n+1:=by rw[d];rfl
 have g:(HH (j+1)).n=(HH j).n+1:=by rw[f];rfl
 rcases Nat.lt_trichotomy i j with a|a|a
 ·have:=E.mono' (i:=i+1) (j:=j) (by omega) (by omega);omega
 ·exact a
 ·have:=E.mono' (i:=j+1) (j:=i) (by omega) (by omega);omega
structure xV {gs:By} (w0:g_ gs) (ρb:fQ) (n:Nat) (all:List Oper) (S0:GF) (HH:Nat->GH) (gg:Nat->GV) (D:Nat->Bool) (a:Act) (w:World) (t:Nat) (ρ pm:fQ):Prop where
 tm:t<=all.length
 lou:∀j o,all[j]? = some o->rU o.op=true->(D j=true↔j<t)
 flo:∀j o,all[j]? = some o->isFloat o.op=true->j<t->D j=true
 rel:iI w0 ρ (HH t) w
 up:ρb.le ρ
 defers:a.defers=[]
 size:a.tmps.size=n
 slot:∀s g,SlD all S0 gg D s g->Rl (HC ρ pm) g (a.eval (.tmp s))
 pend:∀i o cs,all[i]? = some o->isFloat o.op=true->HH (i+1)=(HH i).new (.cells cs)->t<=i->D i=true->∃l,pm (HH i).n=some l∧w0.mine l.b∧¬Vf ρ (HH t) l.b∧w.heap[l.b]? = some l.x∧Ag (HC ρ pm) w l (.cells cs)∧l.o = .cells cs
 only:∀h l,pm h=some l->∃i o cs,all[i]? = some o∧isFloat o.op=true∧HH (i+1)=(HH i).new (.cells cs)∧t<=i∧D i=true∧h=(HH i).n
 inj:∀h h' l l',pm h=some l->pm h'=some l'->l.b=l'.b->h=h'
variable {D:Nat->Bool} {a:Act} {w:World} {t:Nat} {ρ pm ρb:fQ}
theorem xV.low (E:xG P tb w0 ih all n S HH gg) (I:xV w0 ρb n all (S 0) HH gg D a w t ρ pm) {h:Nat} {l:Mm} (d:pm h=some l):(HH t).n<=h:=by
 obtain⟨i,o,e,b,_,_,c,_,rfl⟩:=I.only h l d;exact E.mono' c (Nat.le_of_lt (bQ b))
theorem xV.adopt (E:xG P tb w0 ih all n S HH gg) (I:xV w0 ρb n all (S 0) HH gg D a w t ρ pm) {o:Oper} (Y:all[t]? = some o) (hl:rU o.op=false) (hf:isFloat o.op=true->D t=true):
  ∃c b,xV w0 ρb n all (S 0) HH gg D a w (t+1) c b∧HC c b=HC ρ pm:=by
 have ht:=bQ Y;have G:∀j o,all[j]? = some o->rU o.op=true->(D j=true↔j<t+1):=λj oj N Q=>by
  have q:j≠t:=λe=>by subst e;rw[Y]at N;cases N;rw[hl]at Q;cases Q
  rw[I.lou j oj N Q];omega
 have C:∀j o,all[j]? = some o->isFloat o.op=true->j<t+1->D j=true:=λj oj N ab ah=>by
  by_cases e:j=t
  ·subst e;rw[Y]at N;cases N;exact hf ab
  ·exact I.flo j oj N ab (by omega)
 -- nothing is taken up
 have H:HH (t+1)=HH t->∃c b,xV w0 ρb n all (S 0) HH gg D a w (t+1) c b∧HC c b=HC ρ pm:=λe=>
  ⟨ρ,pm,⟨ht,G,C,by rw[e];exact I.rel,I.up,I.defers,I.size,I.slot,λi W B f r y h4 K=>by rw[e];exact I.pend i W B f r y (by omega) K,λh l hp=>by
   obtain⟨i,W,B,f,r,y,h4,K,h6⟩:=I.only h l hp;refine⟨i,W,B,f,r,y,?_,K,h6⟩
   by_cases e':i=t
   ·subst e';rw[e]at y;exact(Xf y).elim
   ·omega,I.inj⟩,rfl⟩
 cases z:isFloat o.op with
 |false=>exact H (E.quiet Y (by simpa [rU,z]using hl))
 | true =>
  rcases E.floats Y z with e|⟨B,e⟩
  ·exact H e
  obtain⟨l,hp,U,M,hx,ad,ag⟩:=I.pend t o B Y z e (zAg _) (hf z);have m:ρ (HH t).n=none:=I.rel.fresh _ (zAg _);let c:=ρ.upd (HH t).n l;let b:fQ:=λh=>if h=(HH t).n then none else pm h;have k:c (HH t).n=some l:=by simp[c,fQ.upd]
  have u:∀h,h≠(HH t).n->c h=ρ h:=λh hh=>by simp[c,fQ.upd,hh]
  have O:HC c b=HC ρ pm:=by
   funext h;by_cases d:h=(HH t).n
   ·subst d;rw[yF k,yE m,hp]
   ·unfold HC;rw[u h d];simp[b,d]
  have hn:(HH (t+1)).n=(HH t).n+1:=by rw[e];rfl
  -- what the object holds is older
  have aa:∀{g:GV} {v v0:Value} {x:fQ},(∀h l,x h=some l->h<(HH (t+1)).n)->Rl (HC ρ pm) g v->Rl x g v0->Rl c g v:=λ{g v v0 x} hlow f h0=>by
   refine Vv (λh l0 l1 e0 X=> ?_) f h0;have ah:=hlow h l0 e0;by_cases d:h=(HH t).n
   ·subst d;rw[yE m,hp]at X;rw[k];exact X
   ·rw[u h d];cases hr:ρ h with
    |some l2=>rw[yF hr]at X;exact X
    |none=>
     rw[yE hr]at X;have:=I.low E X;omega
  obtain⟨x,a0,wg,R0,F0⟩:=E.ghost (t+1) ht;have R:∀h l,x h=some l->h<(HH (t+1)).n:=λh l hl=>by
   rcases zAs h (HH (t+1)).n with J|J
   ·exact J
   ·rw[R0.fresh h J]at hl;cases hl
  have L:(HH (t+1)).get (HH t).n=some (.cells B):=by rw[e,qU,if_pos Z]
  obtain⟨l0,_,_,ac⟩:=R0.live _ _ L;obtain⟨ai,T0,q1,q2,q3,q4⟩:=ac;have V:Ag c w l (.cells B):=by
   obtain⟨ae,T,p1,p2,p3,p4⟩:=ad;refine⟨ae,T,p1,p2,p3,λi g F=> ?_⟩
   obtain⟨v,r1,r2,r3⟩:=p4 i g F;obtain⟨v0,_,s2,_⟩:=q4 i g F;exact⟨v,r1,aa R r2 s2,r3⟩
  obtain⟨af,R'⟩:=I.rel.new (o:= .cells B) (l:=l) I.rel.ext (λh o' l' F p=>⟨rfl,λeb=>M ⟨h,o',l',F,p,eb⟩⟩) U V hx ag;rw[<-e]at R';refine⟨c,b,⟨ht,G,C,R',fQ.le_trans I.up af,I.defers,I.size,λs g hs=>by rw[O];exact I.slot s g hs,λi W ci f r y h4 K=> ?_,λh l1 A=> ?_,λh J l1 l2 f r hb=> ?_⟩,O⟩
  ·obtain⟨li,a1,a2,a3,a4,a5,a6⟩:=I.pend i W ci f r y (by omega) K;have q:(HH i).n≠(HH t).n:=λd=>by
    have:=E.apart (bQ f) ht y e d;omega
   refine⟨li,by simp[b,q,a1],a2,?_,a4,by rw[O];exact a5,a6⟩
   rintro⟨h,o',l',F,p,eb⟩;rw[e,qU]at F;by_cases d:h=(HH t).n
   ·subst d;rw[k]at p;cases p;exact q (I.inj _ _ _ _ a1 hp eb.symm)
   ·rw[if_neg d]at F;rw[u h d]at p;exact a3 ⟨h,o',l',F,p,eb⟩
  ·have q:h≠(HH t).n:=λd=>by subst d;simp[b]at A
   have A:pm h=some l1:=by simpa [b,q]using A
   obtain⟨i,W,ci,f,r,y,h4,K,h6⟩:=I.only h l1 A;refine⟨i,W,ci,f,r,y,?_,K,h6⟩
   by_cases e':i=t
   ·subst e';exact absurd h6 q
   ·omega
  ·have f:pm h=some l1:=by
    by_cases d:h=(HH t).n
    ·simp[b,d]at f
    ·simpa [b,d]using f
   have r:pm J=some l2:=by
    by_cases d:J=(HH t).n
    ·simp[b,d]at r
    ·simpa [b,d]using r
   exact I.inj h J l1 l2 f r hb
theorem xV.adoptTo (E:xG P tb w0 ih all n S HH gg):∀(d t k:Nat) (ρ pm:fQ),xV w0 ρb n all (S 0) HH gg D a w t ρ pm->t+d=k->k<=all.length->(∀j o,t<=j->j<k->all[j]? = some o->rU o.op=false∧(isFloat o.op=true->D j=true))->
  ∃c b,xV w0 ρb n all (S 0) HH gg D a w k c b∧HC c b=HC ρ pm
 |0,t,k,ρ,pm,I,hd,hk,_=>by
  have:t=k:=by omega
  subst this;exact⟨ρ,pm,I,rfl⟩
 |d+1,t,k,ρ,pm,I,hd,hk,h=>by
  have p:all[t]? = some all[t]:=zA2 (by omega);obtain⟨m,e⟩:=h t _ (zAg _) (by omega) p;obtain⟨i,f,q,s⟩:=I.adopt E p m e;obtain⟨l,g,r,u⟩:=xV.adoptTo E d (t+1) k i f q (by omega) hk (λj o m e=>h j o (by omega) e);exact⟨l,g,r,by rw[u,s]⟩
def Cl (all:List Oper) (D:Nat->Bool):Prop:=∀j k,D j=true->before (pJ all) j k=true->k<all.length->D k=true
structure QD (all:List Oper) (D:Nat->Bool) (k:Nat) (o:Oper):Prop where
 get:all[k]? = some o
 undone:D k=false
 past:∀j,before (pJ all) k j=true->j<all.length->D j=true
theorem QD.behind (C:Vb tb all (pJ all)) (c:Cl all D) {k:Nat} {o:Oper} (e:QD all D k o) {j:Nat} {b:Oper} (h:all[j]? = some b) (g:D j=true) (d:k<j):o.apart all.toArray b=true∧KY tb o.op b.op=true:=by
 cases f:before (pJ all) j k with
 |false=>exact C.ind j k b o h e.get d f
 |true=>
  have:=c j k g f (bQ e.get);rw[e.undone]at this;cases this
theorem QD.ahead (C:Vb tb all (pJ all)) {k:Nat} {o:Oper} (f:QD all D k o) {j:Nat} {b:Oper} (e:all[j]? = some b) (c:j<k):D j=true∨b.apart all.toArray o=true∧KY tb b.op o.op=true:=by
 cases d:before (pJ all) k j with
 |true=>exact .inl (f.past j d (bQ e))
 |false=>exact .inr (C.ind k j o b f.get e c d)
theorem QD.look (E:xG P tb w0 ih all n S HH gg) (q:Cl all D) {k:Nat} {o:Oper} (p:QD all D k o) {s:Nat} {g:GV} (u:s∈o.looksAt all.toArray) (y:Gs (S k) s=some g):SlD all (S 0) gg D s g:=by
 have b:∀j c,D j=true->all[j]? = some c->c.dst=some s->j<k:=λj c d f e=>by
  rcases Nat.lt_trichotomy j k with h|h|h
  ·exact h
  ·subst h;rw[p.undone]at d;cases d
  ·obtain⟨l,_⟩:=p.behind E.chk q f d h;exact absurd u ((Oper.apart_spec l).2.2 s e)
 rcases Ly E.trc k (Nat.le_of_lt (bQ p.get)) y with⟨i,z,l,m,r,v,x⟩|⟨l,m⟩
 ·refine .inl ⟨i,z,?_,m,r,v,λj c d f e=> ?_⟩
  ·rcases p.ahead E.chk m l with h|⟨h,_⟩
   ·exact h
   ·exact absurd u ((Oper.apart_spec h).1 s r)
  ·have:=b j c d f e;rcases zAs i j with h|h
   ·exact absurd e (x j c h this f)
   ·exact h
 ·exact .inr ⟨λj c d f e=>l j c (b j c d f e) f e,m⟩
theorem QD.slot (C:Vb tb all (pJ all)) (F:Cl all D) {K:GF} {k:Nat} {o:Oper} (y:QD all D k o) (x:∀d,o.dst=some d->d<n) (I:a.tmps.size=n) {z u:fQ} (G:z.le u) (q:∀s g,SlD all K gg D s g->Rl z g (a.eval (.tmp s))) {v:Value} (Q:Rl u (gg k) v):
  ∀s g,SlD all K gg (ins D k) s g->Rl u g ((a.put o.dst v).eval (.tmp s)):=λs g L=>by
 have c:∀j r,D j=true->all[j]? = some r->o.dst=some s->r.dst=some s->j<k:=λj r m O f p=>by
  rcases Nat.lt_trichotomy j k with h|h|h
  ·exact h
  ·subst h;rw[y.undone]at m;cases m
  ·obtain⟨b,_⟩:=y.behind C F O m h;exact absurd p ((Oper.apart_spec b).2.1 s f)
 by_cases f:o.dst=some s
 ·have N:gg k=g:=by
   rcases L with⟨i,J,b,l,A,B,E⟩|⟨b,_⟩
   ·have R:=E k o (Ct D k) y.get f;by_cases e:i=k
    ·subst e;exact B
    ·rw[BE e]at b;have:=c i J b l f A;omega
   ·exact absurd f (b k o (Ct D k) y.get)
  rw[f,<-N];have H:=x s f;have:(a.put (some s) v).eval (.tmp s)=v:=by simp[Act.put,Act.eval,I,H]
  rw[this];exact Q
 ·have M:(a.put o.dst v).eval (.tmp s)=a.eval (.tmp s):=Act.eval_put λd p e=>by cases e;exact f p
  rw[M];refine(q s g ?_).le G;rcases L with⟨i,J,b,l,A,B,E⟩|⟨b,l⟩
  ·have e:i≠k:=λe=>by subst e;rw[y.get]at l;cases l;exact f A
   rw[BE e]at b;exact .inl ⟨i,J,b,l,A,B,λj r m=>E j r (Cs m)⟩
  ·exact .inr ⟨λj r m=>b j r (Cs m),l⟩
theorem Gl (a:Act) (d:Option Tmp) (v:Value):(a.put d v).defers=a.defers∧(a.put d v).tmps.size=a.tmps.size:=by
 cases d with
 |none=>exact⟨rfl,rfl⟩
 |some d=>exact⟨rfl,by simp[Act.put]⟩
theorem xV.plain (E:xG P tb w0 ih all n S HH gg) (u:Cl all D) (I:xV w0 ρb n all (S 0) HH gg D a w t ρ pm) {k:Nat} {o:Oper} (q:QD all D k o) (F:rU o.op=false) (C:isFloat o.op=true->HH (k+1)=HH k) {v:Value} (H:Rl (HC ρ pm) (gg k) v):
  xV w0 ρb n all (S 0) HH gg (ins D k) (a.put o.dst v) w t ρ pm:=by
 obtain⟨_,f,_⟩:=uU (E.op q.get);obtain⟨J,K⟩:=Gl a o.dst v;refine⟨I.tm,λj A g b=> ?_,λj A g x y=>Cs (I.flo j A g x y),I.rel,I.up,by rw[J];exact I.defers,by rw[K];exact I.size,q.slot E.chk u f I.size (fQ.le_refl _) I.slot H,λi z r c m d s p=> ?_,λh l G=> ?_,I.inj⟩
 ·have e:j≠k:=λe=>by subst e;rw[q.get]at g;cases g;rw[F]at b;cases b
  rw[BE e];exact I.lou j A g b
 ·have e:i≠k:=λe=>by
   subst e;rw[q.get]at c;cases c;rw[C m]at d;exact Xf d
  rw[BE e]at p;exact I.pend i z r c m d s p
 ·obtain⟨i,z,r,c,m,d,s,p,B⟩:=I.only h l G;exact⟨i,z,r,c,m,d,s,Cs p,B⟩
def Np (all:List Oper) (D:Nat->Bool) (t:Nat):Prop:=t=0∨∃o,all[t - 1]? = some o∧rU o.op=true∧D (t - 1)=true
theorem Np.ins {k:Nat} (h:Np all D t):Np all (ins D k) t:=by
 rcases h with h|⟨o,b,c,d⟩
 ·exact .inl h
 ·exact .inr ⟨o,b,c,Cs d⟩
theorem Gk {o:Op} (h:pureOp tb o=true):fV o=false:=by
 unfold pureOp at h;split at h<;>first|rfl|cases h
theorem Hj {o:Op} (h:isFloat o=true):fV o=true:=by
 unfold isFloat at h;split at h<;>first|rfl|cases h
theorem KQ {o:Op} (h:isFloat o=true):pureOp tb o=false:=by
 cases b:pureOp tb o with
 |false=>rfl
 |true=>have:=Gk b;rw[Hj h]at this;cases this
theorem xV.reach (E:xG P tb w0 ih all n S HH gg) (u:Cl all D) (I:xV w0 ρb n all (S 0) HH gg D a w t ρ pm) (i:Np all D t) {k:Nat} {o:Oper} (r:QD all D k o) (z:pureOp tb o.op=false) (B:isFloat o.op=false) (m:oG o.op=false):
  ∃q p,xV w0 ρb n all (S 0) HH gg D a w k q p∧HC q p=HC ρ pm:=by
 have F:=bQ r.get;have C:t<=k:=by
  rcases i with h|⟨d,x,f,s⟩
  ·omega
  ·rcases zAs (t - 1) k with h|h
   ·omega
   ·exfalso;by_cases e:t - 1=k
    ·rw[e,r.undone]at s;cases s
    ·obtain⟨_,A⟩:=r.behind E.chk u x s (by omega);simp only[rU,zA7,Bool.not_eq_true']at f;have:pureOp tb d.op=false:=by
      cases v:pureOp tb d.op with
      |false=>rfl
      |true=>have:=Gk v;rw[f.1]at this;cases this
     have c:oG d.op=false:=by
      cases v:oG d.op with
      |false=>rfl
      |true=>rw[Cy v]at f;cases f.1
     simp[KY,z,this,f.1,f.2,m,c]at A
 refine I.adoptTo E (k - t) t k ρ pm (by omega) (by omega) λj d x f y=> ?_;have g:D j=true∨fV d.op=false∨pureOp tb d.op=true:=by
  rcases r.ahead E.chk y f with h|⟨_,h⟩
  ·exact .inl h
  ·simp only[KY,z,B,m,Bool.or_false,Bool.and_false,zB6,zA7,Bool.not_eq_true']at h;rcases h with(h|h)|h
   ·exact .inr (.inr h)
   ·exact .inr (.inl h.1)
   ·exact .inr (.inl (Cy h.1))
 refine⟨?_,λl=> ?_⟩
 ·cases c:rU d.op with
  |false=>rfl
  |true=>
   exfalso;have b:=c;simp only[rU,zA7,Bool.not_eq_true']at b;rcases g with h|h|h
   ·have:=(I.lou j d y c).1 h;omega
   ·rw[b.1]at h;cases h
   ·have:=Gk h;rw[b.1]at this;cases this
 ·rcases g with h|h|h
  ·exact h
  ·rw[Hj l]at h;cases h
  ·rw[KQ l]at h;cases h
theorem xV.frame (E:xG P tb w0 ih all n S HH gg) (c:Cl all D) (I:xV w0 ρb n all (S 0) HH gg D a w t ρ pm) {k:Nat} {o:Oper} (e:QD all D k o):lQ (HC ρ pm) n (EP (S k) (o.looksAt all.toArray)) a:=
 ⟨I.defers,I.size,λs g b=>by
  rw[DI]at b;by_cases d:s∈o.looksAt all.toArray
  ·rw[if_pos d]at b;exact I.slot s g (e.look E c d b)
  ·rw[if_neg d]at b;cases b⟩
theorem xV.frame' (E:xG P tb w0 ih all n S HH gg) (e:Cl all D) {k:Nat} (I:xV w0 ρb n all (S 0) HH gg D a w k ρ pm) {o:Oper} (i:QD all D k o):lQ ρ n (EP (S k) (o.looksAt all.toArray)) a:=by
 have F:=I.frame E e i;obtain⟨u,v,z,p,m⟩:=E.ghost k (Nat.le_of_lt (bQ i.get));refine⟨F.defers,F.size,λs g b=> ?_⟩
 have q:=F.slot s g b;rw[DI]at b;by_cases j:s∈o.looksAt all.toArray
 ·rw[if_pos j]at b;refine Vv (λh x l f d=> ?_) q (m.slot s g b);cases c:ρ h with
  |some y=>rw[yF c]at d;exact d
  |none=>
   rw[yE c]at d;have r:=I.low E d;rw[p.fresh h r]at f;cases f
 ·rw[if_neg j]at b;cases b
theorem xG.st (E:xG P tb w0 ih all n S HH gg) {k:Nat} {o:Oper} (b:all[k]? = some o):Gr tb ih all o (EP (S k) (o.looksAt all.toArray)) (HH k)=some (gg k,HH (k+1)):=by
 rw[<-E.trc.st k o b];exact Q_ λs c=>by rw[DI,if_pos c]
theorem xV.loads (E:xG P tb w0 ih all n S HH gg) (N:Cl all D) (I:xV w0 ρb n all (S 0) HH gg D a w t ρ pm) (s:Np all D t) {k:Nat} {o:Oper} (z:QD all D k o) (c:oG o.op=true) {h:Nat} {W:GO} (hh:ZZ (S k) o.op=some h) (i:(HH k).get h=some W):
    ∃p K J,xV w0 ρb n all (S 0) HH gg D a w p K J∧HC K J=HC ρ pm∧(HH p).get h=some W:=by
  have hk:=bQ z.get;have hq:=Cy c;have ae:pureOp tb o.op=false:=by cases Q:o.op<;>rw[Q]at c<;>first|rfl|cases c
  have aa:isFloat o.op=false:=by cases Q:o.op<;>rw[Q]at c<;>first|rfl|cases c
  obtain⟨v,V⟩:∃v,(HH k).ver h=some v:=by
    obtain⟨p,hp,_⟩:=aH.1 (show Gx.ob ((HH k).t.get h) _=some W from i);exact⟨p.1,by unfold GH.ver;rw[hp];rfl⟩
  obtain⟨v1,v2⟩:=E.vrs k o h v z.get c hh V;rcases zAs k t with H|H
  · -- later than in the text
    rcases s with e|⟨b,y,B,q⟩
    · omega
    have F:=B;simp only[rU,zA7]at F;have r:before (pJ all) (t - 1) k=false:=by
      cases r:before (pJ all) (t - 1) k with
      |false=>rfl
      |true=>have:=N _ _ q r hk;rw[z.undone]at this;cases this
    have ab:t - 1≠k:=λe=>by rw[e,z.undone]at q;cases q
    have:=v2 (t - 1) b (by omega) y F.1 r;rw[show t - 1+1=t by omega]at this;exact⟨t,ρ,pm,I,rfl,by rw[<-E.same (Nat.le_of_lt H) I.tm V this];exact i⟩
  · -- earlier,or there
    let f:Nat->Oper->Bool:=λj b=>rU b.op||(isFloat b.op && !D j)
    have first:∀d g,g+d=k->t<=g->(∀j b,t<=j->j<g->all[j]? = some b->f j b=false)->∃p,t<=p∧p<=k∧(∀j b,t<=j->j<p->all[j]? = some b->f j b=false)∧(p=k∨∃A,all[p]? = some A∧f p A=true):=by
      intro d
      induction d with
      |zero=>exact λg e U h=>⟨g,U,by omega,h,.inl (by omega)⟩
      | succ d ihd =>
        intro g e U h;have m:all[g]? = some all[g]:=zA2 (by omega);cases hl:f g all[g]with
        |true=>exact⟨g,U,by omega,h,.inr ⟨_,m,hl⟩⟩
        | false =>
          refine ihd (g+1) (by omega) (by omega) λj b y B C=> ?_;by_cases e:j=g
          · subst e;rw[m]at C;cases C;exact hl
          · exact h j b y (by omega) C
    obtain⟨p,ac,ad,R,T⟩:=first (k - t) t (by omega) (zAg _) (λj b y B=>by omega)
    obtain⟨Y,X,I1,e1⟩:=I.adoptTo E (p - t) t p ρ pm (by omega) (by omega) λj b y B C=>by
      have q:=R j b y B C;simp only[f,Bool.or_eq_false_iff,Bool.and_eq_false_iff,Bool.not_eq_false']at q;exact ⟨q.1, λO => by
          rcases q.2 with L | L; · rw [O] at L; cases L
          · exact L⟩
    refine⟨p,Y,X,I1,e1,?_⟩
    rcases T with e|⟨A,l,x⟩
    · rw[e];exact i
    · simp only[f,zB6,zA7,Bool.not_eq_true']at x;have u:fV A.op=true:=by
        rcases x with h|h
        · simp only[rU,zA7]at h;exact h.1
        · exact Hj h.1
      have G:p<k:=by
        rcases zAs p k with h|h
        · exact h
        · have:p=k:=by omega
          subst this;rw[z.get]at l;cases l;rw[hq]at u;cases u
      have M:D p=false:=by
        rcases x with h|h
        · cases hd:D p with
          |false=>rfl
          |true=>have:=(I.lou p A l h).1 hd;omega
        · exact h.2
      have r:before (pJ all) k p=false:=by
        cases r:before (pJ all) k p with
        |false=>rfl
        |true=>have:=z.past p r (by omega);rw[M]at this;cases this
      rw[E.same (Nat.le_of_lt G) (Nat.le_of_lt hk) (v1 p A G l u r) V];exact i
theorem xV.step (E:xG P tb w0 ih all n S HH gg) (z:Cl all D) (I:xV w0 ρb n all (S 0) HH gg D a w t ρ pm) (m:Np all D t) {k:Nat} {o:Oper} (A:QD all D k o) {Q:Exit->Act->World->Prop} {K:Act->World->Prop}
  (hK:∀a' w' t' aY O,xV w0 ρb n all (S 0) HH gg (ins D k) a' w' t' aY O->Np all (ins D k) t'->K a' w'):Sx.wpOp P all.toArray Q k K a w:=by
 have hk:=bQ A.get;obtain⟨_,ai,aS⟩:=uU (E.op A.get);have am:=E.st A.get;unfold Sx.wpOp;simp only[List.getElem?_toArray,A.get];cases hp:pureOp tb o.op with
 | true =>
  have Y:rU o.op=false:=by simp[rU,Gk hp]
  have aE:isFloat o.op=false:=by
   cases hf:isFloat o.op with
   |false=>rfl
   |true=>rw[KQ hf]at hp;cases hp
  have F:=I.frame E z A;rcases Gd F am with⟨N,C⟩|⟨N,C,hH⟩
  ·rw[if_pos N];have aF:Lg o.op=true:=by
    rcases aS with h|⟨c,f,y,G⟩
    ·exact h
    ·obtain⟨a8,xs,ts⟩:=c;simp only at G;rw[y,G]at hp;cases hp
   obtain⟨_,v,hv,u⟩:=WN (P:=P) E.tab F hp aF C;left;simp only[Oper.wp,u w,Oper.upon];exact hK _ _ t ρ pm (I.plain E z A Y (λh=>by rw[aE]at h;cases h) hv) m.ins
  ·rw[if_neg (by rw[N];simp)];exact hK _ _ t ρ pm (I.plain E z A Y (λh=>by rw[aE]at h;cases h) (by rw[C];exact .un)) m.ins
 | false =>
  cases hf:isFloat o.op with
  | true =>
   have Y:rU o.op=false:=by simp[rU,hf]
   have F:=I.frame E z A;rcases MF (P:=P) E.tab hf F am with⟨N,C,hH⟩|⟨N,cs,a',T',hH,hC,a0,u⟩
   ·rw[if_neg (by rw[N];simp)];exact hK _ _ t ρ pm (I.plain E z A Y (λ_=>hH) (by rw[C];exact .un)) m.ins
   ·rw[if_pos N];obtain⟨V,hV,aI⟩:=u w;left;simp only[Oper.wp,hV,Oper.upon];have aJ:t<=k:=by
     rcases zAs k t with h|h
     ·have:=I.flo k o A.get hf h;rw[A.undone]at this;cases this
     ·exact h
    let l:Mm:=⟨w.heap.size,0,a'.size,.cells a' T',.cells cs⟩
    have e:Mh w (w.alloc (.cells a' T')):=(Below.refl _ _).alloc (zAg _) _;have aX:ρ (HH k).n=none:=I.rel.fresh _ (E.mono' aJ (by omega));have aT:pm (HH k).n=none:=by
     cases U:pm (HH k).n with
     |none=>rfl
     |some W=>
      obtain⟨i,L,R,y,G,h3,h4,h5,h6⟩:=I.only _ _ U;have:=E.apart (bQ y) hk h3 hH h6.symm;subst this;rw[A.undone]at h5;cases h5
    let O:=pm.upd (HH k).n l;have M:O (HH k).n=some l:=by simp[O,fQ.upd]
    have J:∀h,h≠(HH k).n->O h=pm h:=λh hh=>by simp[O,fQ.upd,hh]
    have ad:(HC ρ pm).le (HC ρ O):=λh W y=>by
     cases H:ρ h with
     |some l2=>rw[yF H]at y;rw[yF H];exact y
     |none=>
      rw[yE H]at y;rw[yE H,J h (λeh=>by subst eh;rw[aT]at y;cases y)];exact y
    have aP:HC ρ O (HH k).n=some l:=by rw[yE aX,M]
    obtain⟨p1,p2⟩:=Gl a o.dst V;have az:∀h W,pm h=some W->W.b<w.heap.size:=λh W y=>by
     obtain⟨i,L,R,q1,q2,q3,q4,q5,rfl⟩:=I.only _ _ y;obtain⟨l2,r1,_,_,r4,_⟩:=I.pend i L R q1 q2 q3 q4 q5;rw[y]at r1;cases r1;exact(zAh.1 r4).1
    refine hK _ _ t ρ O ⟨I.tm,λj oj hj ak=> ?_,λj oj hj ao aD=>Cs (I.flo j oj hj ao aD),I.rel.ext' e,I.up,by rw[p1];exact I.defers,by rw[p2];exact I.size,A.slot E.chk z ai I.size ad I.slot (aI _ aP),λi L R y G h3 h4 h5=> ?_,λh W ar=> ?_,λh h' W l2 y G hb=> ?_⟩ m.ins
    ·have e:j≠k:=λe=>by subst e;rw[A.get]at hj;cases hj;rw[Y]at ak;cases ak
     rw[BE e];exact I.lou j oj hj ak
    ·by_cases ei:i=k
     ·subst ei;rw[hH]at h3;have:=UE h3;subst this;refine⟨l,M,.inl I.rel.ext.size,?_,heap_alloc_new w _,⟨a',T',heap_alloc_new w _,rfl,by show 0+cs.length<=a'.size;omega,λj g C=> ?_⟩,rfl⟩
      ·rintro⟨h,o',l',C,ax,eb⟩;obtain⟨l2,r1,_,r3⟩:=I.rel.live h o' C;rw[ax]at r1;cases r1;have:=r3.lt;rw[eb]at this;exact absurd this (Nat.lt_irrefl _)
      ·obtain⟨x,hx,aU⟩:=hC.r.get C;rw[zAi]at hx;exact⟨x,by show a'[0+j]? = some x;simpa using hx,aU.le ad,NQ hC.one hx⟩
     ·rw[BE ei]at h5;obtain⟨W,a1,a2,a3,a4,a5,a6⟩:=I.pend i L R y G h3 h4 h5;have aR:(HH i).n≠(HH k).n:=λeh=>ei (E.apart (bQ y) hk h3 hH eh);have hb:=az _ _ a1;exact⟨W,by rw[J _ aR];exact a1,a2,a3,by rw[e.block _ hb];exact a4,a5.move ad (e.block _ hb),a6⟩
    ·by_cases eh:h=(HH k).n
     ·exact⟨k,o,cs,A.get,hf,hH,aJ,Ct D k,eh⟩
     ·rw[J h eh]at ar;obtain⟨i,L,R,q1,q2,q3,q4,q5,q6⟩:=I.only h W ar;exact⟨i,L,R,q1,q2,q3,q4,Cs q5,q6⟩
    ·by_cases eh:h=(HH k).n
     ·by_cases ah:h'=(HH k).n
      ·rw[eh,ah]
      ·rw[J h' ah]at G;subst eh;rw[M]at y;cases y;have:=az _ _ G;rw[<-hb]at this;exact absurd this (Nat.lt_irrefl _)
     ·rw[J h eh]at y;by_cases ah:h'=(HH k).n
      ·subst ah;rw[M]at G;cases G;have:=az _ _ y;rw[hb]at this;exact absurd this (Nat.lt_irrefl _)
      ·rw[J h' ah]at G;exact I.inj h h' W l2 y G hb
  | false =>
   cases aj:oG o.op with
   | true =>
    have Y:rU o.op=false:=by simp[rU,Cy aj]
    have F0:=I.frame E z A;rcases Gd F0 am with⟨N,C⟩|⟨N,C,hH⟩
    ·rw[if_pos N];have aG:∃T x,o.op = .load T x:=by
      cases ho:o.op<;>rw[ho]at aj<;>first|exact⟨_,_,rfl⟩|cases aj
     obtain⟨T,x,al⟩:=aG;rw[al]at C;obtain⟨va,aL,C⟩:=aH.1 (show ob (lD (EP (S k) (o.looksAt all.toArray)) x) _=some (gg k,HH (k+1))from C);obtain⟨g',av,aQ⟩:=aH.1 C;have eg:g'=gg k:=by
      have:=congrArg (λo=>o.map Prod.fst) (show some (g',HH k)=some (gg k,HH (k+1))from aQ);simpa using this
     rw[eg]at av;obtain⟨q,U,hc⟩:=aH.1 (show ob va.asP _=some (gg k)from av);obtain⟨cs,aO,hc⟩:=aH.1 hc;have aA:=jO.1 aO;have aW:∀s,x = .tmp s->s∈o.looksAt all.toArray:=λs e=>List.mem_append_left _ (List.mem_filterMap.2 ⟨.tmp s,by rw[al,e];simp[Op.operands],rfl⟩);have aM:lD (S k) x=some va:=by
      rw[<-aL];cases x with
      |tmp s=>
       show Gs (S k) s=Gs (EP (S k) (o.looksAt all.toArray)) s;rw[DI,if_pos (aW s Z)]
      |_=>rfl
     have hh:ZZ (S k) o.op=some q.1:=by
      rw[al];show ob (lD (S k) x) _=_;rw[aM];show ob va.asP _=_;rw[U];rfl
     obtain⟨p,ag,af,B,ap,aB⟩:=I.loads E z m A aj hh aA;have aK:=dN F0 aL;have aV:Rl ag va (a.eval x):=by
      rw[Fq U]at aK ⊢;obtain⟨l,Y,e⟩:=aK.ptr_inv;obtain⟨W,aC,_⟩:=B.rel.live _ _ aB;rw[<-ap,yF aC]at Y;cases Y;rw[e];exact .ptr _ aC
     have ay:CQ tb T va (HH p)=some (gg k):=by
      show ob va.asP _=_;rw[U];show ob ((HH p).cells q.1) _=_;rw[jO.2 aB];exact hc
     obtain⟨X,_,l,_,_,_,hX,u⟩:=LB (P:=P) E.tab B.rel aV ay;left;have H:(execOp a.eval o).run P w = .ok (.value X) w:=by
      have:=u w Z;obtain⟨d,op,ty,a9,a7,gd⟩:=o;simp only at al;subst al;simp[execOp,this]
     simp only[Oper.wp,H,Oper.upon];exact hK _ _ t ρ pm (I.plain E z A Y (λh=>by rw[hf]at h;cases h) (by rw[<-ap];exact hX.le HY)) m.ins
    ·rw[if_neg (by rw[N];simp)];exact hK _ _ t ρ pm (I.plain E z A Y (λh=>by rw[hf]at h;cases h) (by rw[C];exact .un)) m.ins
   |false=>
   obtain⟨ag,af,B,ap⟩:=I.reach E z m A hp hf aj;have F:=B.frame' E z A;cases ae:fV o.op with
   | false =>
    have Y:rU o.op=false:=by simp[rU,ae]
    have an:∀v,Rl ag (gg k) v->xV w0 ρb n all (S 0) HH gg (ins D k) (a.put o.dst v) w t ρ pm:=λv hv=>
     I.plain E z A Y (λh=>by rw[hf]at h;cases h) (by rw[<-ap];exact hv.le HY)
    rcases JW E.tab (E.call w0) (E.op A.get) F B.rel am with⟨N,hs⟩|⟨N,C,hH⟩
    ·rw[if_pos N];left;rcases hs with⟨_,_,_,_,v,hv,u⟩|⟨_,_,_,v,_,_,_,_,_,hv,u⟩|⟨_,_,_,v,hv,u⟩|⟨U,_⟩
     ·simp only[Oper.wp,u w,Oper.upon];exact hK _ _ t ρ pm (an v hv) m.ins
     ·simp only[Oper.wp,u w Z,Oper.upon];exact hK _ _ t ρ pm (an v hv) m.ins
     ·simp only[Oper.wp,u,Oper.upon];exact hK _ _ t ρ pm (an v hv) m.ins
     ·rw[ae]at U;cases U
    ·rw[if_neg (by rw[N];simp)];exact hK _ _ t ρ pm (an undef (by rw[C];exact .un)) m.ins
   | true =>
    have Y:rU o.op=true:=by simp[rU,ae,hf]
    have aq:∀(i:Nat) (L:Oper) (R:List GV),all[i]? = some L->isFloat L.op=true->i≠k:=λi L R y G e=>by
     subst e;rw[A.get]at y;cases y;rw[hf]at G;cases G
    have aw:∀j o,all[j]? = some o->rU o.op=true->(ins D k j=true↔j<k+1):=λj oj hj ak=>by
     by_cases e:j=k
     ·subst e;simp[Ct]
     ·rw[BE e,B.lou j oj hj ak];omega
    have au:∀j o,all[j]? = some o->isFloat o.op=true->j<k+1->ins D k j=true:=λj oj hj ao aD=>by
     have:=aq j oj [] hj ao;exact Cs (B.flo j oj hj ao (by omega))
    have aa:∀h l,af h=some l->∃i o cs,all[i]? = some o∧isFloat o.op=true∧HH (i+1)=(HH i).new (.cells cs)∧k+1<=i∧ins D k i=true∧h=(HH i).n:=λh l ar=>by
     obtain⟨i,L,R,q1,q2,q3,q4,q5,q6⟩:=B.only h l ar;have:=aq i L R q1 q2;exact⟨i,L,R,q1,q2,q3,by omega,Cs q5,q6⟩
    have ac:Np all (ins D k) (k+1):= .inr ⟨o,by simpa using A.get,Y,by simp[Ct]⟩;rcases JW E.tab (E.call B.rel.base) (E.op A.get) F B.rel.rebase am with⟨N,hs⟩|⟨N,C,hH⟩
    ·rw[if_pos N];left;rcases hs with⟨U,_⟩|⟨U,_⟩|⟨U,_⟩|⟨_,u⟩
     ·rw[ae]at U;cases U
     ·rw[ae]at U;cases U
     ·rw[ae]at U;cases U
     refine Le (u _ λaN w2 v ad R2 hv=>hK _ _ (k+1) aN af ?_ ac);obtain⟨R3,ab⟩:=B.rel.back R2;have hj:(HC ag af).le (HC aN af):=λh l y=>by
      cases H:ag h with
      |some l2=>rw[yF H]at y;cases y;exact yF (ad _ _ H)
      |none=>
       rw[yE H]at y;obtain⟨i,L,R,q1,q2,q3,q4,q5,rfl⟩:=aa h l y;rw[yE (R2.fresh _ (E.mono' q4 (Nat.le_of_lt (bQ q1))))];exact y
     obtain⟨p1,p2⟩:=Gl a o.dst v;refine⟨hk,aw,au,R3,fQ.le_trans B.up ad,by rw[p1];exact B.defers,by rw[p2];exact B.size,A.slot E.chk z ai B.size hj B.slot (hv.le HY),λi L R y G h3 h4 h5=> ?_,aa,B.inj⟩
     rw[BE (aq i L R y G)]at h5;obtain⟨W,a1,a2,a3,a4,a5,a6⟩:=B.pend i L R y G h3 (by omega) h5;have hb:W.b<w.heap.size:=(zAh.1 a4).1;refine⟨W,a1,a2,?_,by rw[ab _ hb a3];exact a4,a5.move hj (ab _ hb a3),a6⟩
     rintro⟨h,o',l',C,ax,eb⟩;obtain⟨l2,r1,r2,_⟩:=R2.live h o' C;rw[ax]at r1;cases r1;rw[eb]at r2;rcases r2 with r2|r2
     ·have:w.heap.size<=W.b:=r2;omega
     ·exact a3 r2
    ·rw[if_neg (by rw[N];simp)];obtain⟨p1,p2⟩:=Gl a o.dst undef;refine hK _ _ (k+1) ag af ⟨hk,aw,au,by rw[hH];exact B.rel,B.up,by rw[p1];exact B.defers,by rw[p2];exact B.size,A.slot E.chk z ai B.size (fQ.le_refl _) B.slot (by rw[C];exact .un),λi L R y G h3 h4 h5=> ?_,aa,B.inj⟩ ac;rw[BE (aq i L R y G)]at h5;rw[hH];exact B.pend i L R y G h3 (by omega) h5
theorem xV.done (E:xG P tb w0 ih all n S HH gg) (I:xV w0 ρb n all (S 0) HH gg D a w t ρ pm) (b:∀i,i<all.length->D i=true):∃f,ρb.le f∧iI w0 f (HH all.length) w∧lQ f n (S all.length) a:=by
 obtain⟨d,e,k,_⟩:=I.adoptTo E (all.length - t) t all.length ρ pm (by have:=I.tm;omega) (zAg _) λj q m p c=>by
  refine⟨?_,λ_=>b j p⟩
  cases B:rU q.op with
  |false=>rfl
  |true=>have:=(I.lou j q c B).1 (b j p);omega
 refine⟨d,k.up,k.rel,k.defers,k.size,λs g A=> ?_⟩
 have r:∀h,e h=none:=λh=>by
  cases C:e h with
  |none=>rfl
  |some l=>
   obtain⟨i,H,G,m,_,_,u,_⟩:=k.only h l C;have:=bQ m;omega
 have c:HC d e=d:=by
  funext h;unfold HC;rw[r];cases d h<;>rfl
 have F:SlD all (S 0) gg D s g:=by
  rcases Ly E.trc all.length (zAg _) A with⟨i,o,m,p,v,u,x⟩|⟨m,p⟩
  ·refine .inl ⟨i,o,b i m,p,v,u,λj q y c z=> ?_⟩;rcases zAs i j with h|h
   ·exact absurd z (x j q h (bQ c) c)
   ·exact h
  ·exact .inr ⟨λj q y c=>m j q (bQ c) c,p⟩
 have:=k.slot s g F;rwa[c]at this
theorem Un (E:xG P tb w0 ih all n S HH gg) {Q:Exit->Act->World->Prop} (hQ:∀c K M,ρb.le c->iI w0 c (HH all.length) M->lQ c n (S all.length) K->Q .normal K M):
  ∀(d:Nat) (L:List Nat) (b:Array Bool) (a:Act) (w:World) (t:Nat) (ρ pm:fQ),L.length<=d->b.size=all.length->(∀i,i<all.length->b.getD i false=false->i∈L)->Cl all (λj=>b.getD j false)->
  xV w0 ρb n all (S 0) HH gg (λj=>b.getD j false) a w t ρ pm->Np all (λj=>b.getD j false) t->Sx.wpAny P .any all.toArray Q d b a w:=by
 intro d
 induction d with
 | zero =>
  intro L b a w t ρ pm G J g m I h;have hL:L=[]:=zAl (by omega);subst hL;have f:∀i,i<all.length->b.getD i false=true:=λi r=>by
   cases u:b.getD i false with
   |true=>rfl
   |false=>have:=g i r u;simp at this
  refine⟨?_,?_⟩
  ·rw[List.eq_nil_iff_forall_not_mem];intro i r;obtain⟨l,o,s,_⟩:=mem_ready.1 r;have W:i<all.length:=by have:=(zAh.1 s).1;simpa using this
   have:=f i W;have hs:i<b.size:=by omega
   simp[hs]at this l;rw[l]at this;cases this
  ·obtain⟨c,l,N,O⟩:=I.done E f;exact hQ c a w l N O
 | succ d ihf =>
  intro L b a w t ρ pm G J g m I h;refine⟨λY=> ?_,λk hk=> ?_⟩
  ·have f:∀i,i<all.length->b.getD i false=true:=by
    intro i
    induction i using Nat.strongRecOn with
    | ind i ihi =>
     intro r;cases u:b.getD i false with
     |true=>rfl
     | false =>
      exfalso;have s:all[i]? = some all[i]:=zA2 r;have H:i∈Region.ready .any all.toArray b:=by
       refine mem_ready.2 ⟨?_,all[i],by simp,λe R v=> ?_⟩
       ·have hs:i<b.size:=by omega
        simp[hs]at u ⊢;exact u
       ·have U:e.on∈vK all[i]:=List.mem_map.2 ⟨e,List.mem_filter.2 ⟨by simpa using R,v⟩,rfl⟩;have:=(E.chk.edge i _ s e.on U).1;exact ihi e.on this (by omega)
      rw[Y]at H;simp at H
   obtain⟨c,l,N,O⟩:=I.done E f;exact hQ c a w l N O
  ·obtain⟨l,o,X,q⟩:=mem_ready.1 hk;have s:all[k]? = some o:=by simpa using X
   have V:k<all.length:=bQ s;have F:k<b.size:=by omega
   have x:b.getD k false=false:=by simp[F]at l ⊢;exact l
   have hr:QD all (λj=>b.getD j false) k o:=by
    refine⟨s,x,λj v B=> ?_⟩
    obtain⟨_,e,R,hej⟩:=E.chk.trans k o s j v B;obtain⟨ed,T,rfl⟩:=List.mem_map.1 R;obtain⟨z,A⟩:=List.mem_filter.1 T;have hl:=q ed (by simpa using z) A;rcases hej with rfl|hej
    ·exact hl
    ·exact m _ _ hl hej B
   have y:(λj=>(b.setIfInBounds k true).getD j false)=ins (λj=>b.getD j false) k:=by
    funext j;by_cases e:j=k
    ·subst e;rw[Ct];simp[F]
    ·rw[BE e];exact getD_set_ne false (Ne.symm e)
   refine I.step E m h hr λK M t' c aa I' p=> ?_;refine ihf (L.erase k) _ K M t' c aa ?_ (by simp[J]) (λi r u=> ?_) ?_ (by rw[y];exact I') (by rw[y];exact p)
   ·have hm:=g k V x;rw[List.length_erase_of_mem hm];omega
   ·have e:i≠k:=λe=>by
     subst e;have:=congrFun y i;rw[Ct]at this;rw[u]at this;cases this
    have:b.getD i false=false:=by
     have:=congrFun y i;rw[BE e]at this;rw[<-this];exact u
    exact(List.mem_erase_of_ne e).2 (g i r this)
   ·rw[y];intro j k' B v C;by_cases e:j=k
    ·subst e;exact Cs (hr.past k' v C)
    ·rw[BE e]at B;exact Cs (m j k' B v C)
theorem NO (hG:gY P tb) (e:∀w0:g_ gs,sV P w0 ih) (hm:P.follows .mixedOrders=true) {b:List Oper} {id:Nat} (f:b.all (IX n)=true) (N:chkF tb b (pJ b)=true) {k:GS->RS} {s:GS} {p:OW} {ρ:fQ} {a:Act} {w:World} {Q:Exit->Act->World->Prop} (F:lQ ρ n s.σ a) (R:iI w0 ρ s.H w) (h:(GE tb ih b k b s=some p∧Gi b oG=true)∨evW tb ih b (pJ b) k b 0 [] [] s=some p)
  (r:∀G m I L,k G=some p->ρ.le m->lQ m n G.σ I->iI w0 m G.H L->Q .normal I L):(Code.region id b.toArray true).wpr none P Q a w:=by
 have W:b.all kJ=true:=zA5.2 λo U=>(uU (zA5.1 f o U)).1;obtain⟨S,HH,gg,z,A,T,C,c⟩:∃S HH gg,S 0=s.σ∧HH 0=s.H∧Trc tb ih b b S HH gg∧(∀k y h v,b[k]? = some y->oG y.op=true->ZZ (S k) y.op=some h->(HH k).ver h=some v->
   (∀j u,j<k->b[j]? = some u->fV u.op=true->before (pJ b) k j=false->(HH j).ver h=some v)∧(∀j u,k<j->b[j]? = some u->fV u.op=true->before (pJ b) j k=false->(HH (j+1)).ver h=some v))∧k ⟨S b.length,HH b.length⟩=some p:=by
  rcases h with⟨h,ho⟩|h
  ·obtain⟨S,HH,gg,z,A,T,c⟩:=MB b s h;refine⟨S,HH,gg,z,A,T,λk y h v r K _ _=>⟨λj u O q x B=> ?_,λj u O q x B=> ?_⟩,c⟩
   ·rcases Ib ho r q K x with d|d
    ·rw[d]at B;cases B
    ·have:=((IL N).trans j u q k d (bQ r)).1;omega
   ·rcases Ib ho r q K x with d|d
    ·have:=((IL N).trans k y r j d (bQ q)).1;omega
    ·rw[d]at B;cases B
  ·obtain⟨S,HH,gg,z,A,T,V,c⟩:=JX b 0 [] [] s h;exact⟨S,HH,gg,z,A,T,λk y h v r K hh hv=>by have:=V.lo k y h v r K hh hv;simpa using this,c⟩
 rw[<-z]at F;rw[<-A]at R;have E:xG P tb w0 ih b n S HH gg:=⟨hG,e,f,IL N,T,C,MX hG (e w0) f T F R _ (zAg _)⟩
 have J:∀j,(Array.replicate b.length false).getD j false=false:=λj=>by
  by_cases h:j<b.length<;>simp[h]
 refine FZ W hm ?_;have Y:b.toArray.size=b.length:=by simp
 rw[Y];refine Un (ρb:=ρ) E (λm I L h0 d M=>r ⟨S b.length,HH b.length⟩ m I L c h0 M d) b.length (List.range b.length) _ a _ 0 ρ (λ_=>none) (by simp) (by simp) (λi hi _=>zAv.2 hi) (λj k' q=>by simp only[J]at q;cases q) ?_ (.inl Z);refine⟨Nat.zero_le _,λj o _ _=>by simp only[J];simp,λj o _ _ h=>absurd h (Nat.not_lt_zero j),R.ext' ((Below.refl _ _).drew),fQ.le_refl _,F.defers,F.size,λG g hs=> ?_,λi o cs _ _ _ _ h5=>(by simp only[J]at h5;cases h5),λh l X=>(by cases X),λh h' l l' X=>(by cases X)⟩
 rcases hs with⟨i,o,d,_⟩|⟨_,M⟩
 ·simp only[J]at d;cases d
 ·exact(F.slot G g M).le HY
end
def ID (c:TB) (n:Nat):Code->Bool
 | .skip | .exit _ | .ret=>true
 | .region _ ops dr=>ops.toList.all (IX n)&&(!dr||chkF c ops.toList (pJ ops.toList))
 | .seq a b=>ID c n a&&ID c n b
 | .cond _ a b=>ID c n a&&ID c n b
 | .block _ b=>ID c n b
 | .loop b=>ID c n b
 |_=>false
section
variable {P:Program} {G:GP} {tb:TB} {Fs:FT} {gs:By} {w0:g_ gs}
def Fg (P:Program) (c:Code) (Q:Exit->Act->World->Prop) (a:Act) (w:World):Prop:=
 ∀(b:Frame) (k:List Item) (d:List Frame),b.roundOf=(FR none).round->(FR none).fn b.fn->(FR none).room (d.length+1+0)->
  ∃e f g,Q e f g∧ArrivesIn (Machine.fenced P (FR none)) P (lone (b.atR a (.code c :: .inLoop c::k)) d w) b k d e f g
theorem Fg.loop {c:Code} {Q:Exit->Act->World->Prop} {a:Act} {w:World} (h:Fg P c Q a w):(Code.loop c).wpr none P Q a w:=by
 intro b k l f g i;obtain⟨e,j,n,m,d⟩:=h b k l f g i;exact⟨e,j,n,m,.of_steps (.one (fenced_calm g i Z) stepR_loop) d⟩
theorem Fg.round {c:Code} {Q:Exit->Act->World->Prop} {a:Act} {w:World} (h:c.wpr none P (Exit.then (Fg P c Q) Q) a w):Fg P c Q a w:=by
 intro b k t p r s;obtain⟨e,f,g,m,d⟩:=h b (.inLoop c::k) t p r s;cases e with
 |normal=>
  obtain⟨o,n,q,j,i⟩:=m b k t p r s;exact⟨o,n,q,j,.of_steps (StepsIn.trans d (.one (fenced_calm r s Z) stepR_inLoop)) i⟩
 |exit id=>exact⟨_,f,g,m,.pass (x:= .inLoop c) Z (λ_ _=> .inl (by simp)) d⟩
 |goto l=>exact⟨_,f,g,m,.pass (x:= .inLoop c) Z (λ_ _=> .inl (by simp)) d⟩
 |ret=>exact⟨_,f,g,m,.pass (x:= .inLoop c) Z (λ_ _=> .inl (by simp)) d⟩
 |panic u=>exact⟨_,f,g,m,.pass (x:= .inLoop c) Z (λ_ _=> .inl (by simp)) d⟩
 |outgrown=>exact⟨_,f,g,m,.pass (x:= .inLoop c) Z (λ_ _=> .inl (by simp)) d⟩
noncomputable def JY (a:Cx) (id:Nat) (s:GS):RS:=some ⟨.exit id,DO s.σ (mC (Dm a.env id)),s.H⟩
structure Vm {gs:By} (w0:g_ gs) (tb:TB) (n:Nat) (cx:Cx) (k:GS->RS) (out:OW) (ρ:fQ) (Q:Exit->Act->World->Prop):Prop where
 k:∀s' ρ' a' w',k s'=some out->ρ.le ρ'->lQ ρ' n s'.σ a'->iI w0 ρ' s'.H w'->Q .normal a' w'
 x:∀id s' ρ' a' w',JY cx id s'=some out->ρ.le ρ'->lQ ρ' n s'.σ a'->iI w0 ρ' s'.H w'->Q (.exit id) a' w'
 r:∀s' ρ' a' w',RD tb cx s'=some out->ρ.le ρ'->lQ ρ' n s'.σ a'->iI w0 ρ' s'.H w'->Q .ret a' w'
def II (P:Program) {gs:By} (w0:g_ gs) (tb:TB) (l:LH):Prop:=∀b h j H d,l b h j H=some d->∀n k i a w Q,ID tb n b=true->kW (mC (live (.loop b) 0 h)) j some=some k->lQ i n k a->iI w0 i H w->
 (∀id e c f g,JY h id e=some d->i.le c->lQ c n e.σ f->iI w0 c e.H g->Q (.exit id) f g)->
 (∀e c f g,RD tb h e=some d->i.le c->lQ c n e.σ f->iI w0 c e.H g->Q .ret f g)->Fg P b Q a w
theorem Of {b:Cx} {s:GS} {a:OW} (h:RD tb b s=some a):a.e = .ret:=by
 obtain⟨c,_,h⟩:=aH.1 (show ob (PQ tb s b.res) _=some a from h);cases h;rfl
theorem Cg {b:Cx} {id:Nat} {s:GS} {a:OW} (h:JY b id s=some a):a.e = .exit id:=by cases h;rfl
theorem RB {b:List Nat} {s:GS} {a:OW} (h:If b s=some a):a.e = .normal∧a.vs=DO s.σ b∧a.H=s.H:=by cases h;exact⟨rfl,rfl,rfl⟩
theorem Rn {n:Nat} {m:Cx} {j:List Nat} {k:GS->RS} {o b:OW} {l:fQ} {Q:Exit->Act->World->Prop} (L:Vm w0 tb n m k b l Q) (h:kW j o.vs (λg=>k ⟨g,o.H⟩)=some b) {c:GS} {a:fQ} {d:Act} {f:World}
  (r:o.vs=DO c.σ j) (q:o.H=c.H) (e:l.le a) (F:lQ a n c.σ d) (R:iI w0 a c.H f):Q .normal d f:=by
 obtain⟨g,i,p⟩:=rP h;rw[r]at i;exact L.k ⟨g,o.H⟩ a d f p e (Kc F i) (by rw[q];exact R)
theorem Em {M:CH} {W:LH} (O:gY P tb) (V:P.follows .mixedOrders=true) (j:∀w0:g_ gs,sV P w0 M) (p:II P w0 tb W) {n:Nat}:∀(c:Code) (m:Nat) (f:Cx) (k:GS->RS) (s:GS) (d:OW) (q:fQ) (a:Act) (w:World) (Q:Exit->Act->World->Prop),
  ID tb n c=true->ZF tb M W c m f k s=some d->lQ q n s.σ a->iI w0 q s.H w->Vm w0 tb n f k d q Q->c.wpr none P Q a w
 | .skip,m,f,k,s,d,q,a,w,Q,_,h,F,R,L=>Qp (L.k s q a w h (fQ.le_refl _) F R)
 | .region id ops dr, m, f, k, s, d, q, a, w, Q, ho, h, F, R, L => by
  have l:ops.toList.all (IX n)=true∧(!dr||chkF tb ops.toList (pJ ops.toList))=true:=by simpa [ID]using ho
  have ad:ops.toList.all kJ=true:=zA5.2 λo ac=>(uU (zA5.1 l.1 o ac)).1;have N:Bool.casesOn (motive:=λ_=>RS) (acR dr ops.toList) (GE tb M ops.toList k ops.toList s) (evW tb M ops.toList (pJ ops.toList) k ops.toList 0 [] [] s)=some d:=h;have e:ops=ops.toList.toArray:=by simp
  cases dr with
  |false=>
   rw[e];exact uG ad (HU O (j w0) ops.toList s q a w l.1 F R N L.k)
  | true =>
   rw[e];have hF:chkF tb ops.toList (pJ ops.toList)=true:=by simpa using l.2
   have u:(GE tb M ops.toList k ops.toList s=some d∧Gi ops.toList oG=true)∨evW tb M ops.toList (pJ ops.toList) k ops.toList 0 [] [] s=some d:=by
    cases T:acR true ops.toList with
    |true=>rw[T]at N;exact .inr N
    |false=>
     rw[T]at N;have:(!Gi ops.toList oG)=false:=T;exact .inl ⟨N,by simpa using this⟩
   exact NO O j V l.1 hF F R u L.k
 | .seq x y,m,f,k,s,d,q,a,w,Q,ho,h,F,R,L=>by
  have l:ID tb n x=true∧ID tb n y=true:=by simpa [ID]using ho
  refine TP (Em O V j p x (live y m f) f (ZF tb M W y m f k) s d q a w _ l.1 h F R ⟨λA t E I z g B C=> ?_,L.x,L.r⟩);exact Em O V j p y m f k A d t E I Q l.2 z B C ⟨λs2 K X w2 J u=>L.k s2 K X w2 J (fQ.le_trans g u),λid s2 K X w2 J u=>L.x id s2 K X w2 J (fQ.le_trans g u),λs2 K X w2 J u=>L.r s2 K X w2 J (fQ.le_trans g u)⟩
 | .cond x thn els, m, f, k, s, d, q, a, w, Q, ho, h, F, R, L => by
  have l:ID tb n thn=true∧ID tb n els=true:=by simpa [ID]using ho
  obtain⟨v,hv,h⟩:=aH.1 (show ob (lD s.σ x) _=some d from h);obtain⟨b,U,h⟩:=aH.1 h;obtain⟨o,J,h⟩:=aH.1 (show ob _ (λo=>Ex.casesOn (motive:=λ_=>RS) o.e (kW (mC m) o.vs λσ=>k ⟨σ,o.H⟩) (λ_=>some o) (some o))=some d from h);have hx:=dN F hv;rw[Dk U]at hx;have L':Vm w0 tb n f (If (mC m)) o q Q:=by
   refine⟨λA t E I z g B C=> ?_,λid A t E I z g B C=> ?_,λA t E I z g B C=> ?_⟩
   ·obtain⟨D,e2,e3⟩:=RB z;rw[D]at h;exact Rn L h e2 e3 g B C
   ·have D:=Cg z;rw[D]at h;cases h;exact L.x id A t E I z g B C
   ·have D:=Of z;rw[D]at h;cases h;exact L.r A t E I z g B C
  refine FY hx.bool_inv (λab=> ?_) (λaa=> ?_)
  ·rw[ab]at J;exact Em O V j p thn m f (If (mC m)) s o q a w Q l.1 J F R L'
  ·rw[aa]at J;exact Em O V j p els m f (If (mC m)) s o q a w Q l.2 J F R L'
 | .block id b, m, f, k, s, d, q, a, w, Q, ho, h, F, R, L => by
  have l:ID tb n b=true:=by simpa [ID]using ho
  obtain⟨o2,u,h⟩:=aH.1 (show ob (nB id (ZF tb M W b m ⟨f.res,f.retm,(id,m)::f.env⟩ (If (mC m)) s)) (λo=>Ex.casesOn (motive:=λ_=>RS) o.e (kW (mC m) o.vs λσ=>k ⟨σ,o.H⟩) (λ_=>some o) (some o))=some d from h);obtain⟨o,J,u⟩:=aH.1 (show ob (ZF tb M W b m ⟨f.res,f.retm,(id,m)::f.env⟩ (If (mC m)) s) (λo=>Ex.casesOn (motive:=λ_=>RS) o.e (some o) (λi=>Bool.casesOn (motive:=λ_=>RS) (Nat.beq i id) (some o) (some ⟨.normal,o.vs,o.H⟩)) (some o))=some o2 from u);refine Nh (Em O V j p b m _ (If (mC m)) s o q a w _ l J F R ⟨λA t E I z g B C=> ?_,λi A t E I z g B C=> ?_,λA t E I z g B C=> ?_⟩)
  ·obtain⟨D,e2,e3⟩:=RB z;rw[D]at u;cases u;rw[D]at h;exact Rn L h e2 e3 g B C
  ·have D:=Cg z;rw[D]at u;by_cases hi:i=id
   ·subst hi;have U:Nat.beq i i=true:=by simp
    simp only[U]at u;cases u;show Exit.inBlock i Q (.exit i) E I;simp only[Exit.inBlock,if_true];have S:o=⟨.exit i,DO A.σ (mC (Dm ((i,m)::f.env) i)),A.H⟩:=by cases z;rfl
    have he:Dm ((i,m)::f.env) i=m:=by
     show(bif Nat.beq i i then m else Dm f.env i)=m;rw[U];rfl
    rw[he]at S;exact Rn (o:=⟨.normal,o.vs,o.H⟩) L h (by rw[S]) (by rw[S]) g B C
   ·have U:Nat.beq i id=false:=oF hi;simp only[U]at u;cases u;rw[D]at h;cases h;show Exit.inBlock id Q (.exit i) E I;simp only[Exit.inBlock,if_neg hi];refine L.x i A t E I ?_ g B C;have he:Dm ((id,m)::f.env) i=Dm f.env i:=by
     show(bif Nat.beq id i then m else Dm f.env i)=_;rw[oF (Ne.symm hi)];rfl
    rw[<-z];show JY f i A=some ⟨.exit i,DO A.σ (mC (Dm ((id,m)::f.env) i)),A.H⟩;rw[he];rfl
  ·have D:=Of z;rw[D]at u;cases u;rw[D]at h;cases h;exact L.r A t E I z g B C
 | .loop b,m,f,k,s,d,q,a,w,Q,ho,h,F,R,L=>by
  have l:ID tb n b=true:=by simpa [ID]using ho
  have N:W b f (DO s.σ (mC (live (.loop b) 0 f))) s.H=some d:=h;have ae:=Oa s.σ (mC (live (.loop b) 0 f));obtain⟨σ,Y⟩:=ae;exact Fg.loop (p b f _ s.H d N n σ q a w Q l Y (Kc F Y) R L.x L.r)
 | .exit id,m,f,k,s,d,q,a,w,Q,_,h,F,R,L=>Qo (L.x id s q a w h (fQ.le_refl _) F R)
 | .ret,m,f,k,s,d,q,a,w,Q,_,h,F,R,L=>TO (L.r s q a w h (fQ.le_refl _) F R)
 | .rangeFunc _ _ _ _,m,f,k,s,d,q,a,w,Q,ho,_,_,_,_=>by simp[ID]at ho
 | .scope _,m,f,k,s,d,q,a,w,Q,ho,_,_,_,_=>by simp[ID]at ho
 | .label _,m,f,k,s,d,q,a,w,Q,ho,_,_,_,_=>by simp[ID]at ho
 | .goto _,m,f,k,s,d,q,a,w,Q,ho,_,_,_,_=>by simp[ID]at ho
 | .refuse _,m,f,k,s,d,q,a,w,Q,ho,_,_,_,_=>by simp[ID]at ho
theorem aaq (j:gY P tb) {n:Nat} {s:GS} {f:fQ} {a:Act} {w:World} (F:lQ f n s.σ a) (R:iI w0 f s.H w) {r:ResultVar} {g:GV} (h:acG tb s r=some g):∃v,Rl f g v∧(Ii a.tmps r).run P w = .ok v w:=by
 cases r with
 |tmp t=>exact⟨_,F.slot t g h,by simp[Ii,Act.eval]⟩
 |cell q T=>
  obtain⟨v,m,h⟩:=aH.1 (show ob (Gs s.σ q) _=some g from h);have d:=F.slot q v m;obtain⟨x,_,_,_,_,_,o,c⟩:=LB (P:=P) j R d h;have c:=c w Z;refine⟨x,o,?_⟩
  obtain⟨p,k,_⟩:=aH.1 (show ob v.asP _=some g from h);rw[Fq k]at d;obtain⟨l,u,e⟩:=d.ptr_inv;have i:a.tmps.getD q undef = .pointer (some ⟨l.b,l.off+p.2,none⟩):=e;rw[e]at c;simp only[Instr.loadAt,Instr.sureAddr]at c;simp only[Ii,i,asAddr];simpa using c
theorem PR (f:gY P tb) {n:Nat} {s:GS} {e:fQ} {a:Act} {w:World} (F:lQ e n s.σ a) (R:iI w0 e s.H w):∀{l:List ResultVar} {gs:List GV},PQ tb s l=some gs->∃b,qR e gs b∧(l.mapM (Ii a.tmps)).run P w = .ok b w
 | [],gs,h=>by cases h;exact⟨[],.nil,by simp⟩
 |r::l,gs,h=>by
  obtain⟨g,m,h⟩:=aH.1 (show ob (acG tb s r) (λv=>ob (PQ tb s l) λb=>some (v::b))=some gs from h);obtain⟨i,c,h⟩:=aH.1 h;cases h;obtain⟨v,o,j⟩:=aaq (P:=P) f F R m;obtain⟨b,d,k⟩:=PR f F R c;exact⟨v::b,.cons o d,by simp[List.mapM_cons,j,k]⟩
theorem Xj {b:fQ} {gs:List GV} {a:List Value} (h:qR b gs a):Rl b (UG gs) (if h:a.toArray.size=1 then a.toArray[0]else .tuple a.toArray):=by
 cases gs with
 |nil=>rw[h.of_nil];exact JO .nil
 | cons g gs =>
  obtain⟨v,a,rfl,c,d⟩:=h.of_cons;cases gs with
  |nil=>rw[d.of_nil];show Rl b g _;simpa using c
  |cons j gs=>
   obtain⟨k,i,rfl,e,f⟩:=d.of_cons;rw[dif_neg (by simp)];exact JO (.cons c (.cons e f))
theorem Ig (j:gY P tb) {fn:Func} {c:Cx} (d:c.res=fn.results.toList) {n:Nat} {s:GS} {g:fQ} {a:Act} {w:World} {b:OW} (F:lQ g n s.σ a) (R:iI w0 g s.H w) (h:RD tb c s=some b):b.H=s.H∧∃v,Rl g (UG b.vs) v∧(results fn a.tmps).run P w = .ok v w:=by
 obtain⟨gs,e,h⟩:=aH.1 (show ob (PQ tb s c.res) _=some b from h);cases h;obtain⟨l,f,i⟩:=PR (P:=P) j F R e;rw[d]at i;refine⟨rfl,_,Xj f,?_⟩
 rw[CF];have k:(fn.results.mapM (Ii a.tmps)).run P w = .ok l.toArray w:=by
  rw[Array.mapM_eq_mapM_toList];simp[i]
 simp[k]
structure Ve (P:Program) (G:GP) (Fs:FT) {gs:By} (w0:g_ gs):Prop where
 tab:gY P G.tab
 mixed:P.follows .mixedOrders=true
 fns:∀{f fn},Fs f=some fn->P.funcs[f]? = some fn∧bD P f∧(∀c,fn.body=some c->ID G.tab fn.ntmps c=true)∧fn.params.size+fn.nfree<=fn.ntmps
 ext:∀{f us H g H'},G.ext f us H=some (g,H')->∀ρ w vs,iI w0 ρ H w->qR ρ us vs->oM P w0 ρ f vs w g H'
 exn:∀{f us g},G.exn f us=some g->∀ρ w vs H,iI w0 ρ H w->qR ρ us vs->oM P w0 ρ f vs w g H
 /-- the function that catches returns 0 and 0 if its argument returns;its two variables are new objects -/
 cat:∀{ρ:fQ} {g us cs w H H' c1 c2},iI w0 ρ H w->(∀ρ' w',ρ.le ρ'->iI w0 ρ' ((H.new (.cells [Ae])).new (.cells [Ae])) w'->∃x,oM P w0 ρ' g (us++cs) w' x H')->H'.cells H.n=some [c1]->H'.cells (H.n+1)=some [c2]->
  oM P w0 ρ G.cat [.func (.func g) us.toArray cs.toArray] w (.tup [Ae,Ae]) ((((H'.set H.n (.cells [Ae])).set (H.n+1) (.cells [Ae])).del H.n).del (H.n+1))
def Vd (P:Program) {gs:By} (w0:g_ gs) (h:IH):Prop:=∀f d H a,h (.fn f) d H=some a->a.e = .ret->∀c w g,iI w0 c H w->qR c d g->
 bD P f∧Calls P f g.toArray w λe i=>∃v b,e = .returned v∧c.le b∧iI w0 b a.H i∧Rl b (UG a.vs) v
theorem Pk {d:IH} (h:Vd P w0 d):sV P w0 (adt d):=λf i H g j m q w p R n=>by
 obtain⟨o,k,b⟩:=aH.1 (show ob (d (.fn f) i H) _=some (g,j)from m);cases c:o.e with
 |normal=>rw[c]at b;cases b
 |exit id=>rw[c]at b;cases b
 |ret=>
  rw[c]at b;cases b;obtain⟨l,a⟩:=h f i H o k c q w p R n;exact .inr ⟨l _ w,a⟩
theorem KE {B:IH} (j:Ve P G Fs w0) (h:Vd P w0 B):sV P w0 (Fu G B):=λf b H g z a t w i R e=>by
 unfold Fu callQ at a;cases c:Nat.beq f G.cat with
 | false =>
  rw[c]at a;cases n:G.ext f b H with
  |some r=>
   simp only[n]at a;cases a;exact j.ext n t w i R e
  | none =>
   simp only[n]at a;cases s:G.exn f b with
   |some r=>
    simp only[s]at a;cases a;exact j.exn s t w i _ R e
   |none=>
    simp only[s]at a;exact Pk h f b H g z a t w i R e
 | true =>
  rw[c]at a;have c:=zA6 c;subst c;cases b with
  |nil=>cases a
  | cons u b =>
   cases b with
   |cons _ _=>cases a
   |nil=>
    obtain⟨p,F,a⟩:=aH.1 (show ob u.asF _=some (g,z)from a);rw[kB,kB]at a;obtain⟨x,J,a⟩:=aH.1 a;obtain⟨O,k,a⟩:=aH.1 a;obtain⟨Q,l,a⟩:=aH.1 a;obtain⟨o,a⟩:=cH.1 a;obtain⟨q,a⟩:=cH.1 a;rw[Al,Al,Hb,Hb]at a;cases a;obtain⟨M,rfl⟩:=List.length_eq_one_iff.1 (zA6 o);obtain⟨N,rfl⟩:=List.length_eq_one_iff.1 (zA6 q);obtain⟨v,i,rfl,A,E⟩:=e.of_cons;rw[E.of_nil];rw[VJ F]at A;obtain⟨K,D,rfl,I,m⟩:=A.fn_inv;exact j.cat R (λy L d C=>⟨x.1,Pk h p.1 _ _ x.1 x.2 J y L _ C ((I.le d).append (m.le d))⟩) k l
theorem aci {x:IH} (p:∀w0:g_ gs,Ve P G Fs w0) (B:∀w0:g_ gs,Vd P w0 x) (l:II P w0 G.tab λb z=>x (.loop b z)) {f:Nat} {i:Func} {K:List GV} {H:GH} {d:OW} (T:Fs f=some i) (h:UW G.tab (Fu G x) (λb z=>x (.loop b z)) i K H=some d) (S:d.e = .ret) {u:fQ} {w:World} {t:List Value} (R:iI w0 u H w) (I:qR u K t):
  bD P f∧Calls P f t.toArray w λe y=>∃v a,e = .returned v∧u.le a∧iI w0 a d.H y∧Rl a (UG d.vs) v:=by
 obtain⟨M,N,O,Q⟩:=(p w0).fns T;refine⟨N,?_⟩
 obtain⟨k,E,h⟩:=aH.1 (show ob i.body _=some d from h);obtain⟨L,m,h⟩:=rP h;rw[List.range_eq_range']at m;have s:=KB m;have U:t.length<=i.ntmps:=by rw[<-I.len,s];exact Q
 refine x_ M E ?_;have F:lQ u i.ntmps L {tmps:=t.toArray++Array.replicate (i.ntmps - t.toArray.size) undef,defers:=[]}:=by
  refine Nv Z (by simp;omega) I (λj v q=> ?_) m;have C:=bQ q;rw[Nat.zero_add,zB8 (by simpa using C)];simpa using q
 refine Em (p w0).tab (p w0).mixed (λw0=>KE (p w0) (B w0)) l k _ _ _ ⟨L,H⟩ d u _ w _ (O k E) h F R ⟨λJ a D y r c n o=> ?_,λid J a D y r c n o=> ?_,λJ a D y r c n o=> ?_⟩
 ·obtain⟨A,v,q,g⟩:=Ig (fn:=i) (p w0).tab Z n o r;exact Sx.body_end (.inr Z) n.defers g ⟨v,a,rfl,c,by rw[A];exact o,q⟩
 ·have:=Cg r;rw[S]at this;cases this
 ·obtain⟨A,v,q,g⟩:=Ig (fn:=i) (p w0).tab Z n o r;exact Sx.body_end (.inl Z) n.defers g ⟨v,a,rfl,c,by rw[A];exact o,q⟩
theorem acJ (B:∀w0:g_ gs,Ve P G Fs w0):∀(c:Nat) (w0:g_ gs),Vd P w0 (run G Fs c)∧II P w0 G.tab λb d=>run G Fs c (.loop b d):=by
 intro c
 induction c with
 |zero=>exact λw0=>⟨λf us H i h=>(by cases h),λb d K H i h=>(by cases h)⟩
 | succ c ih =>
  have z:∀w0:g_ gs,Vd P w0 (run G Fs c):=λw0=>(ih w0).1;intro w0;have q:=(ih w0).2;refine⟨λf us H i h he V w K R hr=> ?_,λb d K H i h n O V a w Q T I F R U k=> ?_⟩
  ·obtain⟨fn,E,h⟩:=aH.1 (show ob (Fs f) _=some i from h);exact aci B z q E h he R hr
  ·have D:kW (mC (live (.loop b) 0 d)) K (λO=>ob (ZF G.tab (Fu G (run G Fs c)) (λb d=>run G Fs c (.loop b d)) b (live (.loop b) 0 d) d (If (mC (live (.loop b) 0 d))) ⟨O,H⟩) λo=>Ex.casesOn (motive:=λ_=>RS) o.e (run G Fs c (.loop b d) o.vs o.H) (λ_=>some o) (some o))=some i:=h;obtain⟨aa,l,D⟩:=rP D;rw[I]at l;cases l;obtain⟨o,Y,s⟩:=aH.1 D;refine Fg.round (Em (B w0).tab (B w0).mixed (λw0=>KE (B w0) (z w0)) q b _ d _ ⟨O,H⟩ o V a w _ T Y F R ⟨λt j x A p g u v=> ?_,λid t j x A p g u v=> ?_,λt j x A p g u v=> ?_⟩)
   ·obtain⟨y,W,X⟩:=RB p;rw[y,W,X]at s;obtain⟨S,m⟩:=Oa t.σ (mC (live (.loop b) 0 d));exact q b d _ t.H i s n S j x A Q T m (Kc u m) v (λid J r C L M N=>U id J r C L M (fQ.le_trans g N)) (λJ r C L M N=>k J r C L M (fQ.le_trans g N))
   ·have y:=Cg p;rw[y]at s;cases s;exact U id t j x A p g u v
   ·have y:=Of p;rw[y]at s;cases s;exact k t j x A p g u v
theorem KD (e:∀w0:g_ gs,Ve P G Fs w0) {a f:Nat} {c:List GV} {H H':GH} {g:GV} (h:SI G Fs a f c H=some (g,H')) {b:fQ} {w:World} {d:List Value} (R:iI w0 b H w) (i:qR b c d):oM P w0 b f d w g H':=
 KE (e w0) (acJ e a w0).1 f c H g H' h b w d R i
theorem iI.start (b:g_ gs) (c:gs.env=[]):iI b (λ_=>none) H0 b.w:=⟨Dy.refl _,λh o a=>(by cases a),λh g o k l j a=>(by cases a),λ_ _=>rfl,λh d=>absurd d (Nat.not_lt_zero h),λh v l f=>(by cases f),λi v e=>by rw[c]at e;simp at e⟩
end
end Go.Gx
namespace Go.Gx
open Go Go.Sx
noncomputable section
def oN (a:List GV) (H:GH):RS:=some ⟨.normal,a,H⟩
def oX (id:Nat) (a:List GV) (H:GH):RS:=some ⟨.exit id,a,H⟩
def oR (a:List GV) (H:GH):RS:=some ⟨.ret,a,H⟩
def jn (r:RS) (k:List GV->GH->RS):RS:=ob r λo=>Ex.casesOn (motive:=λ_=>RS) o.e (k o.vs o.H) (λ_=>some o) (some o)
def rG (v:GV) (b:Bool) (H:GH) (X:OR):OR:=GV.casesOn (motive_1:=λ_=>OR) v (λ_ _=>none) (λq=>Bool.casesOn (motive:=λ_=>OR) (SQ q b) (some (.un,H)) X) (λ_ _=>none) (λ_ _=>none) none (λ_ _ _ _=>none) none (λ_=>none) (λ_ _ _=>none) none none (λ_=>none) (λ_=>none) (some (.un,H)) none (λ_=>none)
def U0 {R:Type} (a:List GV) (f:Option R):Option R:=List.casesOn (motive:=λ_=>Option R) a (f) λ_ _=>none
def U1 {R:Type} (b:List GV) (f:GV->Option R):Option R:=List.casesOn (motive:=λ_=>Option R) b none λa c=>List.casesOn (motive:=λ_=>Option R) c (f a) λ_ _=>none
def U2 {R:Type} (c:List GV) (f:GV->GV->Option R):Option R:=List.casesOn (motive:=λ_=>Option R) c none λa d=>List.casesOn (motive:=λ_=>Option R) d none λb e=>List.casesOn (motive:=λ_=>Option R) e (f a b) λ_ _=>none
def U3 {R:Type} (d:List GV) (f:GV->GV->GV->Option R):Option R:=List.casesOn (motive:=λ_=>Option R) d none λa e=>List.casesOn (motive:=λ_=>Option R) e none λb g=>List.casesOn (motive:=λ_=>Option R) g none λc h=>List.casesOn (motive:=λ_=>Option R) h (f a b c) λ_ _=>none
def U4 {R:Type} (e:List GV) (f:GV->GV->GV->GV->Option R):Option R:=List.casesOn (motive:=λ_=>Option R) e none λa g=>List.casesOn (motive:=λ_=>Option R) g none λb h=>List.casesOn (motive:=λ_=>Option R) h none λc i=>List.casesOn (motive:=λ_=>Option R) i none λd j=>List.casesOn (motive:=λ_=>Option R) j (f a b c d) λ_ _=>none
def U5 {R:Type} (g:List GV) (f:GV->GV->GV->GV->GV->Option R):Option R:=List.casesOn (motive:=λ_=>Option R) g none λa h=>List.casesOn (motive:=λ_=>Option R) h none λb i=>List.casesOn (motive:=λ_=>Option R) i none λc j=>List.casesOn (motive:=λ_=>Option R) j none λd k=>List.casesOn (motive:=λ_=>Option R) k none λe l=>List.casesOn (motive:=λ_=>Option R) l (f a b c d e) λ_ _=>none
def U6 {R:Type} (h:List GV) (f:GV->GV->GV->GV->GV->GV->Option R):Option R:=List.casesOn (motive:=λ_=>Option R) h none λa i=>List.casesOn (motive:=λ_=>Option R) i none λb j=>List.casesOn (motive:=λ_=>Option R) j none λc k=>List.casesOn (motive:=λ_=>Option R) k none λd l=>List.casesOn (motive:=λ_=>Option R) l none λe m=>List.casesOn (motive:=λ_=>Option R) m none λg n=>List.casesOn (motive:=λ_=>Option R) n (f a b c d e g) λ_ _=>none
def U7 {R:Type} (i:List GV) (f:GV->GV->GV->GV->GV->GV->GV->Option R):Option R:=List.casesOn (motive:=λ_=>Option R) i none λa j=>List.casesOn (motive:=λ_=>Option R) j none λb k=>List.casesOn (motive:=λ_=>Option R) k none λc l=>List.casesOn (motive:=λ_=>Option R) l none λd m=>List.casesOn (motive:=λ_=>Option R) m none λe n=>List.casesOn (motive:=λ_=>Option R) n none λg o=>List.casesOn (motive:=λ_=>Option R) o none λh p=>List.casesOn (motive:=λ_=>Option R) p (f a b c d e g h) λ_ _=>none
def U8 {R:Type} (j:List GV) (f:GV->GV->GV->GV->GV->GV->GV->GV->Option R):Option R:=List.casesOn (motive:=λ_=>Option R) j none λa k=>List.casesOn (motive:=λ_=>Option R) k none λb l=>List.casesOn (motive:=λ_=>Option R) l none λc m=>List.casesOn (motive:=λ_=>Option R) m none λd n=>List.casesOn (motive:=λ_=>Option R) n none λe o=>List.casesOn (motive:=λ_=>Option R) o none λg p=>List.casesOn (motive:=λ_=>Option R) p none λh q=>List.casesOn (motive:=λ_=>Option R) q none λi r=>List.casesOn (motive:=λ_=>Option R) r (f a b c d e g h i) λ_ _=>none
def U9 {R:Type} (k:List GV) (f:GV->GV->GV->GV->GV->GV->GV->GV->GV->Option R):Option R:=List.casesOn (motive:=λ_=>Option R) k none λa l=>List.casesOn (motive:=λ_=>Option R) l none λb m=>List.casesOn (motive:=λ_=>Option R) m none λc n=>List.casesOn (motive:=λ_=>Option R) n none λd o=>List.casesOn (motive:=λ_=>Option R) o none λe p=>List.casesOn (motive:=λ_=>Option R) p none λg q=>List.casesOn (motive:=λ_=>Option R) q none λh r=>List.casesOn (motive:=λ_=>Option R) r none λi s=>List.casesOn (motive:=λ_=>Option R) s none λj t=>List.casesOn (motive:=λ_=>Option R) t (f a b c d e g h i j) λ_ _=>none
def RN:List Nat->Code->Code
 | [],c=>c
 |0::p,.seq a _=>RN p a
 |1::p,.seq _ b=>RN p b
 |0::p,.cond _ a _=>RN p a
 |1::p,.cond _ _ b=>RN p b
 |0::p,.block _ b=>RN p b
 |0::p,.loop b=>RN p b
 |_,c=>c
def gG (a:Func) (p:List Nat):Code:=match a.body with
 |some c=>RN p c
 |none=> .skip
def oA (b:Func) (a:Iw):Cx:=⟨b.results.toList,Kf b.results.toList,a⟩
abbrev kM:=CH->QH->List GV->GH->RS
structure HM where
 fn:Nat->Option (Func×kM)
 lp:Nat->Option ((Code×Cx)×kM)
def HM.fns (T:HM) (f:Nat):Option Func:=ob (T.fn f) λe=>some e.1
def HM.loop (T:HM) (a:LH):QH:=λi vs H=>ob (T.lp i) λe=>a e.1.1 e.1.2 vs H
def rr (T:HM) (G:GP) (n:Nat):Bool->QH:=Nat.rec (motive:=λ_=>Bool->QH) (λ_ _ _ _=>none) (λ_ a b t c H=>Bool.casesOn (motive:=λ_=>RS) b (ob (T.fn t) λe=>e.2 (callQ G (a false)) (a true) c H) (ob (T.lp t) λe=>e.2 (callQ G (a false)) (a true) c H)) n
structure Kw (T:HM) (tb:TB):Prop where
 fn:∀{f e},T.fn f=some e->∀(c:CH) (lp:LH) us H,e.2 c (T.loop lp) us H=UW tb c lp e.1 us H
 lp:∀{i e},T.lp i=some e->∀(c:CH) (lp:LH) us H,e.2 c (T.loop lp) us H=evL tb c lp e.1.1 e.1.2 us H
theorem adW {T:HM} {G:GP} (h:Kw T G.tab):∀n,rr T G n false=(λf c H=>run G T.fns n (.fn f) c H)∧rr T G n true=T.loop (λb a=>run G T.fns n (.loop b a)):=by
 intro n
 induction n with
 |zero=>
  refine⟨rfl,?_⟩
  funext i vs H;show none=ob (T.lp i) λe=>none;cases T.lp i<;>rfl
 | succ n ih =>
  obtain⟨d,g⟩:=ih;constructor
  ·funext f c H;show ob (T.fn f) (λe=>e.2 (callQ G (rr T G n false)) (rr T G n true) c H)=ob (T.fns f) λk=>UW G.tab (Fu G (run G T.fns n)) (λb a=>run G T.fns n (.loop b a)) k c H;unfold HM.fns;cases j:T.fn f with
   |none=>rfl
   |some e=>
    show e.2 (callQ G (rr T G n false)) (rr T G n true) c H=UW G.tab (Fu G (run G T.fns n)) (λb a=>run G T.fns n (.loop b a)) e.1 c H;rw[d,g];exact h.fn j _ _ c H
  ·funext i vs H;show ob (T.lp i) (λe=>e.2 (callQ G (rr T G n false)) (rr T G n true) vs H)=ob (T.lp i) λe=>run G T.fns (n+1) (.loop e.1.1 e.1.2) vs H;cases j:T.lp i with
   |none=>rfl
   |some e=>
    show e.2 (callQ G (rr T G n false)) (rr T G n true) vs H=evL G.tab (Fu G (run G T.fns n)) (λb a=>run G T.fns n (.loop b a)) e.1.1 e.1.2 vs H;rw[d,g];exact h.lp j _ _ vs H
def okF (a:TB) (fn:Func):Bool:=match fn.body with
 |some c=>ID a fn.ntmps c&&Nat.ble (fn.params.size+fn.nfree) fn.ntmps
 |none=>false
theorem PI {tb:TB} {fn:Func} (h:okF tb fn=true):(∀c,fn.body=some c->ID tb fn.ntmps c=true)∧fn.params.size+fn.nfree<=fn.ntmps:=by
 unfold okF at h;cases a:fn.body with
 |none=>rw[a]at h;cases h
 |some c=>
  rw[a]at h;simp only[zA7]at h;exact⟨λd b=>by cases b;exact h.1,by simpa using h.2⟩
def HQ (T:HM) (G:GP) (b:Nat) (f:FuncId) (a:List GV) (H:GH):OR:=callQ G (rr T G b false) f a H
theorem DF {T:HM} {G:GP} (h:Kw T G.tab) (fuel:Nat) (f:FuncId) (a:List GV) (H:GH):HQ T G fuel f a H=SI G T.fns fuel f a H:=by
 unfold HQ SI Fu;rw[(adW h fuel).1]
end
end Go.Gx
section
set_option maxRecDepth 100000
namespace Go.Gx
open Go Go.Sx Go.Proofs
noncomputable section
abbrev y:=Ad
def gB (f:Func) (c:CH) (_:QH) (a:List GV) (H:GH):RS:=UW y c (λ_ _ _ _=>none) f a H
def Rc (f:Func) (i:Nat) (c:CH) (q:QH) (a:List GV) (H:GH):RS:=UW y c (λ_ _ b H=>q i b H) f a H
def gL (e:Code×Cx) (i:Nat) (c:CH) (q:QH) (a:List GV) (H:GH):RS:=evL y c (λ_ _ b H=>q i b H) e.1 e.2 a H
def gL1 (e:Code×Cx) (n i j:Nat) (c:CH) (q:QH) (d:List GV) (H:GH):RS:=evL y c (λ_ b a H=>bif Nat.beq b.env.length n then q i a H else q j a H) e.1 e.2 d H
def gD (e:Code×Cx) (i:Nat):(Code×Cx)×kM:=(e,gL e i)
def gD1 (e:Code×Cx) (n i j:Nat):(Code×Cx)×kM:=(e,gL1 e n i j)
def rid (c:Code):Nat:=match c with|.region n _ _=>n | .seq a _=>rid a | .block _ a=>rid a | .loop a=>rid a|_=>0
def sel (l:Iw) (n:Nat):Nat:=List.rec (motive:=λ_=>Nat) 0 (λp _ a=>bif Nat.beq p.1 n then p.2 else a) l
def gBs (f:Func) (l:Iw) (c:CH) (q:QH) (a:List GV) (H:GH):RS:=UW y c (λb _ d H=>q (sel l (rid b)) d H) f a H
def UX (e:Code×Cx) (l:Iw):(Code×Cx)×kM:=(e,λc q a H=>evL y c (λb _ d H=>q (sel l (rid b)) d H) e.1 e.2 a H)
def i (n:Nat):GV:= .int .i64 (.ofNat n)
def bC (q:Bool) (f t:RS):RS:=Bool.casesOn (motive:=λ_=>RS) q f t
def K (c:CH) (f:Nat) (a:List GV) (H:GH) (k:GV->GH->RS):RS:=lU (c f a H) k
def bn (a:BinOp) (T:Nat) (v u:GV) (k:GV->RS):RS:=ob (FX y a T v u) k
def ld (T:Nat) (v:GV) (H:GH) (k:GV->RS):RS:=ob (CQ y T v H) k
def fd (T n:Nat) (v:GV) (k:GV->RS):RS:=ob (R_ y T n v) k
def ix (T:Nat) (v u:GV) (k:GV->RS):RS:=ob (OH y T v u) k
def ln (T:Nat) (v:GV) (k:GV->RS):RS:=ob (Sa y T v) k
def ex (n:Nat) (v:GV) (k:GV->RS):RS:=ob (acQ n v) k
def bd (T:Nat) (l:List (Nat×GV)) (k:GV->RS):RS:=ob (RX y T l) k
theorem rN {a:Type} {f n:Nat} {x y:Option a} {e:a} {R:Prop} (b:x=some e->R) (c:y=some e->R):tN f n x y=some e->R:=by
 unfold tN;cases Nat.blt f n
 ·exact c
 ·exact b
theorem rL {c:Type} {f n:Nat} {x e:c} {R:Nat->c->Prop} (h:R n x):tL f n x=some e->R f e:=by
 intro a;unfold tL at a;cases b:Nat.beq f n with
 |false=>rw[b]at a;cases a
 |true=>rw[b]at a;cases a;rw[zA6 b];exact h
def B93 (c:CH) (l:QH) (p:List GV) (H:GH):RS:=U1 p λg=>
 ln 9 g λm=>
 bn .gtr 3 m (i 16384) λn=>
 ob (GV.asB n) λk=>jn (bC k (oN [g] H) (oR [.snil,(i 0),(i 3)] H)) λe h=>U1 e λf=>K c 145 [f,(i 0)] h λo j=>
 jn (nB 0 (l 0 [f,.snil,o] j)) λa d=>U1 a λb=>oR [b,(i 0),(i 0)] d
def L0 (c:CH) (ql:QH) (us:List GV) (H:GH):RS:=U3 us λa b d=>jn (ln 9 a λO=>
 bn .lss 3 d O λP=>
 ob (GV.asB P) λL=>jn (bC L (oX 0 [b] H) (oN [a,b,d] H)) λs l=>U3 s λw e f=>jn (nB 1 (ln 124 e λQ=>
 bn .eql 3 Q (i 4096) λR=>
 ob (GV.asB R) λM=>jn (bC M (oN [w,e,f] l) (oR [.snil,f,(i 3)] l)) λt D=>U3 t λg x h=>K c 146 [g,h] D λp E=>
 ex 0 p λS=>
 ex 1 p λq=>
 lU (CP y 176 E) λr F=>
 lU (Dv y 176 r S F) λab m=>
 bn .neq 47 q (i 0) λT=>
 ob (GV.asB T) λN=>jn (bC N (oN [g,x,r] m) (oR [.snil,h,q] m)) λu n=>U3 u λj z k=>ld 176 k n λU=>
 lU (xE y 124 1 [(0,U)] n) λV G=>
 lU (OG y 124 124 z V G) λW o=>
 fd 176 2 k λX=>
 ld 3 X o λY=>
 K c 145 [j,Y] o λaa I=>
 oN [j,W,aa] I)) λv J=>U3 v λA B C=>oN [A,B,C] J) (ql 0)
def s96:Iw:=[(6,1),(12,2),(19,3)]
def aeu (c:CH) (e:QH) (f:List GV) (H:GH):RS:=U2 f λg h=>
 jn (nB 0 (e 4 [g,h] H)) λa d=>U1 a λb=>oR [b] d
def L4 (c:CH) (ql:QH) (us:List GV) (H:GH):RS:=U2 us λa6 R=>jn (ln 9 a6 λt8=>
 bn .lss 3 R t8 λt9=>
 ob (GV.asB t9) λaa=>jn (bC aa (oX 0 [R] H) (oN [a6,R] H)) λm e=>U2 m λb d=>jn (nB 1 (ob (vAt y 9 b d) λa=>
 jn (nB 2 (bn .eql 5 a (.int .u8 (.ofNat 32)) λj=>
 ob (GV.asB j) λab=>jn (bC ab (bn .eql 5 a (.int .u8 (.ofNat 9)) λk=>
 ob (GV.asB k) λac=>jn (bC ac (bn .eql 5 a (.int .u8 (.ofNat 10)) λl=>
 ob (GV.asB l) λad=>jn (bC ad (bn .eql 5 a (.int .u8 (.ofNat 13)) λag=>
 oN [b,d,a,ag] e) (oN [b,d,a,l] e)) λn S=>U4 n λv w x z=>oN [v,w,x,z] S) (oN [b,d,a,k] e)) λo T=>U4 o λA B C D=>oN [A,B,C,D] T) (oN [b,d,a,j] e)) λp g=>U4 p λh f E F=>ob (GV.asB F) λae=>jn (bC ae (bn .eql 5 E (.int .u8 (.ofNat 35)) λai=>
 ob (GV.asB ai) λaf=>jn (bC af (oR [f] g) (jn (nB 3 (ql 5 [h,f] g)) λq U=>U2 q λG I=>oN [G,I] U)) λr V=>U2 r λJ K=>oN [J,K] V) (bn .add 3 f (i 1) λah=>
 oN [h,ah] g)) λs W=>U2 s λL M=>oN [L,M] W)) λt X=>U2 t λN O=>oN [N,O] X)) λu Y=>U2 u λP Q=>oN [P,Q] Y) (ql 4)
def L5 (c:CH) (C:QH) (D:List GV) (H:GH):RS:=U2 D λb d=>jn (ln 9 b λu=>
 bn .lss 3 d u λa=>
 lU (rG a true H (some (b,H))) λv e=>
 lU (rG a true e (some (d,e))) λw f=>
 lU (rG a true f (ob (vAt y 9 v w) λp=>some (p,f))) λx g=>
 lU (rG a true g (ob (FX y .neq 5 x (.int .u8 (.ofNat 10))) λq=>some (q,g))) λz h=>
 ob (CR a z (.bool false)) λA=>
 ob (GV.asB A) λt=>jn (bC t (oX 3 [b,d] h) (oN [b,d] h)) λj r=>U2 j λl m=>jn (nB 4 (bn .add 3 m (i 1) λB=>
 oN [l,B] r)) λk s=>U2 k λn o=>oN [n,o] s) (C 5)
def aev (c:CH) (d:QH) (e:List GV) (H:GH):RS:=U4 e λf g h j=>
 jn (nB 0 (d 7 [f,g,h,j,(i 0)] H)) λa b=>U0 a (oR [] b)
def L7 (c:CH) (V:QH) (us:List GV) (H:GH):RS:=U5 us λS T U p q=>jn (ob (GV.nilck S) λG=>
 fd 132 0 G λI=>
 K c 188 [I] H λJ k=>
 bn .eql 9 J T λL=>
 ob (GV.asB L) λE=>jn (bC E (oX 0 [] k) (oN [S,T,U,p,q] k)) λm l=>U5 m λa f b g d=>jn (nB 1 (bn .eql 3 d b λM=>
 ob (GV.asB M) λF=>jn (bC F (oN [a,f,b,g,d] l) (ob (GV.nilck a) λN=>
 fd 132 0 N λO=>
 K c 155 [O,(i 3)] l λW z=>
 oN [a,f,b,g,d] z)) λn A=>U5 n λh r s j t=>ob (GV.nilck h) λP=>
 fd 132 0 P λQ=>
 K c 191 [Q] A λX B=>
 ob (GV.asF j) λe=>lU (c e.1 (e.2.1++[]++e.2.2) B) λY C=>
 oN [h,r,s,j,t] C)) λo D=>U5 o λu v w x y=>bn .add 3 y (i 1) λR=>
 oN [u,v,w,x,R] D) (V 7)
def aew (c:CH) (j:QH) (g:List GV) (H:GH):RS:=U1 g λh=>
 ob (GV.nilck h) λa=>
 fd 130 1 a λb=>
 ld 124 b H λd=>
 ln 124 d λe=>
 bn .eql 3 e (i 0) λf=>
 oR [f] H
def acK:Iw:=[(5,9),(13,10)]
def aex (c:CH) (k:QH) (h:List GV) (H:GH):RS:=U1 h λj=>
 lU (UR j H) λd a=>
 ld 36 d a λe=>
 K c 96 [e] a λf b=>
 bn .eql 47 f (i 0) λg=>
 oR [g] b
def aey (c:CH) (k:QH) (h:List GV) (H:GH):RS:=U1 h λj=>
 lU (UR j H) λd a=>
 ld 36 d a λe=>
 K c 207 [e] a λf b=>
 bn .eql 47 f (i 0) λg=>
 oR [g] b
def aez (c:CH) (e:QH) (g:List GV) (H:GH):RS:=U3 g λh i j=>
 ld 3 i H λf=>
 jn (nB 0 (e 14 [h,j,f] H)) λa d=>U1 a λb=>oR [b] d
def L14 (c:CH) (K:QH) (L:List GV) (H:GH):RS:=U3 L λJ s b=>jn (ld 9 s H λz=>
 ln 9 z λA=>
 bn .lss 3 b A λa=>
 lU (rG a true H (some (J,H))) λB d=>
 lU (rG a true d (ob (CQ y 9 s d) λt=>some (t,d))) λC f=>
 lU (rG a true f (some (b,f))) λD g=>
 lU (rG a true g (ob (vAt y 9 C D) λu=>some (u,g))) λE h=>
 lU (rG a true h (ob (GV.asF B) λe=>lU (c e.1 (e.2.1++[E]++e.2.2) h) IY)) λF j=>
 ob (CR a F (.bool false)) λG=>
 ob (GV.asB G) λx=>jn (bC x (oX 0 [b] j) (oN [J,s,b] j)) λk v=>U3 k λm n o=>jn (nB 1 (bn .add 3 o (i 1) λI=>
 oN [m,n,I] v)) λl w=>U3 l λp q r=>oN [p,q,r] w) (K 14)
def aeA (c:CH) (B:QH) (A:List GV) (H:GH):RS:=U1 A λi=>
 bn .geq 5 i (.int .u8 (.ofNat 97)) λq=>
 lU (rG q true H (some (i,H))) λw t=>
 lU (rG q true t (ob (FX y .leq 5 w (.int .u8 (.ofNat 122))) λv=>some (v,t))) λx u=>
 ob (CR q x (.bool false)) λh=>
 lU (rG h false u (some (i,u))) λz b=>
 lU (rG h false b (ob (FX y .geq 5 z (.int .u8 (.ofNat 65))) λj=>some (j,b))) λn d=>
 lU (rG h false d (some (n,d))) λa e=>
 lU (rG a true e (some (i,e))) λo f=>
 lU (rG a true f (ob (FX y .leq 5 o (.int .u8 (.ofNat 90))) λk=>some (k,f))) λp g=>
 lU (rG h false g (ob (CR a p (.bool false)) λl=>some (l,g))) λr m=>
 ob (CR h (.bool true) r) λs=>
 oR [s] m
def aeB (c:CH) (q:QH) (p:List GV) (H:GH):RS:=U1 p λi=>
 K c 182 [i] H λg j=>
 lU (rG g false j (some (i,j))) λm k=>
 lU (rG g false k (lU (c 184 [m] k) IY)) λn l=>
 ob (CR g (.bool true) n) λh=>
 lU (rG h false l (some (i,l))) λo a=>
 lU (rG h false a (ob (FX y .eql 5 o (.int .u8 (.ofNat 95))) λb=>some (b,a))) λe d=>
 ob (CR h (.bool true) e) λf=>
 oR [f] d
def aeC (c:CH) (m:QH) (q:List GV) (H:GH):RS:=U1 q λr=>
 lU (xE y 128 9 [(0,(.str 11822 2)),(1,(.str 15917 2)),(2,(.str 15674 2)),(3,(.str 9766 2)),(4,(.str 31868 2)),(5,(.str 15677 2)),(6,(.str 15649 2)),(7,(.str 15676 2)),(8,(.str 15678 2))] H) λh k=>
 ln 128 h λn=>
 jn (nB 0 (m 16 [r,h,n,(i 0)] k)) λg l=>U1 g λj=>ob (vAt y 9 j (i 0)) λo=>
 K c 211 [(.str 172099982263598878148345807877454395 15),o] l λp a=>
 bn .geq 3 p (i 0) λf=>
 ob (GV.asB f) λe=>jn (bC e (oN [] a) (oR [(i 1)] a)) λb d=>U0 b (oR [(i 0)] d)
def L16 (c:CH) (G:QH) (I:List GV) (H:GH):RS:=U4 I λa n b d=>jn (bn .lss 3 d b λB=>
 ob (GV.asB B) λz=>jn (bC z (oX 0 [a] H) (oN [a,n,b,d] H)) λk h=>U4 k λe f o g=>jn (nB 1 (ix 128 f g λC=>
 ld 9 C h λD=>
 K c 210 [e,D] h λE j=>
 ob (GV.asB E) λA=>jn (bC A (oN [e,f,o,g] j) (oR [(i 2)] j)) λl x=>U4 l λp q r s=>oN [p,q,r,s] x)) λm y=>U4 m λt u v w=>bn .add 3 w (i 1) λF=>
 oN [t,u,v,F] y) (G 16)
def aeD (c:CH) (n:QH) (l:List GV) (H:GH):RS:=U2 l λe m=>
 K c 188 [e] H λj d=>
 bn .neq 9 j m λk=>
 ob (GV.asB k) λh=>jn (bC h (oN [e] d) (oR [(.bool false)] d)) λb g=>U1 b λf=>K c 191 [f] g λi a=>
 oR [(.bool true)] a
def aeE (c:CH) (E:QH) (D:List GV) (H:GH):RS:=U1 D λv=>
 ob (GV.nilck v) λx=>
 fd 130 1 x λz=>
 ld 124 z H λA=>
 ln 124 A λB=>
 bn .eql 3 B (i 0) λC=>
 ob (GV.asB C) λw=>jn (bC w (oN [v] H) (oR [(.str 0 0)] H)) λu b=>U1 u λa=>ob (GV.nilck a) λd=>
 fd 130 0 d λe=>
 ld 9 e b λf=>
 ob (GV.nilck a) λg=>
 fd 130 1 g λh=>
 ld 124 h b λj=>
 ix 124 j (i 0) λk=>
 fd 176 1 k λl=>
 ld 3 l b λm=>
 ob (GV.nilck a) λn=>
 fd 130 1 n λo=>
 ld 124 o b λp=>
 ix 124 p (i 0) λq=>
 fd 176 2 q λr=>
 ld 3 r b λs=>
 ob (CS y 9 f (some m) (some s) b) λt=>
 oR [t] b
def aeF (c:CH) (R:QH) (Q:List GV) (H:GH):RS:=U1 Q λl=>
 lU (CP y 176 H) λD o=>
 ob (GV.nilck l) λL=>
 fd 130 1 L λM=>
 ld 124 M o λN=>
 ln 124 N λO=>
 bn .eql 3 O (i 0) λP=>
 ob (GV.asB P) λE=>jn (bC E (oN [l,D] o) (K c 155 [l,(i 4)] o λF m=>
 oN [l,D] m)) λj b=>U2 j λa e=>ob (GV.nilck a) λq=>
 fd 130 1 q λr=>
 ld 124 r b λs=>
 ix 124 s (i 0) λt=>
 ld 176 t b λu=>
 lU (CP y 176 b) λh n=>
 lU (Dv y 176 h u n) λG d=>
 ob (GV.nilck a) λv=>
 fd 130 1 v λw=>
 ld 124 w d λx=>
 ob (CS y 124 x (some (i 1)) none d) λz=>
 ob (GV.nilck a) λA=>
 fd 130 1 A λB=>
 lU (Dv y 124 B z d) λI f=>
 ld 176 h f λC=>
 lU (Dv y 176 e C f) λJ g=>
 ob (ob (CQ y 176 e g) λp=>some [p]) λk=>oR k g
def aav:Iw:=[(6,21),(11,22),(16,23)]
def aeG (c:CH) (g:QH) (d:List GV) (H:GH):RS:=U2 d λe f=>
 K c 239 [e,f] H λb a=>
 oR [b] a
def aeH (c:CH) (g:QH) (d:List GV) (H:GH):RS:=U2 d λe f=>
 K c 240 [e,f] H λb a=>
 oR [b] a
def aeI (c:CH) (q:QH) (t:List GV) (H:GH):RS:=U2 t λl m=>
 bn .eql 3 m (i 6) λr=>
 ob (GV.asB r) λp=>jn (bC p (oN [l,m] H) (K c 242 [l] H λs n=>
 oR [s] n)) λj o=>U2 j λk a=>bn .add 3 a (i 1) λg=>
 K c 214 [k,g] o λh e=>
 jn (nB 0 (q 24 [k,a,h] e)) λb f=>U1 b λd=>oR [d] f
def L24 (c:CH) (Y:QH) (us:List GV) (H:GH):RS:=U3 us λf g h=>jn (jn (nB 1 (K c 188 [f] H λO D=>
 K c 243 [O] D λe j=>
 bn .eql 3 e (i 0) λa=>
 lU (rG a false j (some (e,j))) λP k=>
 lU (rG a false k (lU (c 244 [P] k) IY)) λQ l=>
 lU (rG a false l (some (g,l))) λR m=>
 lU (rG a false m (ob (FX y .neq 3 Q R) λC=>some (C,m))) λS n=>
 ob (CR a (.bool true) S) λT=>
 ob (GV.asB T) λM=>jn (bC M (oN [f,g,h,e] n) (oR [h] n)) λq E=>U4 q λb d t u=>K c 191 [b] E λaa F=>
 bn .add 3 d (i 1) λU=>
 K c 214 [b,U] F λV G=>
 lU (xE y 256 2 [(0,t),(1,V)] G) λW I=>
 K c 215 [u,W] I λp o=>
 bn .eql 3 d (i 3) λX=>
 ob (GV.asB X) λN=>jn (bC N (oN [b,d,p] o) (oR [p] o)) λr J=>U3 r λv w x=>oN [v,w,x] J)) λs L=>U3 s λz A B=>oN [z,A,B] L) (Y 24)
def aeJ (c:CH) (g:QH) (k:List GV) (H:GH):RS:=U2 k λl b=>
 K c 245 [l,(i 0)] H λh e=>
 ln 256 b λj=>
 jn (nB 0 (g 25 [h,b,j,(i 0)] e)) λa f=>U1 a λd=>oR [d] f
def L25 (c:CH) (A:QH) (B:List GV) (H:GH):RS:=U4 B λz j a b=>jn (bn .lss 3 b a λt=>
 ob (GV.asB t) λs=>jn (bC s (oX 0 [z] H) (oN [z,j,a,b] H)) λg f=>U4 g λk d l e=>jn (nB 1 (ix 256 d e λu=>
 ld 189 u f λv=>
 lU (OG y 189 189 k v f) λw q=>
 oN [w,d,l,e] q)) λh r=>U4 h λm n o p=>bn .add 3 p (i 1) λx=>
 oN [m,n,o,x] r) (A 25)
def aeK (c:CH) (e:QH) (g:List GV) (H:GH):RS:=U2 g λb h=>
 ln 128 b λf=>
 jn (nB 0 (e 26 [b,h,f,(i 0)] H)) λa d=>U0 a (oR [(.int .i64 (.negSucc 0))] d)
def L26 (c:CH) (F:QH) (G:List GV) (H:GH):RS:=U4 G λD E B C=>jn (bn .lss 3 C B λw=>
 ob (GV.asB w) λu=>jn (bC u (oX 0 [] H) (oN [D,E,B,C] H)) λf b=>U4 f λd e j a=>jn (nB 1 (ix 128 d a λx=>
 ld 9 x b λy=>
 bn .eql 9 e y λz=>
 ob (GV.asB z) λv=>jn (bC v (oN [d,e,j,a] b) (oR [a] b)) λg s=>U4 g λk l m n=>oN [k,l,m,n] s)) λh t=>U4 h λo p q r=>bn .add 3 r (i 1) λA=>
 oN [o,p,q,A] t) (F 26)
def aeL (c:CH) (u:QH) (z:List GV) (H:GH):RS:=U2 z λs p=>
 bn .lss 3 p (i 0) λd=>
 lU (rG d false H (some (p,H))) λv q=>
 lU (rG d false q (some (s,q))) λw r=>
 lU (rG d false r (ob (Sa y 189 w) λt=>some (t,r))) λx a=>
 lU (rG d false a (ob (FX y .geq 3 v x) λj=>some (j,a))) λn b=>
 ob (CR d (.bool true) n) λo=>
 ob (GV.asB o) λm=>jn (bC m (oN [s,p] b) (oR [(.int .i64 (.negSucc 0))] b)) λe k=>U2 e λg h=>jn (nB 0 (u 27 [g,h,(i 1)] k)) λf l=>U0 f (oR [(.int .i64 (.negSucc 0))] l)
def L27 (c:CH) (S:QH) (T:List GV) (H:GH):RS:=U3 T λa b q=>jn (ln 189 a λG=>
 bn .lss 3 b G λI=>
 ob (GV.asB I) λD=>jn (bC D (oX 0 [] H) (oN [a,b,q] H)) λm g=>U3 m λd e r=>jn (nB 1 (ix 189 d e λJ=>
 fd 228 0 J λL=>
 ld 3 L g λM=>
 K c 246 [M] g λk h=>
 bn .lss 3 k (i 0) λN=>
 ob (GV.asB N) λE=>jn (bC E (oN [d,e,r,k] h) (oR [(.int .i64 (.negSucc 0))] h)) λn j=>U4 n λs f t u=>bn .sub 3 u (i 1) λO=>
 bn .add 3 t O λl=>
 bn .eql 3 l (i 0) λP=>
 ob (GV.asB P) λF=>jn (bC F (oN [s,f,l] j) (bn .add 3 f (i 1) λQ=>
 oR [Q] j)) λo B=>U3 o λv w x=>oN [v,w,x] B)) λp C=>U3 p λy z A=>bn .add 3 z (i 1) λR=>
 oN [y,R,A] C) (S 27)
def aeM (c:CH) (g:QH) (e:List GV) (H:GH):RS:=U1 e λf=>
 K c 247 [f,(.fn 248 [] [])] H λa b=>
 ex 0 a λd=>
 ex 1 a λh=>
 oR [d] b
def aeN (c:CH) (g:QH) (e:List GV) (H:GH):RS:=U1 e λf=>
 K c 247 [f,(.fn 249 [] [])] H λa b=>
 ex 0 a λd=>
 ex 1 a λh=>
 oR [d] b
def aeO (c:CH) (u:QH) (z:List GV) (H:GH):RS:=U2 z λs p=>
 bn .lss 3 p (i 0) λd=>
 lU (rG d false H (some (p,H))) λv q=>
 lU (rG d false q (some (s,q))) λw r=>
 lU (rG d false r (ob (Sa y 189 w) λt=>some (t,r))) λx a=>
 lU (rG d false a (ob (FX y .geq 3 v x) λj=>some (j,a))) λn b=>
 ob (CR d (.bool true) n) λo=>
 ob (GV.asB o) λm=>jn (bC m (oN [s,p] b) (oR [(.int .i64 (.negSucc 0))] b)) λe k=>U2 e λg h=>jn (nB 0 (u 29 [g,(i 1),h] k)) λf l=>U0 f (oR [(.int .i64 (.negSucc 0))] l)
def L29 (c:CH) (S:QH) (T:List GV) (H:GH):RS:=U3 T λa q b=>jn (ln 189 a λG=>
 bn .lss 3 b G λI=>
 ob (GV.asB I) λD=>jn (bC D (oX 0 [] H) (oN [a,q,b] H)) λm g=>U3 m λd r e=>jn (nB 1 (ix 189 d e λJ=>
 fd 228 0 J λL=>
 ld 3 L g λM=>
 K c 200 [M] g λk h=>
 bn .lss 3 k (i 0) λN=>
 ob (GV.asB N) λE=>jn (bC E (oN [d,r,e,k] h) (oR [(.int .i64 (.negSucc 0))] h)) λn j=>U4 n λs t f u=>bn .sub 3 u (i 1) λO=>
 bn .add 3 t O λl=>
 bn .eql 3 l (i 0) λP=>
 ob (GV.asB P) λF=>jn (bC F (oN [s,l,f] j) (bn .add 3 f (i 1) λQ=>
 oR [Q] j)) λo B=>U3 o λv w x=>oN [v,w,x] B)) λp C=>U3 p λy z A=>bn .add 3 A (i 1) λR=>
 oN [y,z,R] C) (S 29)
def XE:Iw:=[(4,30),(14,31),(7,32),(17,33)]
def aeP (c:CH) (f:QH) (h:List GV) (H:GH):RS:=U1 h λj=>
 lU (UR j H) λg d=>
 jn (nB 0 (f 37 [g,.snil,(i 0)] d)) λa e=>U1 a λb=>oR [b] e
def L37 (c:CH) (F:QH) (G:List GV) (H:GH):RS:=U3 G λC D E=>jn (fd 36 1 C λp=>
 ld 33 p H λq=>
 ln 33 q λr=>
 bn .lss 3 E r λs=>
 ob (GV.asB s) λo=>jn (bC o (oX 0 [D] H) (oN [C,D,E] H)) λe a=>U3 e λb g d=>jn (nB 1 (fd 36 1 b λt=>
 ld 33 t a λu=>
 ix 33 u d λv=>
 fd 82 1 v λw=>
 ld 3 w a λx=>
 lU (xE y 22 1 [(0,x)] a) λz l=>
 lU (OG y 22 22 g z l) λA m=>
 oN [b,A,d] m)) λf n=>U3 f λh j k=>bn .add 3 k (i 1) λB=>
 oN [h,j,B] n) (F 37)
def aeQ (c:CH) (x:QH) (w:List GV) (H:GH):RS:=U2 w λr o=>
 ln 9 r λs=>
 ln 9 o λt=>
 bn .geq 3 s t λb=>
 lU (rG b true H (some (r,H))) λu p=>
 lU (rG b true p (some (o,p))) λv q=>
 lU (rG b true q (ob (Sa y 9 v) λf=>some (f,q))) λj a=>
 lU (rG b true a (ob (CS y 9 u none (some j) a) λg=>some (g,a))) λk d=>
 lU (rG b true d (some (o,d))) λl e=>
 lU (rG b true e (ob (FX y .eql 9 k l) λh=>some (h,e))) λm i=>
 ob (CR b m (.bool false)) λn=>
 oR [n] i
def aeR (c:CH) (g:QH) (d:List GV) (H:GH):RS:=U2 d λe f=>
 K c 265 [e,f] H λb a=>
 oR [b] a
def aeS (c:CH) (h:QH) (f:List GV) (H:GH):RS:=U1 f λg=>
 K c 268 [] H λd a=>
 K c 267 [g,(i 30),d] a λe b=>
 oR [e] b
def aeT (c:CH) (h:QH) (e:List GV) (H:GH):RS:=U2 e λf g=>
 bd 228 [(0,f),(1,g)] λb=>
 lU (xE y 189 1 [(0,b)] H) λd a=>
 oR [d] a
def aeU (c:CH) (D:QH) (C:List GV) (H:GH):RS:=U1 C λh=>
 jn (nB 0 (bn .lss 3 h (i 1) λu=>
 lU (rG u false H (some (h,H))) λz v=>
 lU (rG u false v (ob (FX y .gtr 3 z (i 43)) λw=>some (w,v))) λA a=>
 ob (CR u (.bool true) A) λB=>
 ob (GV.asB B) λx=>jn (bC x (bn .leq 3 h (i 17) λr=>
 ob (GV.asB r) λo=>jn (bC o (bn .leq 3 h (i 29) λs=>
 ob (GV.asB s) λp=>jn (bC p (bn .leq 3 h (i 42) λt=>
 ob (GV.asB t) λq=>jn (bC q (oN [] a) (oR [(i 2)] a)) λb j=>U0 b (oN [] j)) (oR [(i 1)] a)) λd k=>U0 d (oN [] k)) (oR [(i 0)] a)) λe l=>U0 e (oN [] l)) (oR [(.int .i64 (.negSucc 0))] a)) λf m=>U0 f (oN [] m))) λg n=>U0 g (oR [(i 3)] n)
def aeV (c:CH) (q:QH) (u:List GV) (H:GH):RS:=U2 u λm v=>
 K c 217 [m,(i 0)] H λr n=>
 ln 189 m λs=>
 bn .neq 3 r s λt=>
 ob (GV.asB t) λp=>jn (bC p (oN [m,v] n) (oR [(i 0),(.bool false)] n)) λl o=>U2 l λa e=>ln 189 a λg=>
 bn .sub 3 g (i 1) λh=>
 jn (nB 0 (q 38 [a,e,.snil,h] o)) λd b=>U1 d λf=>ix 22 f (i 0) λj=>
 ld 3 j b λk=>
 oR [k,(.bool true)] b
def L38 (c:CH) (ql:QH) (us:List GV) (H:GH):RS:=U4 us λt u e f=>jn (bn .geq 3 f (i 0) λL=>
 ob (GV.asB L) λJ=>jn (bC J (oX 0 [e] H) (oN [t,u,e,f] H)) λq m=>U4 q λg v a h=>jn (nB 1 (ln 22 a λM=>
 ix 189 g h λN=>
 fd 228 0 N λO=>
 ld 3 O m λP=>
 K c 246 [P] m λQ n=>
 bn .sub 3 M Q λo=>
 ob (CS y 22 a (some o) none n) λp=>
 ln 22 p λR=>
 jn (nB 2 (ql 39 [g,v,a,h,o,(i 0),p,R,(i 0)] n)) λr b=>U6 r λj k w l x z=>ob (CS y 22 w none (some x) b) λS=>
 ix 189 j l λT=>
 fd 228 0 T λU=>
 ld 3 U b λV=>
 ob (GV.asF k) λd=>lU (c d.1 (d.2.1++[V,z]++d.2.2) b) λW E=>
 lU (xE y 22 1 [(0,W)] E) λX F=>
 lU (OG y 22 22 S X F) λY G=>
 oN [j,k,Y,l] G)) λs I=>U4 s λA B C D=>bn .sub 3 D (i 1) λaa=>
 oN [A,B,C,aa] I) (ql 38)
def L39 (c:CH) (O:QH) (P:List GV) (H:GH):RS:=U9 P λd e f g h j s k l=>jn (bn .lss 3 l k λK=>
 ob (GV.asB K) λJ=>jn (bC J (oX 2 [d,e,f,g,h,j] H) (oN [d,e,f,g,h,j,s,k,l] H)) λq o=>U9 q λt u v w x y m z n=>jn (nB 3 (ix 22 m n λL=>
 ld 3 L o λM=>
 ob (Sb y M) λN=>
 oN [t,u,v,w,x,N,m,z,n] o)) λr I=>U9 r λA B C D E F G a b=>bn .add 3 b (i 1) λp=>
 oN [A,B,C,D,E,F,G,a,p] I) (O 39)
def aeW (c:CH) (e:QH) (b:List GV) (H:GH):RS:=U2 b λf d=>
 bn .add 3 d (i 1) λa=>
 oR [a] H
def aeX (c:CH) (m:QH) (k:List GV) (H:GH):RS:=U2 k λl d=>
 K c 250 [l] H λh b=>
 ob (GV.asB h) λg=>jn (bC g (oN [d] b) (bn .add 3 d (i 1) λj=>
 oR [j] b)) λa f=>U1 a λe=>oR [e] f
def aeY (c:CH) (l:QH) (k:List GV) (H:GH):RS:=U1 k λd=>
 bn .geq 3 d (i 20) λa=>
 lU (rG a true H (some (d,H))) λg b=>
 lU (rG a true b (ob (FX y .leq 3 g (i 29)) λe=>some (e,b))) λh f=>
 ob (CR a h (.bool false)) λj=>
 oR [j] f
def aeZ (c:CH) (m:QH) (o:List GV) (H:GH):RS:=U3 o λg p q=>
 bn .eql 9 g (.str 0 0) λn=>
 ob (GV.asB n) λl=>jn (bC l (oN [g,p,q] H) (oR [(i 0)] H)) λf k=>U3 f λh j a=>ln 128 a λe=>
 jn (nB 0 (m 42 [h,j,a,e,(i 0)] k)) λb d=>U0 b (oR [(i 0)] d)
def L42 (c:CH) (L:QH) (M:List GV) (H:GH):RS:=U5 M λm n o d e=>jn (bn .lss 3 e d λE=>
 ob (GV.asB E) λC=>jn (bC C (oX 0 [] H) (oN [m,n,o,d,e] H)) λj b=>U5 j λf g h p a=>jn (nB 1 (ix 128 h a λF=>
 ld 9 F b λG=>
 bn .eql 9 G f λI=>
 ob (GV.asB I) λD=>jn (bC D (oN [f,g,h,p,a] b) (bn .add 3 g a λJ=>
 oR [J] b)) λk A=>U5 k λq r s t u=>oN [q,r,s,t,u] A)) λl B=>U5 l λv w x y z=>bn .add 3 z (i 1) λK=>
 oN [v,w,x,y,K] B) (L 42)
def ae_ (c:CH) (h:QH) (e:List GV) (H:GH):RS:=U2 e λf g=>
 ob (GV.asB f) λd=>jn (bC d (oN [] H) (oR [g] H)) λa b=>U0 a (oR [(i 0)] b)
def afa (c:CH) (h:QH) (f:List GV) (H:GH):RS:=U1 f λg=>
 K c 292 [] H λd a=>
 K c 267 [g,(i 2),d] a λe b=>
 oR [e] b
def afb (c:CH) (h:QH) (f:List GV) (H:GH):RS:=U1 f λg=>
 K c 293 [] H λd a=>
 K c 267 [g,(i 20),d] a λe b=>
 oR [e] b
def afc (c:CH) (f:QH) (g:List GV) (H:GH):RS:=U1 g λh=>
 jn (nB 0 (f 43 [h,(i 0),(i 0),.snil,.snil,(i 0)] H)) λa e=>U2 a λb d=>oR [b,d] e
def L43 (c:CH) (ql:QH) (us:List GV) (H:GH):RS:=U6 us λa6 a7 a8 a9 u h=>jn (ln 189 a6 λad=>
 bn .lss 3 h ad λae=>
 ob (GV.asB ae) λac=>jn (bC ac (oX 0 [a7,a8] H) (oN [a6,a7,a8,a9,u,h] H)) λq b=>U6 q λe v w x z f=>jn (nB 1 (ix 189 e f λaf=>
 fd 228 0 af λn=>
 ld 3 n b λag=>
 ob (Option.casesOn (motive:=λ_=>Option (Option (Nat×Nat))) (ob (GV.asP n) λp=>some p.1) (some none) λm=>ob (GH.ver b m) λab=>some (some (m,ab))) λav=>
 K c 200 [ag] b λah k=>
 ob (some ()) λ_=>
 lU (xE y 22 1 [(0,ah)] k) λai l=>
 ob (some ()) λ_=>
 lU (OG y 22 22 x ai l) λaj g=>
 ob (some ()) λ_=>
 ix 189 e f λak=>
 fd 228 0 ak λo=>
 ld 3 o g λal=>
 ob (Option.casesOn (motive:=λ_=>Option (Option (Nat×Nat))) (ob (GV.asP o) λp=>some p.1) (some none) λa=>ob (GH.ver g a) λd=>vck l a d (vck k a d (vck b a d (some (some (a,d)))))) λaw=>
 K c 202 [al] g λam U=>
 ob (some ()) λ_=>
 lU (xE y 272 1 [(0,am)] U) λan V=>
 ob (some ()) λ_=>
 lU (OG y 272 272 z an V) λao W=>
 ob (some ()) λ_=>
 jn (nB 2 (ql 44 [e,v,w,aj,ao,f,(i 0),(i 0)] W)) λr X=>U7 r λA B C j D E F=>ln 22 j λap=>
 ob (Sb B ap) λaq=>
 ob (Sb C F) λar=>
 jn (nB 4 (ql 45 [A,aq,ar,j,D,E] X)) λs Y=>U6 s λG I J L M N=>oN [G,I,J,L,M,N] Y)) λt aa=>U6 t λO P Q R S T=>bn .add 3 T (i 1) λau=>
 oN [O,P,Q,R,S,au] aa) (ql 43)
def L44 (c:CH) (X:QH) (Y:List GV) (H:GH):RS:=U8 Y λy z A B a C D E=>jn (ln 272 a λT=>
 bn .lss 3 E T λU=>
 ob (GV.asB U) λR=>jn (bC R (oX 2 [y,z,A,B,a,C,D] H) (oN [y,z,A,B,a,C,D,E] H)) λQ e=>U8 Q λF G I J b K L d=>jn (nB 3 (ix 272 b d λV=>
 ld 4 V e λW=>
 ob (GV.asB W) λS=>jn (bC S (oN [F,G,I,J,b,K,L,d] e) (bn .add 3 L (i 1) λO=>
 oN [F,G,I,J,b,K,O,d] e)) λf M=>U8 f λh j k l m n o p=>oN [h,j,k,l,m,n,o,p] M)) λg N=>U8 g λq r s t u v w x=>bn .add 3 x (i 1) λP=>
 oN [q,r,s,t,u,v,w,P] N) (X 44)
def L45 (c:CH) (ql:QH) (us:List GV) (H:GH):RS:=U6 us λg h j d k l=>jn (ln 22 d λac=>
 bn .gtr 3 ac (i 0) λa=>
 lU (rG a true H (some (d,H))) λad s=>
 lU (rG a true s (some (d,s))) λae t=>
 lU (rG a true t (ob (Sa y 22 ae) λR=>some (R,t))) λaf u=>
 lU (rG a true u (ob (FX y .sub 3 af (i 1)) λS=>some (S,u))) λag v=>
 lU (rG a true v (ob (OH y 22 ad ag) λT=>some (T,v))) λah f=>
 lU (rG a true f (ob (CQ y 3 ah f) λU=>some (U,f))) λai w=>
 lU (rG a true w (ob (FX y .eql 3 ai (i 0)) λV=>some (V,w))) λaj x=>
 ob (CR a aj (.bool false)) λak=>
 ob (GV.asB ak) λaa=>jn (bC aa (oX 4 [g,h,j,d,k,l] x) (oN [g,h,j,d,k,l] x)) λB e=>U6 B λm n o p q r=>jn (nB 5 (ln 22 p λal=>
 bn .sub 3 al (i 1) λam=>
 ob (CS y 22 p none (some am) e) λb=>
 ln 272 q λan=>
 bn .sub 3 an (i 1) λao=>
 ob (CS y 272 q none (some ao) e) λz=>
 ln 22 b λap=>
 bn .gtr 3 ap (i 0) λaq=>
 ob (GV.asB aq) λab=>jn (bC ab (oN [m,n,o,b,z,r] e) (ln 22 b λar=>
 bn .sub 3 ar (i 1) λA=>
 ix 22 b A λau=>
 ld 3 au e λav=>
 bn .sub 3 av (i 1) λaw=>
 ix 22 b A λax=>
 lU (Dv y 3 ax aw e) λay W=>
 oN [m,n,o,b,z,r] W)) λC X=>U6 C λE F G I J K=>oN [E,F,G,I,J,K] X)) λD Y=>U6 D λL M N O P Q=>oN [L,M,N,O,P,Q] Y) (ql 45)
def afd (c:CH) (h:QH) (f:List GV) (H:GH):RS:=U1 f λg=>
 K c 294 [] H λd a=>
 K c 267 [g,(i 13),d] a λe b=>
 oR [e] b
def afe (c:CH) (e:QH) (d:List GV) (H:GH):RS:=U0 d (lU (xE y 128 5 [(0,(.str 25705 2)),(1,(.str 6776164 3)),(2,(.str 1953460082 4)),(3,(.str 127991760381303 6)),(4,(.str 1801675106 4))] H) λb a=>
 oR [b] a)
def d0:(Code×Cx)×kM:=((gG Tryz.f93 [1,1,1,0,1,0,0],oA Tryz.f93 [(0,32)]),L0)
def d1:(Code×Cx)×kM:=UX (gG Tryz.f96 [1,1,1,0,1,0,0],oA Tryz.f96 [(0,2)]) s96
def d2:(Code×Cx)×kM:=UX (gG Tryz.f96 [1,1,1,1,0,1,0,0],oA Tryz.f96 [(2,2)]) s96
def d3:(Code×Cx)×kM:=UX (gG Tryz.f96 [1,1,1,1,1,1,0,1,0,0],oA Tryz.f96 [(4,0)]) s96
def d4:(Code×Cx)×kM:=((gG Tryz.f145 [1,0,0,0],oA Tryz.f145 [(0,2)]),L4)
def d5:(Code×Cx)×kM:=((gG Tryz.f145 [1,0,0,0,1,0,1,0,1,1,1,0,0,0],oA Tryz.f145 [(3,3),(2,3),(1,3),(0,2)]),L5)
def d6:(Code×Cx)×kM:=gD (gG Tryz.f150 [1,1,1,0,1,0,0],oA Tryz.f150 [(0,33)]) 6
def d7:(Code×Cx)×kM:=((gG Tryz.f151 [1,0,0],oA Tryz.f151 [(0,0)]),L7)
def d8:(Code×Cx)×kM:=gD (gG Tryz.f153 [1,1,1,1,1,0,0,0],oA Tryz.f153 [(0,5)]) 8
def d9:(Code×Cx)×kM:=UX (gG Tryz.f156 [1,1,1,0,1,0,0],oA Tryz.f156 [(0,2)]) acK
def d10:(Code×Cx)×kM:=UX (gG Tryz.f156 [1,1,1,1,1,0,1,0,0],oA Tryz.f156 [(2,0)]) acK
def d11:(Code×Cx)×kM:=gD (gG Tryz.f158 [1,1,1,0,1,0,0],oA Tryz.f158 [(0,0)]) 11
def d12:(Code×Cx)×kM:=gD (gG Tryz.f159 [1,1,0,1,0,0],oA Tryz.f159 [(0,8)]) 12
def d13:(Code×Cx)×kM:=gD (gG Tryz.f160 [1,1,0,1,0,0],oA Tryz.f160 [(0,0)]) 13
def d14:(Code×Cx)×kM:=((gG Tryz.f181 [1,1,0,0,0],oA Tryz.f181 [(0,32)]),L14)
def d15:(Code×Cx)×kM:=gD (gG Tryz.f185 [1,1,1,0,1,0,0],oA Tryz.f185 [(0,16)]) 15
def d16:(Code×Cx)×kM:=((gG Tryz.f186 [1,0,1,0,0],oA Tryz.f186 [(0,1)]),L16)
def d17:(Code×Cx)×kM:=gD (gG Tryz.f190 [1,1,0,1,0,0],oA Tryz.f190 [(0,1)]) 17
def d18:(Code×Cx)×kM:=gD (gG Tryz.f198 [1,1,0,1,0,0],oA Tryz.f198 [(0,1)]) 18
def d19:(Code×Cx)×kM:=gD (gG Tryz.f199 [1,1,0,1,0,0],oA Tryz.f199 [(0,7)]) 19
def d20:(Code×Cx)×kM:=gD (gG Tryz.f206 [1,1,1,0,1,0,0],oA Tryz.f206 [(0,128)]) 20
def d21:(Code×Cx)×kM:=UX (gG Tryz.f207 [1,1,1,0,1,0,0],oA Tryz.f207 [(0,2)]) aav
def d22:(Code×Cx)×kM:=UX (gG Tryz.f207 [1,1,1,1,0,1,0,0],oA Tryz.f207 [(2,2)]) aav
def d23:(Code×Cx)×kM:=UX (gG Tryz.f207 [1,1,1,1,1,0,1,0,0],oA Tryz.f207 [(4,0)]) aav
def d24:(Code×Cx)×kM:=((gG Tryz.f214 [1,1,1,0,0],oA Tryz.f214 [(0,16)]),L24)
def d25:(Code×Cx)×kM:=((gG Tryz.f215 [1,1,0,1,0,0],oA Tryz.f215 [(0,32)]),L25)
def d26:(Code×Cx)×kM:=((gG Tryz.f216 [1,0,1,0,0],oA Tryz.f216 [(0,0)]),L26)
def d27:(Code×Cx)×kM:=((gG Tryz.f217 [1,1,0,1,0,0],oA Tryz.f217 [(0,0)]),L27)
def d28:(Code×Cx)×kM:=gD (gG Tryz.f221 [1,1,1,1,1,1,0,1,0,0],oA Tryz.f221 [(0,1408)]) 28
def d29:(Code×Cx)×kM:=((gG Tryz.f228 [1,1,1,0,1,0,0],oA Tryz.f228 [(0,0)]),L29)
def d30:(Code×Cx)×kM:=UX (gG Tryz.f230 [1,1,0,1,0,0],oA Tryz.f230 [(0,2)]) XE
def d31:(Code×Cx)×kM:=UX (gG Tryz.f230 [1,1,1,0,1,0,0],oA Tryz.f230 [(4,0)]) XE
def d32:(Code×Cx)×kM:=UX (gG Tryz.f230 [1,1,0,1,0,0,1,0,0,0,1,0,0],oA Tryz.f230 [(2,10),(1,10),(0,2)]) XE
def d33:(Code×Cx)×kM:=UX (gG Tryz.f230 [1,1,1,0,1,0,0,1,0,0,0,1,0,0],oA Tryz.f230 [(6,34),(5,34),(4,0)]) XE
def d34:(Code×Cx)×kM:=gD1 (gG Tryz.f232 [1,1,0,1,0,0],oA Tryz.f232 [(0,0)]) 1 34 35
def d35:(Code×Cx)×kM:=gD (gG Tryz.f232 [1,1,0,1,0,0,1,0,0,1,1,0,0],oA Tryz.f232 [(2,38),(1,38),(0,0)]) 35
def d36:(Code×Cx)×kM:=gD (gG Tryz.f233 [1,1,0,1,0,0],oA Tryz.f233 [(0,0)]) 36
def d37:(Code×Cx)×kM:=((gG Tryz.f234 [1,1,0,1,0,0],oA Tryz.f234 [(0,8)]),L37)
def d38:(Code×Cx)×kM:=((gG Tryz.f247 [1,1,1,0,1,0,0],oA Tryz.f247 [(0,64)]),L38)
def d39:(Code×Cx)×kM:=((gG Tryz.f247 [1,1,1,0,1,0,0,1,0,0,1,1,0,1,0,0],oA Tryz.f247 [(2,963),(1,195),(0,64)]),L39)
def d40:(Code×Cx)×kM:=gD (gG Tryz.f255 [1,1,0,1,0,0],oA Tryz.f255 [(0,1)]) 40
def d41:(Code×Cx)×kM:=gD (gG Tryz.f257 [1,1,0,1,0,0],oA Tryz.f257 [(0,0)]) 41
def d42:(Code×Cx)×kM:=((gG Tryz.f267 [1,1,0,1,0,0],oA Tryz.f267 [(0,0)]),L42)
def d43:(Code×Cx)×kM:=((gG Tryz.f289 [1,1,1,1,0,1,0,0],oA Tryz.f289 [(0,48)]),L43)
def d44:(Code×Cx)×kM:=((gG Tryz.f289 [1,1,1,1,0,1,0,0,1,0,0,1,1,0,1,0,0],oA Tryz.f289 [(2,1009),(1,497),(0,48)]),L44)
def d45:(Code×Cx)×kM:=((gG Tryz.f289 [1,1,1,1,0,1,0,0,1,0,0,1,1,1,1,0,0],oA Tryz.f289 [(4,497),(1,497),(0,48)]),L45)
def Tp (f:Nat):Option (Func×kM):=(tN f 218 (tN f 186 (tN f 155 (tN f 146 (tN f 95 (tN f 43 (tL f 9 (Tryz.f9,(gB Tryz.f9))) (tN f 93 (tL f 43 (Tryz.f43,(gB Tryz.f43))) (tL f 93 (Tryz.f93,B93)))) (tN f 96 (tL f 95 (Tryz.f95,(gB Tryz.f95))) (tN f 145 (tL f 96 (Tryz.f96,(gBs Tryz.f96 s96))) (tL f 145 (Tryz.f145,aeu))))) (tN f 151 (tN f 149 (tL f 146 (Tryz.f146,(gB Tryz.f146))) (tN f 150 (tL f 149 (Tryz.f149,(gB Tryz.f149))) (tL f 150 (Tryz.f150,(Rc Tryz.f150 6))))) (tN f 153 (tN f 152 (tL f 151 (Tryz.f151,aev)) (tL f 152 (Tryz.f152,(gB Tryz.f152)))) (tN f 154 (tL f 153 (Tryz.f153,(Rc Tryz.f153 8))) (tL f 154 (Tryz.f154,aew)))))) (tN f 168 (tN f 158 (tN f 156 (tL f 155 (Tryz.f155,(gB Tryz.f155))) (tN f 157 (tL f 156 (Tryz.f156,(gBs Tryz.f156 acK))) (tL f 157 (Tryz.f157,(gB Tryz.f157))))) (tN f 159 (tL f 158 (Tryz.f158,(Rc Tryz.f158 11))) (tN f 160 (tL f 159 (Tryz.f159,(Rc Tryz.f159 12))) (tL f 160 (Tryz.f160,(Rc Tryz.f160 13)))))) (tN f 182 (tN f 169 (tL f 168 (Tryz.f168,aex)) (tN f 181 (tL f 169 (Tryz.f169,aey)) (tL f 181 (Tryz.f181,aez)))) (tN f 184 (tN f 183 (tL f 182 (Tryz.f182,aeA)) (tL f 183 (Tryz.f183,aeB))) (tN f 185 (tL f 184 (Tryz.f184,(gB Tryz.f184))) (tL f 185 (Tryz.f185,(Rc Tryz.f185 15)))))))) (tN f 199 (tN f 192 (tN f 189 (tN f 187 (tL f 186 (Tryz.f186,aeC)) (tN f 188 (tL f 187 (Tryz.f187,aeD)) (tL f 188 (Tryz.f188,aeE)))) (tN f 190 (tL f 189 (Tryz.f189,(gB Tryz.f189))) (tN f 191 (tL f 190 (Tryz.f190,(Rc Tryz.f190 17))) (tL f 191 (Tryz.f191,aeF))))) (tN f 195 (tN f 193 (tL f 192 (Tryz.f192,(gB Tryz.f192))) (tN f 194 (tL f 193 (Tryz.f193,(gB Tryz.f193))) (tL f 194 (Tryz.f194,(gB Tryz.f194))))) (tN f 197 (tN f 196 (tL f 195 (Tryz.f195,(gB Tryz.f195))) (tL f 196 (Tryz.f196,(gB Tryz.f196)))) (tN f 198 (tL f 197 (Tryz.f197,(gB Tryz.f197))) (tL f 198 (Tryz.f198,(Rc Tryz.f198 18))))))) (tN f 211 (tN f 206 (tN f 200 (tL f 199 (Tryz.f199,(Rc Tryz.f199 19))) (tN f 202 (tL f 200 (Tryz.f200,(gB Tryz.f200))) (tL f 202 (Tryz.f202,(gB Tryz.f202))))) (tN f 207 (tL f 206 (Tryz.f206,(Rc Tryz.f206 20))) (tN f 210 (tL f 207 (Tryz.f207,(gBs Tryz.f207 aav))) (tL f 210 (Tryz.f210,aeG))))) (tN f 214 (tN f 212 (tL f 211 (Tryz.f211,aeH)) (tN f 213 (tL f 212 (Tryz.f212,(gB Tryz.f212))) (tL f 213 (Tryz.f213,(gB Tryz.f213))))) (tN f 216 (tN f 215 (tL f 214 (Tryz.f214,aeI)) (tL f 215 (Tryz.f215,aeJ))) (tN f 217 (tL f 216 (Tryz.f216,aeK)) (tL f 217 (Tryz.f217,aeL)))))))) (tN f 255 (tN f 241 (tN f 230 (tN f 221 (tN f 219 (tL f 218 (Tryz.f218,(gB Tryz.f218))) (tN f 220 (tL f 219 (Tryz.f219,aeM)) (tL f 220 (Tryz.f220,aeN)))) (tN f 228 (tL f 221 (Tryz.f221,(Rc Tryz.f221 28))) (tN f 229 (tL f 228 (Tryz.f228,aeO)) (tL f 229 (Tryz.f229,(gB Tryz.f229)))))) (tN f 233 (tN f 231 (tL f 230 (Tryz.f230,(gBs Tryz.f230 XE))) (tN f 232 (tL f 231 (Tryz.f231,(gB Tryz.f231))) (tL f 232 (Tryz.f232,(Rc Tryz.f232 34))))) (tN f 239 (tN f 234 (tL f 233 (Tryz.f233,(Rc Tryz.f233 36))) (tL f 234 (Tryz.f234,aeP))) (tN f 240 (tL f 239 (Tryz.f239,aeQ)) (tL f 240 (Tryz.f240,aeR)))))) (tN f 247 (tN f 244 (tN f 242 (tL f 241 (Tryz.f241,(gB Tryz.f241))) (tN f 243 (tL f 242 (Tryz.f242,(gB Tryz.f242))) (tL f 243 (Tryz.f243,aeS)))) (tN f 245 (tL f 244 (Tryz.f244,(gB Tryz.f244))) (tN f 246 (tL f 245 (Tryz.f245,aeT)) (tL f 246 (Tryz.f246,aeU))))) (tN f 250 (tN f 248 (tL f 247 (Tryz.f247,aeV)) (tN f 249 (tL f 248 (Tryz.f248,aeW)) (tL f 249 (Tryz.f249,aeX)))) (tN f 252 (tN f 251 (tL f 250 (Tryz.f250,aeY)) (tL f 251 (Tryz.f251,(gB Tryz.f251)))) (tN f 253 (tL f 252 (Tryz.f252,(gB Tryz.f252))) (tL f 253 (Tryz.f253,(gB Tryz.f253)))))))) (tN f 275 (tN f 268 (tN f 258 (tN f 256 (tL f 255 (Tryz.f255,(Rc Tryz.f255 40))) (tN f 257 (tL f 256 (Tryz.f256,(gB Tryz.f256))) (tL f 257 (Tryz.f257,(Rc Tryz.f257 41))))) (tN f 266 (tL f 258 (Tryz.f258,(gB Tryz.f258))) (tN f 267 (tL f 266 (Tryz.f266,(gB Tryz.f266))) (tL f 267 (Tryz.f267,aeZ))))) (tN f 271 (tN f 269 (tL f 268 (Tryz.f268,(gB Tryz.f268))) (tN f 270 (tL f 269 (Tryz.f269,ae_)) (tL f 270 (Tryz.f270,(gB Tryz.f270))))) (tN f 273 (tN f 272 (tL f 271 (Tryz.f271,(gB Tryz.f271))) (tL f 272 (Tryz.f272,(gB Tryz.f272)))) (tN f 274 (tL f 273 (Tryz.f273,(gB Tryz.f273))) (tL f 274 (Tryz.f274,(gB Tryz.f274))))))) (tN f 287 (tN f 278 (tN f 276 (tL f 275 (Tryz.f275,(gB Tryz.f275))) (tN f 277 (tL f 276 (Tryz.f276,(gB Tryz.f276))) (tL f 277 (Tryz.f277,(gB Tryz.f277))))) (tN f 285 (tN f 279 (tL f 278 (Tryz.f278,(gB Tryz.f278))) (tL f 279 (Tryz.f279,(gB Tryz.f279)))) (tN f 286 (tL f 285 (Tryz.f285,(gB Tryz.f285))) (tL f 286 (Tryz.f286,afa))))) (tN f 291 (tN f 288 (tL f 287 (Tryz.f287,afb)) (tN f 289 (tL f 288 (Tryz.f288,(gB Tryz.f288))) (tL f 289 (Tryz.f289,afc)))) (tN f 293 (tN f 292 (tL f 291 (Tryz.f291,afd)) (tL f 292 (Tryz.f292,(gB Tryz.f292)))) (tN f 294 (tL f 293 (Tryz.f293,(gB Tryz.f293))) (tL f 294 (Tryz.f294,afe)))))))))
def aaY (f:Nat):Option ((Code×Cx)×kM):=(tN f 23 (tN f 11 (tN f 5 (tN f 2 (tN f 1 (tL f 0 d0) (tL f 1 d1)) (tN f 3 (tL f 2 d2) (tN f 4 (tL f 3 d3) (tL f 4 d4)))) (tN f 8 (tN f 6 (tL f 5 d5) (tN f 7 (tL f 6 d6) (tL f 7 d7))) (tN f 9 (tL f 8 d8) (tN f 10 (tL f 9 d9) (tL f 10 d10))))) (tN f 17 (tN f 14 (tN f 12 (tL f 11 d11) (tN f 13 (tL f 12 d12) (tL f 13 d13))) (tN f 15 (tL f 14 d14) (tN f 16 (tL f 15 d15) (tL f 16 d16)))) (tN f 20 (tN f 18 (tL f 17 d17) (tN f 19 (tL f 18 d18) (tL f 19 d19))) (tN f 21 (tL f 20 d20) (tN f 22 (tL f 21 d21) (tL f 22 d22)))))) (tN f 34 (tN f 28 (tN f 25 (tN f 24 (tL f 23 d23) (tL f 24 d24)) (tN f 26 (tL f 25 d25) (tN f 27 (tL f 26 d26) (tL f 27 d27)))) (tN f 31 (tN f 29 (tL f 28 d28) (tN f 30 (tL f 29 d29) (tL f 30 d30))) (tN f 32 (tL f 31 d31) (tN f 33 (tL f 32 d32) (tL f 33 d33))))) (tN f 40 (tN f 37 (tN f 35 (tL f 34 d34) (tN f 36 (tL f 35 d35) (tL f 36 d36))) (tN f 38 (tL f 37 d37) (tN f 39 (tL f 38 d38) (tL f 39 d39)))) (tN f 43 (tN f 41 (tL f 40 d40) (tN f 42 (tL f 41 d41) (tL f 42 d42))) (tN f 44 (tL f 43 d43) (tN f 45 (tL f 44 d44) (tL f 45 d45)))))))
def Jb:HM:=⟨Tp,aaY⟩
def FO (f:Nat) (e:Func×kM):Prop:=(∀(c:CH) (a:LH) us H,e.2 c (Jb.loop a) us H=UW Ad c a e.1 us H)∧Tryz.prog.funcs[f]? = some e.1∧bD Tryz.prog f∧okF y e.1=true
def LO (e:(Code×Cx)×kM):Prop:=∀(c:CH) (a:LH) us H,e.2 c (Jb.loop a) us H=evL Ad c a e.1.1 e.1.2 us H
theorem rF {f n:Nat} {x e:Func×kM} (h:FO n x):tL f n x=some e->FO f e:=rL h
theorem CU {f n:Nat} {x e:(Code×Cx)×kM} (h:LO x):tL f n x=some e->LO e:=rL (R:=λ_=>LO) h
theorem MW {f:Nat} {e:Func×kM}:Tp f=some e->FO f e:=(rN (rN (rN (rN (rN (rN (rF ⟨λ_ _ _ _=>by kernel_rfl,Tryz.func9,Tryz.call9,by kernel_rfl⟩) (rN (rF ⟨λ_ _ _ _=>by kernel_rfl,Tryz.func43,Tryz.call43,by kernel_rfl⟩) (rF ⟨λ_ _ _ _=>by kernel_rfl,Tryz.func93,Tryz.call93,by kernel_rfl⟩))) (rN (rF ⟨λ_ _ _ _=>by kernel_rfl,Tryz.func95,Tryz.call95,by kernel_rfl⟩) (rN (rF ⟨λ_ _ _ _=>by kernel_rfl,Tryz.func96,Tryz.call96,by kernel_rfl⟩) (rF ⟨λ_ _ _ _=>by kernel_rfl,Tryz.func145,Tryz.call145,by kernel_rfl⟩)))) (rN (rN (rF ⟨λ_ _ _ _=>by kernel_rfl,Tryz.func146,Tryz.call146,by kernel_rfl⟩) (rN (rF ⟨λ_ _ _ _=>by kernel_rfl,Tryz.func149,Tryz.call149,by kernel_rfl⟩) (rF ⟨λ_ _ _ _=>by kernel_rfl,Tryz.func150,Tryz.call150,by kernel_rfl⟩))) (rN (rN (rF ⟨λ_ _ _ _=>by kernel_rfl,Tryz.func151,Tryz.call151,by kernel_rfl⟩) (rF ⟨λ_ _ _ _=>by kernel_rfl,Tryz.func152,Tryz.call152,by kernel_rfl⟩)) (rN (rF ⟨λ_ _ _ _=>by kernel_rfl,Tryz.func153,Tryz.call153,by kernel_rfl⟩) (rF ⟨λ_ _ _ _=>by kernel_rfl,Tryz.func154,Tryz.call154,by kernel_rfl⟩))))) (rN (rN (rN (rF ⟨λ_ _ _ _=>by kernel_rfl,Tryz.func155,Tryz.call155,by kernel_rfl⟩) (rN (rF ⟨λ_ _ _ _=>by kernel_rfl,Tryz.func156,Tryz.call156,by kernel_rfl⟩) (rF ⟨λ_ _ _ _=>by kernel_rfl,Tryz.func157,Tryz.call157,by kernel_rfl⟩))) (rN (rF ⟨λ_ _ _ _=>by kernel_rfl,Tryz.func158,Tryz.call158,by kernel_rfl⟩) (rN (rF ⟨λ_ _ _ _=>by kernel_rfl,Tryz.func159,Tryz.call159,by kernel_rfl⟩) (rF ⟨λ_ _ _ _=>by kernel_rfl,Tryz.func160,Tryz.call160,by kernel_rfl⟩)))) (rN (rN (rF ⟨λ_ _ _ _=>by kernel_rfl,Tryz.func168,Tryz.call168,by kernel_rfl⟩) (rN (rF ⟨λ_ _ _ _=>by kernel_rfl,Tryz.func169,Tryz.call169,by kernel_rfl⟩) (rF ⟨λ_ _ _ _=>by kernel_rfl,Tryz.func181,Tryz.call181,by kernel_rfl⟩))) (rN (rN (rF ⟨λ_ _ _ _=>by kernel_rfl,Tryz.func182,Tryz.call182,by kernel_rfl⟩) (rF ⟨λ_ _ _ _=>by kernel_rfl,Tryz.func183,Tryz.call183,by kernel_rfl⟩)) (rN (rF ⟨λ_ _ _ _=>by kernel_rfl,Tryz.func184,Tryz.call184,by kernel_rfl⟩) (rF ⟨λ_ _ _ _=>by kernel_rfl,Tryz.func185,Tryz.call185,by kernel_rfl⟩)))))) (rN (rN (rN (rN (rF ⟨λ_ _ _ _=>by kernel_rfl,Tryz.func186,Tryz.call186,by kernel_rfl⟩) (rN (rF ⟨λ_ _ _ _=>by kernel_rfl,Tryz.func187,Tryz.call187,by kernel_rfl⟩) (rF ⟨λ_ _ _ _=>by kernel_rfl,Tryz.func188,Tryz.call188,by kernel_rfl⟩))) (rN (rF ⟨λ_ _ _ _=>by kernel_rfl,Tryz.func189,Tryz.call189,by kernel_rfl⟩) (rN (rF ⟨λ_ _ _ _=>by kernel_rfl,Tryz.func190,Tryz.call190,by kernel_rfl⟩) (rF ⟨λ_ _ _ _=>by kernel_rfl,Tryz.func191,Tryz.call191,by kernel_rfl⟩)))) (rN (rN (rF ⟨λ_ _ _ _=>by kernel_rfl,Tryz.func192,Tryz.call192,by kernel_rfl⟩) (rN (rF ⟨λ_ _ _ _=>by kernel_rfl,Tryz.func193,Tryz.call193,by kernel_rfl⟩) (rF ⟨λ_ _ _ _=>by kernel_rfl,Tryz.func194,Tryz.call194,by kernel_rfl⟩))) (rN (rN (rF ⟨λ_ _ _ _=>by kernel_rfl,Tryz.func195,Tryz.call195,by kernel_rfl⟩) (rF ⟨λ_ _ _ _=>by kernel_rfl,Tryz.func196,Tryz.call196,by kernel_rfl⟩)) (rN (rF ⟨λ_ _ _ _=>by kernel_rfl,Tryz.func197,Tryz.call197,by kernel_rfl⟩) (rF ⟨λ_ _ _ _=>by kernel_rfl,Tryz.func198,Tryz.call198,by kernel_rfl⟩))))) (rN (rN (rN (rF ⟨λ_ _ _ _=>by kernel_rfl,Tryz.func199,Tryz.call199,by kernel_rfl⟩) (rN (rF ⟨λ_ _ _ _=>by kernel_rfl,Tryz.func200,Tryz.call200,by kernel_rfl⟩) (rF ⟨λ_ _ _ _=>by kernel_rfl,Tryz.func202,Tryz.call202,by kernel_rfl⟩))) (rN (rF ⟨λ_ _ _ _=>by kernel_rfl,Tryz.func206,Tryz.call206,by kernel_rfl⟩) (rN (rF ⟨λ_ _ _ _=>by kernel_rfl,Tryz.func207,Tryz.call207,by kernel_rfl⟩) (rF ⟨λ_ _ _ _=>by kernel_rfl,Tryz.func210,Tryz.call210,by kernel_rfl⟩)))) (rN (rN (rF ⟨λ_ _ _ _=>by kernel_rfl,Tryz.func211,Tryz.call211,by kernel_rfl⟩) (rN (rF ⟨λ_ _ _ _=>by kernel_rfl,Tryz.func212,Tryz.call212,by kernel_rfl⟩) (rF ⟨λ_ _ _ _=>by kernel_rfl,Tryz.func213,Tryz.call213,by kernel_rfl⟩))) (rN (rN (rF ⟨λ_ _ _ _=>by kernel_rfl,Tryz.func214,Tryz.call214,by kernel_rfl⟩) (rF ⟨λ_ _ _ _=>by kernel_rfl,Tryz.func215,Tryz.call215,by kernel_rfl⟩)) (rN (rF ⟨λ_ _ _ _=>by kernel_rfl,Tryz.func216,Tryz.call216,by kernel_rfl⟩) (rF ⟨λ_ _ _ _=>by kernel_rfl,Tryz.func217,Tryz.call217,by kernel_rfl⟩))))))) (rN (rN (rN (rN (rN (rF ⟨λ_ _ _ _=>by kernel_rfl,Tryz.func218,Tryz.call218,by kernel_rfl⟩) (rN (rF ⟨λ_ _ _ _=>by kernel_rfl,Tryz.func219,Tryz.call219,by kernel_rfl⟩) (rF ⟨λ_ _ _ _=>by kernel_rfl,Tryz.func220,Tryz.call220,by kernel_rfl⟩))) (rN (rF ⟨λ_ _ _ _=>by kernel_rfl,Tryz.func221,Tryz.call221,by kernel_rfl⟩) (rN (rF ⟨λ_ _ _ _=>by kernel_rfl,Tryz.func228,Tryz.call228,by kernel_rfl⟩) (rF ⟨λ_ _ _ _=>by kernel_rfl,Tryz.func229,Tryz.call229,by kernel_rfl⟩)))) (rN (rN (rF ⟨λ_ _ _ _=>by kernel_rfl,Tryz.func230,Tryz.call230,by kernel_rfl⟩) (rN (rF ⟨λ_ _ _ _=>by kernel_rfl,Tryz.func231,Tryz.call231,by kernel_rfl⟩) (rF ⟨λ_ _ _ _=>by kernel_rfl,Tryz.func232,Tryz.call232,by kernel_rfl⟩))) (rN (rN (rF ⟨λ_ _ _ _=>by kernel_rfl,Tryz.func233,Tryz.call233,by kernel_rfl⟩) (rF ⟨λ_ _ _ _=>by kernel_rfl,Tryz.func234,Tryz.call234,by kernel_rfl⟩)) (rN (rF ⟨λ_ _ _ _=>by kernel_rfl,Tryz.func239,Tryz.call239,by kernel_rfl⟩) (rF ⟨λ_ _ _ _=>by kernel_rfl,Tryz.func240,Tryz.call240,by kernel_rfl⟩))))) (rN (rN (rN (rF ⟨λ_ _ _ _=>by kernel_rfl,Tryz.func241,Tryz.call241,by kernel_rfl⟩) (rN (rF ⟨λ_ _ _ _=>by kernel_rfl,Tryz.func242,Tryz.call242,by kernel_rfl⟩) (rF ⟨λ_ _ _ _=>by kernel_rfl,Tryz.func243,Tryz.call243,by kernel_rfl⟩))) (rN (rF ⟨λ_ _ _ _=>by kernel_rfl,Tryz.func244,Tryz.call244,by kernel_rfl⟩) (rN (rF ⟨λ_ _ _ _=>by kernel_rfl,Tryz.func245,Tryz.call245,by kernel_rfl⟩) (rF ⟨λ_ _ _ _=>by kernel_rfl,Tryz.func246,Tryz.call246,by kernel_rfl⟩)))) (rN (rN (rF ⟨λ_ _ _ _=>by kernel_rfl,Tryz.func247,Tryz.call247,by kernel_rfl⟩) (rN (rF ⟨λ_ _ _ _=>by kernel_rfl,Tryz.func248,Tryz.call248,by kernel_rfl⟩) (rF ⟨λ_ _ _ _=>by kernel_rfl,Tryz.func249,Tryz.call249,by kernel_rfl⟩))) (rN (rN (rF ⟨λ_ _ _ _=>by kernel_rfl,Tryz.func250,Tryz.call250,by kernel_rfl⟩) (rF ⟨λ_ _ _ _=>by kernel_rfl,Tryz.func251,Tryz.call251,by kernel_rfl⟩)) (rN (rF ⟨λ_ _ _ _=>by kernel_rfl,Tryz.func252,Tryz.call252,by kernel_rfl⟩) (rF ⟨λ_ _ _ _=>by kernel_rfl,Tryz.func253,Tryz.call253,by kernel_rfl⟩)))))) (rN (rN (rN (rN (rF ⟨λ_ _ _ _=>by kernel_rfl,Tryz.func255,Tryz.call255,by kernel_rfl⟩) (rN (rF ⟨λ_ _ _ _=>by kernel_rfl,Tryz.func256,Tryz.call256,by kernel_rfl⟩) (rF ⟨λ_ _ _ _=>by kernel_rfl,Tryz.func257,Tryz.call257,by kernel_rfl⟩))) (rN (rF ⟨λ_ _ _ _=>by kernel_rfl,Tryz.func258,Tryz.call258,by kernel_rfl⟩) (rN (rF ⟨λ_ _ _ _=>by kernel_rfl,Tryz.func266,Tryz.call266,by kernel_rfl⟩) (rF ⟨λ_ _ _ _=>by kernel_rfl,Tryz.func267,Tryz.call267,by kernel_rfl⟩)))) (rN (rN (rF ⟨λ_ _ _ _=>by kernel_rfl,Tryz.func268,Tryz.call268,by kernel_rfl⟩) (rN (rF ⟨λ_ _ _ _=>by kernel_rfl,Tryz.func269,Tryz.call269,by kernel_rfl⟩) (rF ⟨λ_ _ _ _=>by kernel_rfl,Tryz.func270,Tryz.call270,by kernel_rfl⟩))) (rN (rN (rF ⟨λ_ _ _ _=>by kernel_rfl,Tryz.func271,Tryz.call271,by kernel_rfl⟩) (rF ⟨λ_ _ _ _=>by kernel_rfl,Tryz.func272,Tryz.call272,by kernel_rfl⟩)) (rN (rF ⟨λ_ _ _ _=>by kernel_rfl,Tryz.func273,Tryz.call273,by kernel_rfl⟩) (rF ⟨λ_ _ _ _=>by kernel_rfl,Tryz.func274,Tryz.call274,by kernel_rfl⟩))))) (rN (rN (rN (rF ⟨λ_ _ _ _=>by kernel_rfl,Tryz.func275,Tryz.call275,by kernel_rfl⟩) (rN (rF ⟨λ_ _ _ _=>by kernel_rfl,Tryz.func276,Tryz.call276,by kernel_rfl⟩) (rF ⟨λ_ _ _ _=>by kernel_rfl,Tryz.func277,Tryz.call277,by kernel_rfl⟩))) (rN (rN (rF ⟨λ_ _ _ _=>by kernel_rfl,Tryz.func278,Tryz.call278,by kernel_rfl⟩) (rF ⟨λ_ _ _ _=>by kernel_rfl,Tryz.func279,Tryz.call279,by kernel_rfl⟩)) (rN (rF ⟨λ_ _ _ _=>by kernel_rfl,Tryz.func285,Tryz.call285,by kernel_rfl⟩) (rF ⟨λ_ _ _ _=>by kernel_rfl,Tryz.func286,Tryz.call286,by kernel_rfl⟩)))) (rN (rN (rF ⟨λ_ _ _ _=>by kernel_rfl,Tryz.func287,Tryz.call287,by kernel_rfl⟩) (rN (rF ⟨λ_ _ _ _=>by kernel_rfl,Tryz.func288,Tryz.call288,by kernel_rfl⟩) (rF ⟨λ_ _ _ _=>by kernel_rfl,Tryz.func289,Tryz.call289,by kernel_rfl⟩))) (rN (rN (rF ⟨λ_ _ _ _=>by kernel_rfl,Tryz.func291,Tryz.call291,by kernel_rfl⟩) (rF ⟨λ_ _ _ _=>by kernel_rfl,Tryz.func292,Tryz.call292,by kernel_rfl⟩)) (rN (rF ⟨λ_ _ _ _=>by kernel_rfl,Tryz.func293,Tryz.call293,by kernel_rfl⟩) (rF ⟨λ_ _ _ _=>by kernel_rfl,Tryz.func294,Tryz.call294,by kernel_rfl⟩))))))))
theorem Xz {f:Nat} {e:(Code×Cx)×kM}:aaY f=some e->LO e:=(rN (rN (rN (rN (rN (CU λ_ _ _ _=>by kernel_rfl) (CU λ_ _ _ _=>by kernel_rfl)) (rN (CU λ_ _ _ _=>by kernel_rfl) (rN (CU λ_ _ _ _=>by kernel_rfl) (CU λ_ _ _ _=>by kernel_rfl)))) (rN (rN (CU λ_ _ _ _=>by kernel_rfl) (rN (CU λ_ _ _ _=>by kernel_rfl) (CU λ_ _ _ _=>by kernel_rfl))) (rN (CU λ_ _ _ _=>by kernel_rfl) (rN (CU λ_ _ _ _=>by kernel_rfl) (CU λ_ _ _ _=>by kernel_rfl))))) (rN (rN (rN (CU λ_ _ _ _=>by kernel_rfl) (rN (CU λ_ _ _ _=>by kernel_rfl) (CU λ_ _ _ _=>by kernel_rfl))) (rN (CU λ_ _ _ _=>by kernel_rfl) (rN (CU λ_ _ _ _=>by kernel_rfl) (CU λ_ _ _ _=>by kernel_rfl)))) (rN (rN (CU λ_ _ _ _=>by kernel_rfl) (rN (CU λ_ _ _ _=>by kernel_rfl) (CU λ_ _ _ _=>by kernel_rfl))) (rN (CU λ_ _ _ _=>by kernel_rfl) (rN (CU λ_ _ _ _=>by kernel_rfl) (CU λ_ _ _ _=>by kernel_rfl)))))) (rN (rN (rN (rN (CU λ_ _ _ _=>by kernel_rfl) (CU λ_ _ _ _=>by kernel_rfl)) (rN (CU λ_ _ _ _=>by kernel_rfl) (rN (CU λ_ _ _ _=>by kernel_rfl) (CU λ_ _ _ _=>by kernel_rfl)))) (rN (rN (CU λ_ _ _ _=>by kernel_rfl) (rN (CU λ_ _ _ _=>by kernel_rfl) (CU λ_ _ _ _=>by kernel_rfl))) (rN (CU λ_ _ _ _=>by kernel_rfl) (rN (CU λ_ _ _ _=>by kernel_rfl) (CU λ_ _ _ _=>by kernel_rfl))))) (rN (rN (rN (CU λ_ _ _ _=>by kernel_rfl) (rN (CU λ_ _ _ _=>by kernel_rfl) (CU λ_ _ _ _=>by kernel_rfl))) (rN (CU λ_ _ _ _=>by kernel_rfl) (rN (CU λ_ _ _ _=>by kernel_rfl) (CU λ_ _ _ _=>by kernel_rfl)))) (rN (rN (CU λ_ _ _ _=>by kernel_rfl) (rN (CU λ_ _ _ _=>by kernel_rfl) (CU λ_ _ _ _=>by kernel_rfl))) (rN (CU λ_ _ _ _=>by kernel_rfl) (rN (CU λ_ _ _ _=>by kernel_rfl) (CU λ_ _ _ _=>by kernel_rfl)))))))
theorem EC:Kw Jb Ad:=⟨λh=>(MW h).1,Xz⟩
theorem Xy {f:Nat} {e:Func×kM} (h:Tp f=some e):Tryz.prog.funcs[f]? = some e.1∧bD Tryz.prog f∧okF y e.1=true:=(MW h).2
end
end Go.Gx
end
namespace Go.Gx
open Go Go.Sx
section
variable {P:Program} {gs:By} {w0:g_ gs} {tb:TB}
theorem Pm:sV P w0 (λ_ _ _=>none):=λf b H g a h=>by cases h
theorem Jx:II P w0 tb (λ_ _ _ _=>none):=λb c d H a h=>by cases h
theorem ZG {C:CH} {G:LH} (y:gY P tb) (Q:P.follows .mixedOrders=true) (k:∀w0:g_ gs,sV P w0 C) (l:II P w0 tb G) {f:Nat} {d:Func} {J:List GV} {H:GH} {c:OW} (L:P.funcs[f]? = some d) (A:okF tb d=true) (h:UW tb C G d J H=some c) (O:c.e = .ret) {t:fQ} {w:World} {s:List Value} (R:iI w0 t H w) (E:qR t J s):
  Calls P f s.toArray w λe u=>∃v a,e = .returned v∧t.le a∧iI w0 a c.H u∧Rl a (UG c.vs) v:=by
 obtain⟨M,N⟩:=PI A;obtain⟨i,D,h⟩:=aH.1 (show ob d.body _=some c from h);obtain⟨K,m,h⟩:=rP h;rw[List.range_eq_range']at m;have r:=KB m;have S:s.length<=d.ntmps:=by rw[<-E.len,r];exact N
 refine x_ L D ?_;have F:lQ t d.ntmps K {tmps:=s.toArray++Array.replicate (d.ntmps - s.toArray.size) undef,defers:=[]}:=by
  refine Nv Z (by simp;omega) E (λj v p=> ?_) m;have z:=bQ p;rw[Nat.zero_add,zB8 (by simpa using z)];simpa using p
 refine Em y Q k l i _ _ _ ⟨K,H⟩ c t _ w _ (M i D) h F R ⟨λI a B u q b n o=> ?_,λid I a B u q b n o=> ?_,λI a B u q b n o=> ?_⟩
 ·obtain⟨x,v,p,g⟩:=Ig (fn:=d) y Z n o q;exact Sx.body_end (.inr Z) n.defers g ⟨v,a,rfl,b,by rw[x];exact o,p⟩
 ·have:=Cg q;rw[O]at this;cases this
 ·obtain⟨x,v,p,g⟩:=Ig (fn:=d) y Z n o q;exact Sx.body_end (.inl Z) n.defers g ⟨v,a,rfl,b,by rw[x];exact o,p⟩
noncomputable def Mu (tb:TB) (f:Nat) (a:Func):CH:=λg b H=>bif Nat.beq g f then MV (UW tb (λ_ _ _=>none) (λ_ _ _ _=>none) a b H)else none
theorem Wc (m:gY P tb) (p:P.follows .mixedOrders=true) {f:Nat} {c:Func} (k:P.funcs[f]? = some c) (n:bD P f) (i:okF tb c=true):sV P w0 (Mu tb f c):=λg r H x j h t w s R q=>by
 unfold Mu at h;cases b:Nat.beq g f with
 |false=>rw[b]at h;cases h
 |true=>
 rw[b]at h;have b:=zA6 b;subst b;replace h:MV (UW tb (λ_ _ _=>none) (λ_ _ _ _=>none) c r H)=some (x,j):=h;unfold MV at h;obtain⟨o,l,a⟩:=aH.1 h;cases d:o.e with
 |normal=>rw[d]at a;cases a
 |exit id=>rw[d]at a;cases a
 |ret=>
  rw[d]at a;cases a;exact .inr ⟨n _ w,ZG m p (λ_=>Pm) Jx k i l d R q⟩
theorem UU {id:Nat} {o:Oper} {l:List Oper} {Q:Exit->Act->List Frame->World->Prop} {a:Act} {d:List Frame} {w:World} (x:l.all kJ=true) (C:o.guard=none) (r:(execOp a.eval o).run P w = .ok .recover w)
  (q:recoverD d=none) (h:Sx.wpList P (o::l).toArray (λe g t=>Q e g d t) l (a.put o.dst .nilIface) w):(Code.region id (o::l).toArray false).wpSIn (FR none) 0 P Q a d w:=by
 intro b k B f u c;have y:(o::l).toArray[0]? = some o:=by simp
 obtain⟨e,g,t,E,i⟩:=wp_opsIn (F:=FR none) (n:=0) (Q:=λe g t=>Q e g d t) (ops:=(o::l).toArray) (List.range' 1 l.length) (a.put o.dst .nilIface) w
  (by rw[wpOpsIn_eq_wpListIn l 1 (by intro j;simp[Nat.add_comm 1 j])];exact Sx.wpList_in l _ w x h) b k d f u c
 have H:Region.wanted o (yielded (o::l).toArray a.tmps)=true:=by simp[Region.wanted,C]
 have A:(lone (b.atR a (.inRegion (o::l).toArray (0::List.range' 1 l.length)::k)) d w).fenced P (FR none):=fenced_oper u c y (λ_ _=>trivial);have p:=stepGR_op (P:=P) (b:=b) (k:=k) (cs:=d) (w:=w) (rest:=List.range' 1 l.length) y H;rw[f,Oper.semAt_none]at p;have m:∀v,(b.atR a (.inRegion (o::l).toArray (0::List.range' 1 l.length)::k)).finish v=b.atR (a.put o.dst v) (.inRegion (o::l).toArray (List.range' 1 l.length)::k):=by
  intro v;rw[Frame.finish_atR,y];rfl
 have D:(b.atR a (.inRegion (o::l).toArray (0::List.range' 1 l.length)::k)).kind = .deferred:=B;have s:=tryRecover_deferred D d;have G:List.range (o::l).toArray.size=0::List.range' 1 l.length:=by simp[List.range_eq_range',List.range'_succ]
 have z:=stepR_region (P:=P) (b:=b) (a:=a) (k:=k) (cs:=d) (w:=w) (id:=id) (ops:=(o::l).toArray);rw[G]at z;refine⟨e,g,d,t,rfl,E,.of_steps (.head (fenced_calm u c Z) z (.one A (step_lone_go ?_))) i⟩
 rw[p,<-m];simp only[Frame.atR,f]at s ⊢;simp[stepG.apply,r,s,q]
theorem Ug {ch:CH} {lp:LH} (I:gY P tb) (hm:P.follows .mixedOrders=true) {f:Nat} {i:Func} {id m d:Nat} {o:Oper} {l:List Oper} {b:Code} {U:Cx} {q:OW} {a:Array Value} {w:World}
  (c:∀w0:g_ noG,sV P w0 ch) (p:II P (g_.one w) tb lp) (X:P.funcs[f]? = some i) (V:i.body=some (.seq (.region id (o::l).toArray false) b)) (B:o.guard=none) (W:o.dst=some d) (A:d<i.ntmps)
  (u:∀ρ w,(execOp ρ o).run P w = .ok .recover w) (K:l.all (IX i.ntmps)=true) (hr:ID tb i.ntmps b=true) (s:i.results = #[]) (aa:a.size<=i.ntmps)
  (h:GE tb ch (o::l) (ZF tb ch lp b m U (If [])) l ⟨[(d,.inil)],H0⟩=some q) (J:q.e = .normal):
  CallsDIn (FR none) 0 P f a .returning w λe u' E=>∃v,e = .returned v∧u' = .returning∧Mh w E:=by
 have D:l.all kJ=true:=zA5.2 λo C=>(uU (zA5.1 K o C)).1;refine callsDIn_of_wpSIn X V trivial λk T M=> ?_;have r:recoverD (k::T)=none:=by simp[recoverD,M]
 refine wpSIn_seq (UU D B (u _ _) r ?_);have F:lQ (λ_=>none) i.ntmps [(d,.inil)] (({tmps:=a++Array.replicate (i.ntmps - a.size) undef,defers:=[]}:Act).put o.dst .nilIface):=by
  rw[W];refine lQ.put ⟨rfl,by simp;omega,λt g B=>(by cases B)⟩ A ?_;exact .inil
 refine HU I (c (g_.one w)) l ⟨[(d,.inil)],H0⟩ _ _ w K F (iI.start (g_.one w) Z) h λs' G S E Y L Q R=> ?_;refine wpSIn_of_wpIn Z ?_;refine Em I hm c p b _ _ _ s' q G S E _ hr Y Q R ⟨λN x H O j n y z=> ?_,λid N x H O j n y z=> ?_,λN x H O j n y z=> ?_⟩
 ·refine⟨y.defers,k.mode,rfl,.tuple #[],?_,_,rfl,M,z.ext.ext⟩
  simp[results,s]
 ·have:=Cg j;rw[J]at this;cases this
 ·have:=Of j;rw[J]at this;cases this
theorem Kj {o:Oper} {l:List Oper} {b:Array Oper} {Q:Exit->Act->World->Prop} {a:Act} {w w':World} {v:Value} (c:o.guard=none) (d:(execOp a.eval o).run P w = .ok (.value v) w') (h:Sx.wpList P b Q l (a.put o.dst v) w'):Sx.wpList P b Q (o::l) a w:=by
 unfold Sx.wpList;rw[if_pos (by simp[Region.wanted,c])];exact .inl (by simp only[Oper.wp,d,Oper.upon];exact h)
theorem Qn {o:Oper} {l:List Oper} {b:Array Oper} {Q:Exit->Act->World->Prop} {a:Act} {w w':World} (c:o.guard=none) (d:(execOp a.eval o).run P w = .ok .skip w') (h:Sx.wpList P b Q l (a.put o.dst undef) w'):Sx.wpList P b Q (o::l) a w:=by
 unfold Sx.wpList;rw[if_pos (by simp[Region.wanted,c])];exact .inl (by simp only[Oper.wp,d,Oper.upon];exact h)
theorem UV {o:Oper} {l:List Oper} {b:Array Oper} {Q:Exit->Act->World->Prop} {a:Act} {w:World} {f:Nat} {args:Array Value} {S:Value->World->Prop} (d:o.guard=none) (g:(execOp a.eval o).run P w = .ok (.enter f args) w)
  (c:Calls P f args w λe w'=>∃v,e = .returned v∧S v w') (h:∀v w',S v w'->Sx.wpList P b Q l (a.put o.dst v) w'):Sx.wpList P b Q (o::l) a w:=by
 unfold Sx.wpList;rw[if_pos (by simp[Region.wanted,d])];refine .inl ?_;simp only[Oper.wp,g,Oper.upon];refine c.mono ?_;rintro e w' ⟨v,rfl,i⟩;exact h v w' i
theorem abV (N:gY P tb) {c cc T1 T2 i0 i1 i2 i3 y0 y1 y2 y3 y4 y5 y6 y7:Nat} {p0 p1 p2 p3 p4 p5 p6 p7:String} {e0 e1 e2 e3 e4 e5 e6 e7:Array Edge} {z:Func} (hf:P.funcs[c]? = some z) (ah:bD P c) (ai:bD P cc)
  (hb:z.body=some (.seq (.region i0 #[⟨some 2,.alloc T1,y0,p0,e0,none⟩,⟨some 3,.alloc T2,y1,p1,e1,none⟩] false)
   (.seq (.region i1 #[⟨some 4,.makeFunc (.func cc) #[] #[.tmp 2,.tmp 3],y2,p2,e2,none⟩,⟨none,.defer ⟨.value (.tmp 4),#[],#[]⟩,y3,p3,e3,none⟩] false)
   (.seq (.region i2 #[⟨some 5,.move (.tmp 0),y4,p4,e4,none⟩,⟨some 6,.call ⟨.value (.tmp 5),#[],#[]⟩,y5,p5,e5,none⟩] false)
   (.seq (.region i3 #[⟨none,.store T1 (.tmp 2) (.const (.int .i64 0)),y6,p6,e6,none⟩,⟨none,.store T2 (.tmp 3) (.const (.int .i64 0)),y7,p7,e7,none⟩] false) .ret)))))
  (hn:z.ntmps=7) (U:z.results = #[.cell 2 T1,.cell 3 T2])
  (ab:∀H,CP tb T1 H=some (.ptr H.n 0,H.new (.cells [Ae]))) (ac:∀H,CP tb T2 H=some (.ptr H.n 0,H.new (.cells [Ae])))
  (af:∀H h c,GH.cells H h=some [c]->Dv tb T1 (.ptr h 0) Ae H=some (.un,H.set h (.cells [Ae]))) (ag:∀H h c,GH.cells H h=some [c]->Dv tb T2 (.ptr h 0) Ae H=some (.un,H.set h (.cells [Ae])))
  (ad:∀H h,GH.cells H h=some [Ae]->CQ tb T1 (.ptr h 0) H=some Ae) (ae:∀H h,GH.cells H h=some [Ae]->CQ tb T2 (.ptr h 0) H=some Ae)
  (O:∀o w,o.size=2->CallsDIn (FR none) 0 P cc o .returning w λe u' l=>∃v,e = .returned v∧u' = .returning∧Mh w l)
  {I:fQ} {g:Nat} {k j:List Value} {w:World} {H E:GH} {c1 c2:GV} (R:iI w0 I H w) (hc:∀i l,I.le i->iI w0 i ((H.new (.cells [Ae])).new (.cells [Ae])) l->∃x,oM P w0 i g (k++j) l x E) (h1:E.cells H.n=some [c1]) (L:E.cells (H.n+1)=some [c2]):
  oM P w0 I c [.func (.func g) k.toArray j.toArray] w (.tup [Ae,Ae]) ((((E.set H.n (.cells [Ae])).set (H.n+1) (.cells [Ae])).del H.n).del (H.n+1)):=by
 let X:=(E.set H.n (.cells [Ae]))
 let u:=X.set (H.n+1) (.cells [Ae]);refine .inr ⟨ah _ w,?_⟩;refine Pn (r:=none) (n:=0) (callsIn_of_wp_defers hf hb trivial ?_);rw[hn];obtain⟨b,w1,aq,ak,C,R1,V⟩:=Jj (P:=P) N R (ab H);obtain⟨d,y,J,al,p,R2,W⟩:=Jj (P:=P) N R1 (ac _);obtain⟨x,hx⟩:=hc J y (fQ.le_trans C p) R2;refine wpIn_seq (uG Z ?_);refine Kj Z (v:=b) (w':=w1) (by simp[execOp,ak]) ?_;refine Kj Z (v:=d) (w':=y) (by simp[execOp,al]) ?_;show Code.wpIn (FR none) 0 P _ _ (⟨#[.func (.func g) k.toArray j.toArray,undef,b,d,undef,undef,undef],[]⟩:Act) y;refine wpIn_seq (wpIn_region_lit ?_);refine wpListIn_plain Z λK hK=>⟨λ_ _=>trivial,?_⟩
 have hm:(Oper.semAt (FR none).round (⟨#[.func (.func g) k.toArray j.toArray,undef,b,d,undef,undef,undef],[]⟩:Act).eval ⟨some 4,.makeFunc (.func cc) #[] #[.tmp 2,.tmp 3],y2,p2,e2,none⟩).run P y = .ok (.value (.func (.func cc) #[] #[b,d])) y:=by
  rw[show(FR none).round=none from rfl,Oper.semAt_none];simp[execOp,Instr.makeFunc,Act.eval]
 rw[hm];refine hK _ _ ?_;show wpListIn _ _ _ _ _ _ (⟨#[.func (.func g) k.toArray j.toArray,undef,b,d,.func (.func cc) #[] #[b,d],undef,undef],[]⟩:Act) y;refine wpListIn_plain Z λK hK=>⟨λ_ _=>trivial,?_⟩
 have hm:(Oper.semAt (FR none).round (⟨#[.func (.func g) k.toArray j.toArray,undef,b,d,.func (.func cc) #[] #[b,d],undef,undef],[]⟩:Act).eval ⟨none,.defer ⟨.value (.tmp 4),#[],#[]⟩,y3,p3,e3,none⟩).run P y = .ok (.defer ⟨.fn (.func cc) #[b,d],#[]⟩) y:=by
  rw[show(FR none).round=none from rfl,Oper.semAt_none];simp[execOp,resolve,Act.eval,Deferred.ofValue]
 rw[hm];refine hK _ _ ?_;show Code.wpIn (FR none) 0 P _ _ (⟨#[.func (.func g) k.toArray j.toArray,undef,b,d,.func (.func cc) #[] #[b,d],undef,undef],[⟨.fn (.func cc) #[b,d],#[]⟩]⟩:Act) y;refine wpIn_seq (uG Z ?_);refine Kj Z (v:= .func (.func g) k.toArray j.toArray) (w':=y) (by simp[execOp,Act.eval]) ?_;show Sx.wpList _ _ _ _ (⟨#[.func (.func g) k.toArray j.toArray,undef,b,d,.func (.func cc) #[] #[b,d],.func (.func g) k.toArray j.toArray,undef],[⟨.fn (.func cc) #[b,d],#[]⟩]⟩:Act) y;have go:∀v D m,J.le m->iI w0 m E D->Code.wpIn (FR none) 0 P (.seq (.region i3 #[⟨none,.store T1 (.tmp 2) (.const (.int .i64 0)),y6,p6,e6,none⟩,⟨none,.store T2 (.tmp 3) (.const (.int .i64 0)),y7,p7,e7,none⟩] false) .ret) (bodyPostDIn (FR none) 0 P z λe l=>∃v i,e = .returned v∧I.le i∧iI w0 i (((u).del H.n).del (H.n+1)) l∧Rl i (.tup [Ae,Ae]) v) (⟨#[.func (.func g) k.toArray j.toArray,undef,b,d,.func (.func cc) #[] #[b,d],.func (.func g) k.toArray j.toArray,v],[⟨.fn (.func cc) #[b,d],#[]⟩]⟩:Act) D:=by
  intro v D m a M;have hz:∀I,Rl I Ae (.int .i64 0):=λI=> .int _ _;obtain⟨_,w4,ar,am,q,R4⟩:=Jk (P:=P) (T:=T1) N M ((V.le p).le a) (hz _) (af _ _ _ h1);have aa:X.cells (H.n+1)=some [c2]:=by
   rw[jO]at L ⊢;rw[sW,if_neg (by omega)];exact L
  obtain⟨_,w5,Y,an,s,R5⟩:=Jk (P:=P) (T:=T2) N R4 ((W.le a).le q) (hz _) (ag _ _ _ aa);refine wpIn_seq (uG Z ?_);refine Qn Z (w':=w4) (by simp[execOp,Act.eval,am]) ?_;refine Qn Z (w':=w5) (by simp[execOp,Act.eval,Act.put,an]) ?_;refine wpIn_ret ?_;show LeavesIn (FR none) 0 P z #[.func (.func g) k.toArray j.toArray,undef,b,d,.func (.func cc) #[] #[b,d],.func (.func g) k.toArray j.toArray,v] _ [⟨.fn (.func cc) #[b,d],#[]⟩] .returning w5;refine leavesIn_cons (f:=cc) (args:= #[b,d]) (by simp) (by simp[FR,Fence.wide]) (by simp[invoke,ai _ w5]) (λ_ _=>trivial) ?_;refine(O #[b,d] w5 Z).mono ?_;rintro e u' w6 ⟨x6,rfl,rfl,Q⟩;have R6:=R5.ext' Q;have F:lQ Y 7 [(2,.ptr H.n 0),(3,.ptr (H.n+1) 0)] (⟨#[.func (.func g) k.toArray j.toArray,undef,b,d,.func (.func cc) #[] #[b,d],.func (.func g) k.toArray j.toArray,v],[]⟩:Act):=by
   refine⟨rfl,rfl,λt g B=> ?_⟩
   rw[Cq]at B;by_cases L:t=2
   ·rw[if_pos L]at B;cases B;rw[L];exact(((V.le p).le a).le q).le s
   ·rw[if_neg L,Cq]at B;by_cases h3:t=3
    ·rw[if_pos h3]at B;cases B;rw[h3];exact((W.le a).le q).le s
    ·rw[if_neg h3]at B;cases B
  have G:RD tb ⟨z.results.toList,0,[]⟩ ⟨[(2,.ptr H.n 0),(3,.ptr (H.n+1) 0)],u⟩=some ⟨.ret,[Ae,Ae],u⟩:=by
   rw[U];have q1:CQ tb T1 (.ptr H.n 0) (u)=some Ae:=ad _ _ (by rw[jO,sW,if_neg (by omega),sW,if_pos Z]);have q2:CQ tb T2 (.ptr (H.n+1) 0) (u)=some Ae:=ae _ _ (by rw[jO,sW,if_pos Z]);show ob (ob (CQ tb T1 (.ptr H.n 0) _) λv=>ob (ob (CQ tb T2 (.ptr (H.n+1) 0) _) λv=>ob (some []) λvs=>some (v::vs)) λvs=>some (v::vs)) _=_;rw[q1,q2];rfl
  obtain⟨_,v6,ap,ao⟩:=Ig (fn:=z) (P:=P) N Z F R6 G;exact⟨v6,ao,v6,Y,rfl,fQ.le_trans C (fQ.le_trans p (fQ.le_trans a (fQ.le_trans q s))),(R6.del _).del _,ap⟩
 rcases hx with⟨v,D,m,hr,a,M,_⟩|⟨hr,A⟩
 ·refine Kj Z (v:=v) (w':=D) (by simpa [execOp,resolve,Act.eval,Deferred.ofValue,invoke]using hr) ?_;exact go v D m a M
 ·refine UV Z (f:=g) (args:=(k++j).toArray) (S:=λv l=>∃i,J.le i∧iI w0 i E l) (by simpa [execOp,resolve,Act.eval,Deferred.ofValue,invoke]using hr) (A.mono ?_) λv D ⟨m,a,M⟩=>go v D m a M;rintro e l ⟨v,i,rfl,aj,R',_⟩;exact⟨v,rfl,i,aj,R'⟩
end
noncomputable section
def Rk (n c:Nat) (a:Nat):Nat->Option Nat:=Nat.rec (motive:=λ_=>Nat->Option Nat) (λ_=>none) (λ_ b i=>Bool.casesOn (motive:=λ_=>Option Nat) (Nat.beq (Nat.mod (Nat.shiftRight n (Nat.mul 8 i)) 256) c) (b (Nat.succ i)) (some i)) a
def afx (k:IntKind):Bool:=match k with
 | .u8=>true
 |_=>false
def WK (b:Nat) (f:Nat) (d:List GV):Option GV:=bif Nat.beq f b then List.casesOn (motive:=λ_=>Option GV) d none (λa r=>List.casesOn (motive:=λ_=>Option GV) r none λc r=>List.casesOn (motive:=λ_=>Option GV) r (ob a.asStr λs=>ob c.asI λp=>ob (asN p.2) λk=>
 bif afx p.1 then(bif Nat.blt k 256 then Option.casesOn (motive:=λ_=>Option GV) (Rk s.1 k s.2 0) (some (.int .i64 (.negSucc 0))) (λi=>some (.int .i64 (.ofNat i)))else none)else none) λ_ _=>none)else none
theorem SX (x:List UInt8) (c:Nat) (m:c<256):∀k i,i+k=x.length->(match Rk (mK x) c k i with|none=>(-1:Int)|some j=>(j:Int))=(if Lib.indexByte (x.drop i) c.toUInt8 = -1 then -1 else Lib.indexByte (x.drop i) c.toUInt8+i)
 |0,i,h=>by
  rw[List.drop_of_length_le (by omega)];simp[Rk,Lib.indexByte]
 | k + 1, i, h => by
  have o:=SX x c m k (i+1) (by omega);have g:i<x.length:=by omega
  have e:Rk (mK x) c (k+1) i=Bool.casesOn (motive:=λ_=>Option Nat) (Nat.beq (Nat.mod (Nat.shiftRight (mK x) (Nat.mul 8 i)) 256) c) (Rk (mK x) c k (i+1)) (some i):=rfl;rw[e,SP x i g,List.drop_eq_getElem_cons g];have a:(x[i]).toNat=c↔x[i]=c.toUInt8:=by
   rw[<-UInt8.toNat_inj];have:c.toUInt8.toNat=c:=by simp[Nat.toUInt8];omega
   rw[this]
  unfold Lib.indexByte;cases d:Nat.beq (x[i]).toNat c with
  |true=>
   have:=a.1 (zA6 d);simp[this]
  | false =>
   have f:¬x[i]=c.toUInt8:=λl=>by
    have:=a.2 l;rw[this]at d;simp at d
   have n:=Lib.indexByte_ge (x.drop (i+1)) c.toUInt8;simp only[beq_iff_eq,f,if_false];rw[o];by_cases b:Lib.indexByte (x.drop (i+1)) c.toUInt8 = -1
   ·simp[b]
   ·rw[if_neg b,if_neg b,if_neg (by omega)]
    push_cast;omega
section
variable {P:Program} {gs:By} {w0:g_ gs}
theorem ZO {u:Nat} {l:Func} (F:P.funcs[u]? = some l) (e:(l.name == "runtime.NumGoroutine")=false) (D:l.body.isNone=true) (I:Extern.findNext l=none) (E:Extern.find l=some Extern.BytealgIndexByte.indexByte)
  {f:Nat} {i:List GV} {g:GV} (h:WK u f i=some g) (q:fQ) (w:World) (o:List Value) (H:GH) (R:iI w0 q H w) (m:qR q i o):oM P w0 q f o w g H:=by
 unfold WK at h;replace h:=cH.1 h;have C:=zA6 h.1;replace h:=h.2;subst C;cases i with
 |nil=>cases h
 |cons a i=>
 cases i with
 |nil=>cases h
 |cons c i=>
 cases i with
 |cons _ _=>cases h
 |nil=>
 obtain⟨s,L,h⟩:=aH.1 (show ob a.asStr _=some g from h);obtain⟨p,J,h⟩:=aH.1 h;obtain⟨k,G,h⟩:=aH.1 h;obtain⟨x,h⟩:=cH.1 h;obtain⟨d,h⟩:=cH.1 h;obtain⟨v,o,rfl,y,m⟩:=m.of_cons;obtain⟨N,o,rfl,b,m⟩:=m.of_cons;rw[m.of_nil];rw[pS L]at y;rw[oE J]at b;obtain⟨S,rfl,A,M⟩:=y.str_inv;have b:=b.int_inv;subst b;have t:p.1 = .u8:=by cases K:p.1<;>rw[K]at x<;>first|rfl|cases x
 have r:p.2=(k:Int):=IK G;have d:k<256:=by simpa using d
 refine .inl ⟨.int .i64 (Lib.indexByte S.data.toList p.2.toNat.toUInt8),w,q,?_,fQ.le_refl _,R,?_⟩
 ·rw[run_callFunc_extern F e D I E,t,Lib.run_indexByteString];rfl
 ·have n:=SX (b_ S) k d s.2 0 (by omega);rw[A]at h;rw[List.drop_zero]at n;have B:Lib.indexByte S.data.toList p.2.toNat.toUInt8=(match Rk (mK (b_ S)) k s.2 0 with|none=>(-1:Int)|some j=>(j:Int)):=by
   rw[n,r];have:b_ S=S.data.toList:=rfl;rw[this];simp only[zAe];split
   ·assumption
   ·omega
  rw[B];cases z:Rk (mK (b_ S)) k s.2 0 with
  |none=>rw[z]at h;cases h;exact .int _ _
  |some j=>rw[z]at h;cases h;exact .int _ _
end
end
noncomputable section
def ab_ {a:Type} (c:Nat) (d:List GV->Option a) (n:Nat):List GV->Option (List a):=Nat.rec (motive:=λ_=>List GV->Option (List a)) (λ_=>some []) (λ_ e b=>ob (d (b.take c)) λy=>ob (e (b.drop c)) λf=>some (y::f)) n
def NL {b:Type} (H:GH) (a:Nat) (d:List GV->Option b) (v:GV):Option (List b):=ob (uL H a v) λp=>bif Nat.ble p.1 1099511627776 then ab_ a d p.1 p.2 else none
def dI (k:IntKind) (a:List GV):Option Int:=List.casesOn (motive:=λ_=>Option Int) a none λc r=>List.casesOn (motive:=λ_=>Option Int) r (ob c.asI λp=>bif decide (p.1=k)then some p.2 else none) λ_ _=>none
def dP {b c:Type} (n:Nat) (d:List GV->Option b) (e:List GV->Option c) (a:List GV):Option (b×c):=ob (d (a.take n)) λx=>ob (e (a.drop n)) λy=>some (x,y)
def dS {a:Type} (H:GH) (e:Nat) (d:List GV->Option a) (b:List GV):Option (List a):=List.casesOn (motive:=λ_=>Option (List a)) b none λc r=>List.casesOn (motive:=λ_=>Option (List a)) r (NL H e d c) λ_ _=>none
end
section
variable {P:Program} {gs:By} {w0:g_ gs} {w:World} {ρ:fQ} {H:GH} {S:Nat->Prop}
def All (_:Nat):Prop:=True
def fL {b c:Type} (S:Nat->Prop) (ρ:fQ) (w:World) (d:List GV->Option c) (r:eD b) (e:b->c):Prop:=∀gs a y,qR ρ gs a->d gs=some y->gs.length=r.sz->∃z,e z=y∧r.R w S a z
theorem fL.int (k:IntKind):fL S ρ w (dI k) (eD.int k) id:=λgs f y b h _=>by
 cases gs with
 |nil=>cases h
 |cons c gs=>
 cases gs with
 |cons _ _=>cases h
 |nil=>
 obtain⟨p,e,h⟩:=aH.1 (show ob c.asI _=some y from h);obtain⟨a,h⟩:=cH.1 h;cases h;obtain⟨v,f,rfl,d,b⟩:=b.of_cons;rw[b.of_nil];rw[oE e]at d;rw[d.int_inv];have a:=zB0 a;exact⟨p.2,rfl,by rw[a];rfl⟩
theorem fL.pair {q t b c:Type} {d:List GV->Option b} {e:List GV->Option c} {r:eD q} {s:eD t} {m:q->b} {n:t->c} (u:fL S ρ w d r m) (A:fL S ρ w e s n):fL S ρ w (dP r.sz d e) (eD.pair r s) (λz=>(m z.1,n z.2)):=λgs l y f h p=>by
 obtain⟨x,B,h⟩:=aH.1 (show ob (d (gs.take r.sz)) _=some y from h);obtain⟨F,j,h⟩:=aH.1 h;cases h;have p:gs.length=r.sz+s.sz:=p;have E:=f.len;obtain⟨z,rfl,C⟩:=u _ (l.take r.sz) _ (by simpa using f.sub 0 r.sz) B (by simp;omega);obtain⟨D,rfl,k⟩:=A _ (l.drop r.sz) _ ⟨by simp;omega,λi g v o a=>by rw[zAp]at o a;exact f.at' _ _ _ o a⟩ j (by simp;omega);exact⟨(z,D),rfl,_,_,(zB7 r.sz l).symm,C,k⟩
theorem SO {C D:Type} {d:List GV->Option D} {r:eD C} {E:C->D} (F:fL S ρ w d r E) (b:Nat):∀(n:Nat) (f:List GV) (m:List Value) (a:Nat) (l:List D),ab_ r.sz d n f=some l->qR ρ f m->f.length=n*r.sz->(∀(j:Nat) x,m[j]? = some x->w.cell? ⟨b,a+j,none⟩=some x)->
  ∃p:List C,p.map E=l∧p.length=n∧∀(i:Nat) z,p[i]? = some z->∃q,(∀(j:Nat) e,q[j]? = some e->w.cell? ⟨b,a+(i*r.sz+j),none⟩=some e)∧r.R w S q z
 |0,f,m,a,l,h,hr,hl,hc=>by
  cases h;exact⟨[],rfl,rfl,λi z t=>by simp at t⟩
 | n + 1, f, m, a, l, h, hr, hl, hc => by
  obtain⟨y,M,h⟩:=aH.1 (show ob (d (f.take r.sz)) (λy=>ob (ab_ r.sz d n (f.drop r.sz)) λl=>some (y::l))=some l from h);obtain⟨B,s,h⟩:=aH.1 h;cases h;rw[Nat.succ_mul]at hl;have O:=hr.len;obtain⟨z,rfl,t⟩:=F _ (m.take r.sz) _ (by simpa using hr.sub 0 r.sz) M (by simp;omega);obtain⟨p,rfl,u,A⟩:=SO F b n (f.drop r.sz) (m.drop r.sz) (a+r.sz) B s ⟨by simp;omega,λi g v G o=>by rw[zAp]at G o;exact hr.at' _ _ _ G o⟩ (by simp;omega) (λj x J=>by
   rw[zAp]at J;rw[Nat.add_assoc];exact hc _ _ J)
  refine⟨z::p,rfl,by simp[u],λi N c=> ?_⟩
  cases i with
  | zero =>
   simp at c;subst c;refine⟨_,λj e k=> ?_,t⟩
   rw[zAo]at k;by_cases I:j<r.sz
   ·rw[if_pos I]at k;have:=hc j e k;simpa using this
   ·rw[if_neg I]at k;cases k
  |succ i=>
   simp at c;obtain⟨q,K,L⟩:=A i N c;refine⟨q,λj e k=> ?_,L⟩
   have:=K j e k;rw[Nat.succ_mul];rw[show a+(i*r.sz+r.sz+j)=a+r.sz+(i*r.sz+j) by omega];exact this
theorem Pp (R:iI w0 ρ H w) {v:GV} {V:Value} {B:Nat} {p:Nat×List GV} (t:Rl ρ v V) (h:uL H B v=some p):
  p.2.length=p.1*B∧∃a c,V = .slice a p.1 c∧p.1<=c∧(p.1=0∨∃b i o,a=some ⟨b,i,none⟩∧w0.mine b∧qR ρ p.2 o∧∀(j:Nat) x,o[j]? = some x->w.cell? ⟨b,i+j,none⟩=some x):=by
 obtain⟨o,C⟩:=Ej R t h;refine⟨by rw[C.rel.len,C.len],?_⟩
 obtain⟨f,c,y,D,F⟩:=C.val;refine⟨f,c,y,D,?_⟩
 rcases F with⟨_,m,_⟩|⟨A,rfl,d⟩
 ·exact .inl m
 ·by_cases m:p.1=0
  ·exact .inl m
  ·refine .inr ?_;unfold uL at h;cases z:v.isSnil with
   |true=>rw[z]at h;cases h;exact absurd Z m
   | false =>
    rw[z]at h;obtain⟨s,I,h⟩:=aH.1 (show ob v.asS _=some p from h);rw[Dl I,y]at t;obtain⟨l,u,K,G,e,E,n⟩:=t.sl_inv;injection e with k M N;injection k with k;rcases n with n|⟨n,_⟩
    ·omega
    ·rw[n]at k;subst k;have r:w0.mine l.b:=by
      obtain⟨_,h⟩:=cH.1 h;obtain⟨L,q,_⟩:=aH.1 h;obtain⟨O,g,r,_⟩:=R.live _ _ (jO.1 q);rw[G]at g;cases g;exact r
     exact⟨l.b,l.off+s.2.1,o,rfl,r,C.rel,λj x J=>by have:=d j x J;rwa[fC]at this⟩
theorem Ek {m n:Type} {d:List GV->Option n} {r:eD m} {o:m->n} (R:iI w0 ρ H w) (t:∀k,w0.mine k->S k) (u:fL S ρ w d r o) {v:GV} {V:Value} {j:List n} (B:Rl ρ v V) (h:NL H r.sz d v=some j):∃l:List m,l.map o=j∧Fc r w S V l:=by
 obtain⟨p,z,h⟩:=aH.1 (show ob (uL H r.sz v) _=some j from h);obtain⟨g,h⟩:=cH.1 h;have g:p.1<=1099511627776:=by simpa using g
 obtain⟨i,a,f,rfl,E,x⟩:=Pp R B z;rcases x with q|⟨b,e,D,rfl,y,A,c⟩
 ·rw[q]at h;cases h;exact⟨[],rfl,a,f,by rw[q];rfl,by simp,.inl Z⟩
 ·obtain⟨l,rfl,s,C⟩:=SO u b p.1 p.2 D e j h A i c;exact⟨l,rfl,some ⟨b,e,none⟩,f,by rw[s],by rw[s];omega,.inr ⟨b,e,rfl,t b y,C⟩⟩
theorem fL.sl {e f:Type} {d:List GV->Option f} {r:eD e} {b:e->f} (R:iI w0 ρ H w) (g:∀k,w0.mine k->S k) (i:fL S ρ w d r b):fL S ρ w (dS H r.sz d) (eD.sl r) (λz=>z.2.map b):=λgs vs y a h n=>by
 cases gs with
 |nil=>cases h
 |cons c gs=>
 cases gs with
 |cons _ _=>cases h
 |nil=>
 have h:NL H r.sz d c=some y:=h;obtain⟨v,vs,rfl,j,a⟩:=a.of_cons;rw[a.of_nil];obtain⟨m,rfl,l⟩:=Ek R g i j h;exact⟨(v,m),rfl,rfl,l⟩
end
noncomputable section
def wV {c:Type} (e:Nat) (g:c->List GV) (a:List (List c)):GH->List GV×GH:=List.rec (motive:=λ_=>GH->List GV×GH) (λH=>([],H)) (λb _ d H=>let r:=d (H.new (.cells (b.flatMap g)));(.sl H.n 0 b.length e::r.1,r.2)) a
end
section
variable {P:Program} {gs:By} {w0:g_ gs} {w:World} {ρ:fQ} {H:GH}
def GA (ρ:fQ) (H:GH) (B:Nat->Prop):Prop:=∀h o l,H.get h=some o->ρ h=some l->¬B l.b
theorem GA.mono {B b:Nat->Prop} (h:GA ρ H B) (f:∀k,b k->B k):GA ρ H b:=λa o l c d e=>h a o l c d (f _ e)
theorem GA.start (R:iI w0 ρ H w):GA ρ H (λk=>w.heap.size<=k):=λh o l b c e=>by
 obtain⟨f,a,_,d⟩:=R.live h o b;rw[c]at a;cases a;have:=d.lt;omega
theorem IS {N:Type} {e:bL N} {d:List N} {cs:List GV} {v:Value} {B F:Nat->Prop} (R:iI w0 ρ H w) (A:GA ρ H B) (U:∀k,B k->w0.mine k) (s:∀k,F k->B k) (V:Ak e w F v d) (E:d≠[]) (t:qR ρ cs (cellsOf e d)):
  ∃f,ρ.le f∧iI w0 f (H.new (.cells cs)) w∧Rl f (.sl H.n 0 d.length e.sz) v∧GA f (H.new (.cells cs)) (λk=>B k∧¬F k):=by
 obtain⟨_,y,W⟩:=V;rcases W with⟨_,S⟩|⟨b,p,r,T,c,rfl,C,I,D,G,a⟩
 ·exact absurd S E
 have M:(cellsOf e d).length=d.length*e.sz:=by
  rw[<-a];simp;have:d.length*e.sz<=r*e.sz:=zAx _ D;omega
 have u:ρ.le (ρ.upd H.n ⟨b,p,c.size,.cells c T (0,0),.cells cs⟩):=Ao (R.fresh _ (zAg _));have J:d.length*e.sz<=r*e.sz:=zAx _ D;obtain⟨_,O⟩:=R.new (o:= .cells cs) (l:=⟨b,p,c.size,.cells c T (0,0),.cells cs⟩) R.ext (λh o' Y j m=>⟨rfl,λQ=>A h o' Y j m (by rw[Q];exact s _ C)⟩) (U _ (s _ C)) ⟨c,T,I,rfl,by
   show p+cs.length<=c.size;have:=t.len;omega,λi g j=>by
   obtain⟨x,q,X⟩:=t.get j;refine⟨x,?_,X.le u,zA5.1 y x (zA1 q)⟩
   rw[<-a,zAo]at q;by_cases K:i<d.length*e.sz
   ·rw[if_pos K,zAp,zAi]at q;exact q
   ·rw[if_neg K]at q;cases q⟩ I
 refine⟨_,u,O,.sl (by simp[fQ.upd];rfl) D (.inr ⟨rfl,G⟩),λh o l j m L=> ?_⟩
 rw[qU]at j;by_cases z:h=H.n
 ·rw[z]at m;simp[fQ.upd]at m;subst m;exact L.2 C
 ·rw[if_neg z]at j;simp only[fQ.upd,if_neg z]at m;exact A h o l j m L.1
theorem NN {b:Type} {e:bL b} {g:b->List GV} (c:∀x,qR ρ (g x) (e.enc x)):∀a:List b,qR ρ (a.flatMap g) (cellsOf e a)
 | []=> .nil
 |x::a=>(c x).append (NN c a)
theorem KU {o:Type} {e:bL o} {g:o->List GV} (r:∀ρ x,qR ρ (g x) (e.enc x)):∀(a:List (List o)) (vs:List Value) (G:Nat->Nat->Prop) (B:Nat->Prop) (ρ:fQ) (H:GH),iI w0 ρ H w->GA ρ H B->(∀k,B k->w0.mine k)->vs.length=a.length->
  (∀xs∈a,xs≠[])->(∀i v xs,vs[i]? = some v->a[i]? = some xs->Ak e w (G i) v xs)->(∀i k,G i k->B k)->(∀i j k,G i k->G j k->i=j)->
  ∃c,ρ.le c∧iI w0 c (wV e.sz g a H).2 w∧qR c (wV e.sz g a H).1 vs∧GA c (wV e.sz g a H).2 (λk=>B k∧∀i,¬G i k)
 | [],vs,G,B,ρ,H,R,A,hB,hl,_,h1,h2,h3=>by
  have:vs=[]:=zAl hl;subst this;exact⟨ρ,fQ.le_refl _,R,.nil,A.mono λk b=>b.1⟩
 |xs::a,[],G,B,ρ,H,R,A,hB,hl,_,h1,h2,h3=>by simp at hl
 |xs::a,v::vs,G,B,ρ,H,R,A,hB,hl,hne,h1,h2,h3=>by
  obtain⟨p,f,u,F,s⟩:=IS R A hB (h2 0) (h1 0 v xs Z Z) (hne xs (by simp)) (NN (r ρ) xs);obtain⟨q,d,z,l,t⟩:=KU r a vs (λi=>G (i+1)) _ p _ u s (λk b=>hB k b.1) (by simpa using hl) (λy I=>hne y (by simp[I])) (λi J n h m=>h1 (i+1) J n (by simpa using h) (by simpa using m)) (λi k b=>⟨h2 _ k b,λC=>by have:=h3 _ _ k b C;omega⟩) (λi j k D E=>by have:=h3 _ _ k D E;omega);refine⟨q,fQ.le_trans f d,z,.cons (F.le d) l,t.mono λk b=>⟨⟨b.1,b.2 0⟩,λi=>b.2 (i+1)⟩⟩
theorem MU:∀vs:List Value,cellsOf aE vs=vs
 | []=>rfl
 |v::vs=>by show v::cellsOf aE vs=_;rw[MU vs]
end
section
variable {P:Program} {gs:By} {w0:g_ gs} {w:World} {ρ:fQ} {H:GH}
theorem Rj {f:Nat} {a:List Value} {L:List bJ} {V:Value} {g:GV} (c:bD P f) (d:bG P f a.toArray L (λ_:Unit=>V) (λ_ l=>l) (λ_ l=>l)) (R:iI w0 ρ H w) (b:∀h∈L,h.p w All) (i:∀ρ,Rl ρ g V):oM P w0 ρ f a w g H:=by
 refine .inr ⟨c _ w,(d w All b).mono ?_⟩;rintro e j ⟨_,rfl,t⟩;exact⟨V,ρ,rfl,fQ.le_refl _,R.ext' t.old.ext,i _⟩
theorem Ri {V W:Type} {e:bL V} {g:V->List GV} {q:bL W} {s:W->List GV} (hg:∀ρ x,qR ρ (g x) (e.enc x)) (I:∀ρ x,qR ρ (s x) (q.enc x)) {f:Nat} {S:List Value} {L:List bJ} {r:List V×List (List W)} (C:r.1≠[]) (D:r.2≠[]) (h3:∀U∈r.2,U≠[]) (hb:bD P f)
  (hm:bG P f S.toArray L (λx:Value×Value×List Value=>Value.agg #[x.1,x.2.1]) (λx l=>Ar e x.1 r.1::Ar aE x.2.1 x.2.2::gN q x.2.2 r.2::l) (λ_ l=>l)) (R:iI w0 ρ H w) (hL:∀h∈L,h.p w All):
  oM P w0 ρ f S w (.agg [.sl H.n 0 r.1.length e.sz,.sl (wV q.sz s r.2 (H.new (.cells (r.1.flatMap g)))).2.n 0 r.2.length 1]) ((wV q.sz s r.2 (H.new (.cells (r.1.flatMap g)))).2.new (.cells (wV q.sz s r.2 (H.new (.cells (r.1.flatMap g)))).1)):=by
 refine .inr ⟨hb _ w,(hm w All hL).mono ?_⟩;rintro en A ⟨x,rfl,t⟩;obtain⟨F,O,_⟩:=t.own;have q0:Ak _ A (F 0) x.1 r.1:=O.res 0 _ Z;have q1:Ak aE A (F 1) x.2.1 x.2.2:=O.res 1 _ Z;obtain⟨z,G,q2,Q,q4⟩:(gN q x.2.2 r.2).p A (F 2):=O.res 2 _ Z;have R':=R.ext' t.old.ext;have E:∀i k,F i k->w.heap.size<=k:=λi k c=>by
  rcases(O.rng i k c).1 with h|h
  ·exact h
  exact h.elim
 obtain⟨X,y,R1,K,A1⟩:=IS (B:=λk=>w.heap.size<=k) R' (λa o l C D=>GA.start R a o l C D) (λk c=> .inl (zB2 R.ext.size c)) (E 0) q0 C (NN (hg ρ) r.1);obtain⟨ad,j,R2,M,A2⟩:=KU I r.2 x.2.2 G _ X _ R1 A1 (λk c=> .inl (zB2 R.ext.size c.1)) z h3 q2 (λi k c=>⟨E _ _ (Q i k c),λu=>by have:=O.dis _ _ k (Q i k c) u;omega⟩) q4;have J:x.2.2≠[]:=λu=>by rw[u]at z;exact D (zAl z.symm)
 obtain⟨Y,m,R3,N,_⟩:=IS (cs:=(wV q.sz s r.2 (H.new (.cells (r.1.flatMap g)))).1) (F:=F 1) R2 A2 (λk c=> .inl (zB2 R.ext.size c.1.1)) (λk c=>⟨⟨E _ _ c,λu=>by have:=O.dis _ _ k c u;omega⟩,λi hi=>by have:=O.dis _ _ k c (Q i k hi);omega⟩) q1 J (by rw[MU];exact M);refine⟨_,Y,rfl,fQ.le_trans y (fQ.le_trans j m),R3,?_⟩
 refine HK (vs:=[x.1,x.2.1]) (.cons ((K.le j).le m) (.cons (by rw[<-z];exact N) .nil)) λv hv=>?_;have d:∀{γ:Type} {e:bL γ} {F:Nat->Prop} {v:Value} {U:List γ},Ak e A F v U->one v=true:=λh=>by
  obtain⟨_,_,h⟩:=h;rcases h with⟨rfl,_⟩|⟨b,ac,aa,T,ab,rfl,_⟩<;>rfl
 simp at hv;rcases hv with rfl|rfl
 ·exact d q0
 exact d q1
end
noncomputable section
def Mv (H:GH) (v:GV):Option (List Int):=NL H 1 (dI .i64) v
def Wo (H:GH) (v:GV):Option (List (List (Int×Int))):=NL H 1 (dS H 2 (dP 1 (dI .i64) (dI .i64))) v
def Wn (H:GH) (v:GV):Option (List Int×List (List (Int×Int))):=ob v.asA λc=>List.casesOn (motive:=λ_=>Option (List Int×List (List (Int×Int)))) c none λa r=>List.casesOn (motive:=λ_=>Option (List Int×List (List (Int×Int)))) r none λb r=>List.casesOn (motive:=λ_=>Option (List Int×List (List (Int×Int)))) r (ob (Mv H a) λx=>ob (Wo H b) λy=>some (x,y)) λ_ _=>none
end
section
variable {P:Program} {gs:By} {w0:g_ gs} {w:World} {ρ:fQ} {H:GH}
theorem HS (R:iI w0 ρ H w) {v:GV} {V:Value} {a:List Int} (b:Rl ρ v V) (h:Mv H v=some a):(Sl (eD.int .i64) V a).p w All:=by
 obtain⟨d,rfl,c⟩:=Ek R (λ_ _=>trivial) (fL.int .i64) b h;rw[List.map_id];exact c
theorem Ul (R:iI w0 ρ H w) {v:GV} {V:Value} {b:List (List (Int×Int))} (c:Rl ρ v V) (h:Wo H v=some b):∃a,(S2 (eD.pair (eD.int .i64) (eD.int .i64)) V a b).p w All:=by
 obtain⟨a,rfl,d⟩:=Ek R (λ_ _=>trivial) (fL.sl R (λ_ _=>trivial) (fL.pair (fL.int .i64) (fL.int .i64))) c h;exact⟨a,d,by simp⟩
theorem Uk (R:iI w0 ρ H w) {v:GV} {V:Value} {p:List Int×List (List (Int×Int))} (j:Rl ρ v V) (h:Wn H v=some p):∃e f i,V = .agg #[e,f]∧(Sl (eD.int .i64) e p.1).p w All∧(S2 (eD.pair (eD.int .i64) (eD.int .i64)) f i p.2).p w All:=by
 obtain⟨c,g,h⟩:=aH.1 (show ob v.asA _=some p from h);rw[KC g]at j;obtain⟨k,rfl,d,_⟩:=j.agg_inv;cases c with
 |nil=>cases h
 |cons a c=>
 cases c with
 |nil=>cases h
 |cons b c=>
 cases c with
 |cons _ _=>cases h
 |nil=>
 obtain⟨x,n,h⟩:=aH.1 (show ob (Mv H a) _=some p from h);obtain⟨y,o,h⟩:=aH.1 h;cases h;obtain⟨e,k,rfl,l,d⟩:=d.of_cons;obtain⟨f,k,rfl,m,d⟩:=d.of_cons;rw[d.of_nil];obtain⟨i,q⟩:=Ul R m o;exact⟨e,f,i,rfl,HS R l n,q⟩
end
noncomputable section
section
variable {α R:Type}
def a0 (a:List α) (k:Option R):Option R:=List.casesOn (motive:=λ_=>Option R) a k (λ_ _=>none)
def a1 (b:List α) (k:α->Option R):Option R:=List.casesOn (motive:=λ_=>Option R) b none λa r=>a0 r (k a)
def a2 (b:List α) (k:α->α->Option R):Option R:=List.casesOn (motive:=λ_=>Option R) b none λa r=>a1 r (k a)
def a3 (b:List α) (k:α->α->α->Option R):Option R:=List.casesOn (motive:=λ_=>Option R) b none λa r=>a2 r (k a)
def a4 (b:List α) (k:α->α->α->α->Option R):Option R:=List.casesOn (motive:=λ_=>Option R) b none λa r=>a3 r (k a)
def a5 (us:List α) (k:α->α->α->α->α->Option R):Option R:=List.casesOn (motive:=λ_=>Option R) us none λa r=>a4 r (k a)
def a6 (b:List α) (k:α->α->α->α->α->α->Option R):Option R:=List.casesOn (motive:=λ_=>Option R) b none λa r=>a5 r (k a)
theorem Yz {a:List α} {k:Option R} {r:R} (h:a0 a k=some r):a=[]∧k=some r:=by
 cases a with
 |nil=>exact⟨rfl,h⟩
 |cons _ _=>cases h
theorem Si {a:List α} {k:α->Option R} {r:R} (h:a1 a k=some r):∃x,a=[x]∧k x=some r:=by
 cases a with
 |nil=>cases h
 |cons x a=>obtain⟨rfl,h⟩:=Yz h;exact⟨x,rfl,h⟩
theorem Sj {a:List α} {k:α->α->Option R} {r:R} (h:a2 a k=some r):∃x y,a=[x,y]∧k x y=some r:=by
 cases a with
 |nil=>cases h
 |cons x a=>obtain⟨y,rfl,h⟩:=Si h;exact⟨x,y,rfl,h⟩
theorem YA {a:List α} {k:α->α->α->Option R} {r:R} (h:a3 a k=some r):∃x y z,a=[x,y,z]∧k x y z=some r:=by
 cases a with
 |nil=>cases h
 |cons x a=>obtain⟨y,z,rfl,h⟩:=Sj h;exact⟨x,y,z,rfl,h⟩
theorem YB {a:List α} {k:α->α->α->α->Option R} {r:R} (h:a4 a k=some r):∃x y z u,a=[x,y,z,u]∧k x y z u=some r:=by
 cases a with
 |nil=>cases h
 |cons x a=>obtain⟨y,z,u,rfl,h⟩:=YA h;exact⟨x,y,z,u,rfl,h⟩
theorem YC {a:List α} {k:α->α->α->α->α->Option R} {r:R} (h:a5 a k=some r):∃x y z u v,a=[x,y,z,u,v]∧k x y z u v=some r:=by
 cases a with
 |nil=>cases h
 |cons x a=>obtain⟨y,z,u,v,rfl,h⟩:=YB h;exact⟨x,y,z,u,v,rfl,h⟩
theorem YD {a:List α} {k:α->α->α->α->α->α->Option R} {r:R} (h:a6 a k=some r):∃x y z u v w,a=[x,y,z,u,v,w]∧k x y z u v w=some r:=by
 cases a with
 |nil=>cases h
 |cons x a=>obtain⟨y,z,u,v,w,rfl,h⟩:=YC h;exact⟨x,y,z,u,v,w,rfl,h⟩
end
def dSc (k:IntKind) (v:GV):Option Int:=ob v.asI λp=>bif eqK p.1 k then some p.2 else none
def adv (H:GH) (v:GV):Option (Int×List Int×List Int×List Int×Bool×Bool):=ob v.asA λg=>a6 g λa b c d e f=>ob (dSc .i64 a) λn=>ob (Mv H b) λx=>ob (Mv H c) λy=>ob (Mv H d) λz=>ob e.asB λp=>ob f.asB λq=>some (n,x,y,z,p,q)
def gI (n:Int):List GV:=[.int .i64 n]
def gP (p:Int×Int):List GV:=[.int .i64 p.1,.int .i64 p.2]
def fcI {R:Type} (l:List Int):(List Int->R)->R:=List.rec (motive:=λ_=>(List Int->R)->R) (λk=>k []) (λx _ a k=>fi x λx=>a λr=>k (x::r)) l
def fcP {R:Type} (l:List (Int×Int)):(List (Int×Int)->R)->R:=List.rec (motive:=λ_=>(List (Int×Int)->R)->R) (λk=>k []) (λx _ c k=>fi x.1 λa=>fi x.2 λb=>c λr=>k ((a,b)::r)) l
def fcR {R:Type} (l:List (List (Int×Int))):(List (List (Int×Int))->R)->R:=List.rec (motive:=λ_=>(List (List (Int×Int))->R)->R) (λk=>k []) (λx _ a k=>fcP x λx=>a λr=>k (x::r)) l
theorem WC {R:Type}:∀(l:List Int) (k:List Int->R),fcI l k=k l
 | [],k=>rfl
 |x::l,k=>by
  show fi x (λx=>fcI l λr=>k (x::r))=_;rw[MD,WC l]
theorem WE {R:Type}:∀(l:List (Int×Int)) (k:List (Int×Int)->R),fcP l k=k l
 | [],k=>rfl
 |x::l,k=>by
  show fi x.1 (λa=>fi x.2 λb=>fcP l λr=>k ((a,b)::r))=_;rw[MD,MD,WE l]
theorem WF {R:Type}:∀(l:List (List (Int×Int))) (k:List (List (Int×Int))->R),fcR l k=k l
 | [],k=>rfl
 |x::l,k=>by
  show fcP x (λx=>fcR l λr=>k (x::r))=_;rw[WE,WF l]
def aaU (b:Bool) (H:GH):OR:=Bool.casesOn (motive:=λ_=>OR) b (some (.bool false,H)) (some (.bool true,H))
def Rv (r:List Int×List (List (Int×Int))) (H:GH):OR:=fcI r.1 λx=>fcR r.2 λy=>bif Nat.beq x.length 0 then none else bif Nat.beq y.length 0 then none else bif y.any λl=>Nat.beq l.length 0 then none else
 fc (x.flatMap gI) λl=>H.newK (.cells l) λh a=>fc (wV 2 gP y a).1 λd=>sn x.length λn=>sn y.length λm=>(wV 2 gP y a).2.newK (.cells d) λc b=>some (.agg [.sl h 0 n 1,.sl c 0 m 1],b)
end
section
variable {P:Program} {gs:By} {w0:g_ gs} {w:World} {ρ:fQ} {H H':GH} {g:GV}
theorem qR.one {x:GV} {vs:List Value} (h:qR ρ [x] vs):∃V,vs=[V]∧Rl ρ x V:=by
 obtain⟨v,vs,rfl,a,b⟩:=h.of_cons;rw[b.of_nil];exact⟨v,rfl,a⟩
theorem Wp {k:IntKind} {v:GV} {V:Value} {n:Int} (a:Rl ρ v V) (h:dSc k v=some n):V = .int k n:=by
 obtain⟨p,c,h⟩:=aH.1 (show ob v.asI _=some n from h);obtain⟨b,h⟩:=cH.1 h;cases h;rw[oE c]at a;rw[a.int_inv,IP b]
theorem VI {v:GV} {V:Value} {b:Bool} (a:Rl ρ v V) (h:v.asB=some b):V = .bool b:=by
 rw[Dk h]at a;exact a.bool_inv
theorem ZB (R:iI w0 ρ H w) {v:GV} {V:Value} {p:Int×List Int×List Int×List Int×Bool×Bool} (l:Rl ρ v V) (h:adv H v=some p):
  ∃m o s,V = .agg #[.int .i64 p.1,m,o,s,.bool p.2.2.2.2.1,.bool p.2.2.2.2.2]∧(Sl (eD.int .i64) m p.2.1).p w All∧(Sl (eD.int .i64) o p.2.2.1).p w All∧(Sl (eD.int .i64) s p.2.2.2.1).p w All:=by
 obtain⟨T,k,h⟩:=aH.1 (show ob v.asA _=some p from h);obtain⟨a,b,c,d,e,f,rfl,h⟩:=YD h;obtain⟨n,I,h⟩:=aH.1 h;obtain⟨x,L,h⟩:=aH.1 h;obtain⟨y,M,h⟩:=aH.1 h;obtain⟨z,N,h⟩:=aH.1 h;obtain⟨q,J,h⟩:=aH.1 h;obtain⟨r,K,h⟩:=aH.1 h;cases h;rw[KC k]at l;obtain⟨j,rfl,i,_⟩:=l.agg_inv;obtain⟨U,j,rfl,B,i⟩:=i.of_cons;obtain⟨O,j,rfl,C,i⟩:=i.of_cons;obtain⟨Q,j,rfl,D,i⟩:=i.of_cons;obtain⟨S,j,rfl,E,i⟩:=i.of_cons;obtain⟨W,j,rfl,F,i⟩:=i.of_cons;obtain⟨X,rfl,G⟩:=i.one;have t:=Wp B I;have u:=VI F J;have A:=VI G K;subst t u A;exact⟨O,Q,S,rfl,HS R C L,HS R D M,HS R E N⟩
theorem Ru {b:Bool} (h:aaU b H=some (g,H')):g = .bool b∧H'=H:=by
 cases b<;>cases h<;>exact⟨rfl,rfl⟩
theorem PH {r:List Int×List (List (Int×Int))} (h:Rv r H=some (g,H')):r.1≠[]∧r.2≠[]∧(∀a∈r.2,a≠[])∧
  g = .agg [.sl H.n 0 r.1.length 1,.sl (wV 2 gP r.2 (H.new (.cells (r.1.flatMap gI)))).2.n 0 r.2.length 1]∧H'=(wV 2 gP r.2 (H.new (.cells (r.1.flatMap gI)))).2.new (.cells (wV 2 gP r.2 (H.new (.cells (r.1.flatMap gI)))).1):=by
 unfold Rv at h;rw[WC,WF]at h;obtain⟨b,h⟩:=lL.1 h;obtain⟨c,h⟩:=lL.1 h;obtain⟨d,h⟩:=lL.1 h;rw[SR,kB,SR,xT,xT,kB]at h;cases h;refine⟨λe=>(by rw[e]at b;cases b),λe=>(by rw[e]at c;cases c),λa f e=> ?_,rfl,rfl⟩
 have:=List.any_eq_false.1 d a f;rw[e]at this;exact this Z
theorem ady (ρ:fQ) (x:Int):qR ρ (gI x) [.int .i64 x]:= .cons (.int _ _) .nil
theorem adA (ρ:fQ) (x:Int×Int):qR ρ (gP x) [.int .i64 x.1,.int .i64 x.2]:= .cons (.int _ _) (.cons (.int _ _) .nil)
theorem WM (w:World) (S:Nat->Prop) (_:∀h∈([]:List bJ),h.p w S):∃_:Nat,Kl noG w λ_=>False:=⟨0,λ_ h=>absurd h List.not_mem_nil⟩
section
variable {tb:TB} {T:TypeId}
theorem So (h:Dw tb T=some [Ae]) (H:GH):CP tb T H=some (.ptr H.n 0,H.new (.cells [Ae])):=by
 unfold CP;rw[h];show H.newK (.cells [Ae]) (λh H'=>some (GV.ptr h 0,H'))=_;rw[kB]
theorem Tw {t:Ty} (h:tb T=some t) (e:t.size=1) (H:GH) (k:Nat) (c:GV) (d:GH.cells H k=some [c]):Dv tb T (.ptr k 0) Ae H=some (.un,H.set k (.cells [Ae])):=by
 show ob (H.cells k) (λb=>ob (tb T) λt=>bif Nat.beq 1 t.size then bif Nat.beq t.size 0 then none else ob (HV [Ae] 0 b) λa=>H.setK k (.cells a) λH'=>some (GV.un,H')else none)=_;rw[d,h];show(bif Nat.beq 1 t.size then bif Nat.beq t.size 0 then none else ob (HV [Ae] 0 [c]) λa=>H.setK k (.cells a) λH'=>some (GV.un,H')else none)=_;rw[e];show H.setK k (.cells [Ae]) (λH'=>some (GV.un,H'))=_;rw[Al]
theorem W_ {t:Ty} (h:tb T=some t) (b:Aq t.desc=false) (H:GH) (k:Nat) (c:GH.cells H k=some [Ae]):CQ tb T (.ptr k 0) H=some Ae:=by
 show ob (H.cells k) (λa=>ob (tb T) λt=>Df t a 0)=_;rw[c,h];show Df t [Ae] 0=_;unfold Df;rw[b];rfl
end
def NJ (a:Func):List Oper:=match a.body with
 |some (.seq (.region _ ops _) _)=>ops.toList
 |_=>[]
def Wa (a:Func):Code:=match a.body with
 |some (.seq _ c)=>c
 |_=> .skip
def Zw (a:Func):Nat:=match NJ a with
 |o::_=>o.dst.getD 0
 | []=>0
def okN (r:RS):Bool:=match r with
 |some o=>match o.e with
  | .normal=>true
  |_=>false
 |none=>false
theorem Xh {r:RS} (h:okN r=true):∃a,r=some a∧a.e = .normal:=by
 unfold okN at h;cases r with
 |none=>cases h
 |some o=>
  refine⟨o,rfl,?_⟩
  cases b:o.e<;>simp only[b]at h<;>first|rfl|cases h
end
end Go.Gx
namespace Go.Proofs.YtflciafboapaaaaGreat
open Go.Sx
def n_  (a:Unit):Option Bool:=
 some (true)
def jT (d:cC) (a:Int×List (Bool)) (c:(Int×List (Bool))->Option Bool) (b:Bool):Option Bool:=
 if b=true then(some (false))else(ck ((0<=(at' d a.1)∧(at' d a.1)<((256:Nat):Int))∧a.2.length=256) (c ((wI .i64 (a.1+(1:Int))),(List.set a.2 (Int.toNat (at' d a.1)) true))))
def iV (b:cC) (a:Int×List (Bool)) (c:(Int×List (Bool))->Option Bool):Option Bool:=
 if a.1<(b.length:Int)then(ck (0<=a.1∧a.1<(b.length:Int)) (if(at' b a.1)<(0:Int)then(jT b a c (true))else(if(255:Int)<(at' b a.1)then(jT b a c (true))else(ck ((0<=(at' b a.1)∧(at' b a.1)<((256:Nat):Int))∧a.2.length=256) (jT b a c ((at' a.2 (at' b a.1))))))))else(n_  (()))
def kI (U:Nat) (a:cC):Option Bool:=
 bP (iV a) U ((0:Int),(List.replicate 256 false))
theorem YO:bD Tryz.prog 115:=Tryz.call115
theorem FL (U:Nat) {d:cC} (n:Value) (r:Bool) (h:kI U d=some r):
  bG Tryz.prog 115 #[n] [Sl aP n d] (λx:Unit=>vB (r)) (λx l=>l) (λ_ l=>l):=by
 refine bG.of Tryz.func115 Z Tryz.ntmps115 Z λc=>?_;unfold kI at h;refine aX<|aD Z<|aQ<|aX ?_;refine aM (aS.alloc (cs:=cellsOf EBo (List.replicate 256 false)) Z (by kernel_rfl)) Z λm=>?_;refine aQ<|aN<|eG (λk=>n_  k=some r) (λk o=>[]) (λk o=>[]) ?_ ?_
 ·refine aX<|aB Z<|jM (aA.fact 0 Z) Z<|aB Z<|aQ<|aW<|fJ (iV d) (λa p=>[(3,vP m),(6,n),(7,vI (d.length:Int)),(8,vI (a.1))]) (λa p=>[bO m (cellsOf EBo a.2) 202]) ((0:Int),(List.replicate 256 false)) () h SF (a_.refl _) ?_;intro q a p h;refine aX<|cX Z<|aQ<|aN ?_;refine eJ h Z (λh=>?_) λh=>?_
  ·refine cK<|aN<|aW<|aX<|cQ h λg h=>aC (bI Z Z (aA.fact 0 Z) Z Z g) Z<|aC (cL Z (aA.fact 0 Z) Z Z Z fN g) Z<|aD Z<|aQ<|aN<|aN<|eG (λb=>jT d a (bP (iV d) q) b=some r) (λb f=>[(3,vP m),(5,vI (at' d a.1)),(6,n),(7,vI (d.length:Int)),(8,vI (a.1)),(22,vB (b))]) (λb f=>[bO m (cellsOf EBo a.2) 202]) ?_ ?_
   ·refine aU<|aB Z<|cX Z<|aB Z ?_;refine AL h Z (λ_ h=>?_) λ_ h=>?_
    ·refine aK Z<|aK Z<|dG Z<|aB Z<|aK Z<|aK Z<|aK Z<|dG Z<|aQ ?_;exact gJ (true) () h SF Z
    refine dH Z<|aR Z (sL Z Z) Z<|dR Z<|aB Z ?_;refine AL h Z (λ_ h=>?_) λ_ h=>?_
    ·refine aK Z<|aK Z<|aK Z<|dG Z<|aQ ?_;exact gJ (true) () h SF Z
    refine dH Z<|cQ h λj h=>aR Z (pA Z Z Z Z Z j.1) Z<|aR Z (TY (e:=EBo) Z (aA.res 0 Z) Z Z Z Z j) Z<|dR Z<|aQ ?_;exact gJ ((at' a.2 (at' d a.1))) () h SF Z
   intro b f h;refine qS h Z (λ_ h=>?_) λ_ h=>?_
   ·refine aX<|aD Z<|aQ<|aT<|aJ<|bF<|aJ<|aJ<|bF<|aJ ?_;cases h;exact lY Z
   refine cK<|aU<|aB Z<|cQ h λi h=>aC (pA Z Z Z Z Z i.1) Z<|Kn 0 (e:=EBo) true i Z Z Z Z Z Z Z<|fU<|lJ<|aU<|cW Z<|aB Z<|aQ ?_;exact vT ((wI .i64 (a.1+(1:Int))),(List.set a.2 (Int.toNat (at' d a.1)) true)) () h SF Z
  refine fF ?_;exact cE () (()) h SF .nil (aI.refl _ _)
 intro k o h;unfold n_ at h;refine aX<|aD Z<|aQ<|aT ?_;cases h;exact iJ Z
def xI (c:(List ((Int×Int)×Int))) (a:(Int×Int)×Int) (b:Option Bool):Option Bool:=
 if(Option.getD (nC (a.1.2,a.1.1) c) (0:Int))≠a.2 then(some (false))else(b)
def kC  (a:(List ((Int×Int)×Int))):Option Bool:=
 LU (xI a) (some (true)) a
def nI (b:JF) (a:M_->Option Bool) (c:(List ((Int×Int)×Int))):Option Bool:=
 a ((wI .i64 (b.1+(1:Int))),c)
def kD (e:jR) (b:JF) (a:JF) (c:M_->Option Bool) (d:Bool):Option Bool:=
 if d=true then(some (false))else(if(Option.isSome (nC (b.1,((at' (at' e b.1) a.1).1)) a.2))=true then(some (false))else(c ((wI .i64 (a.1+(1:Int))),(Ev (b.1,((at' (at' e b.1) a.1).1)) ((at' (at' e b.1) a.1).2) a.2))))
def jD (d:jR) (a:JF) (b:JF) (c:M_->Option Bool) (e:Bool):Option Bool:=
 if e=true then(some (false))else(if((at' (at' d a.1) b.1).2)<(1:Int)then(kD d a b c (true))else(kD d a b c (decide ((15:Int)<((at' (at' d a.1) b.1).2)))))
def d_ (d:jR) (a:JF) (e:M_->Option Bool) (b:JF) (c:M_->Option Bool):Option Bool:=
 if b.1<((at' d a.1).length:Int)then(ck (0<=b.1∧b.1<((at' d a.1).length:Int)) (if((at' (at' d a.1) b.1).1)<(0:Int)then(jD d a b c (true))else(if(d.length:Int)<=((at' (at' d a.1) b.1).1)then(jD d a b c (true))else(jD d a b c (decide (((at' (at' d a.1) b.1).1)=a.1))))))else(nI a e (b.2))
def eM (U:Nat) (c:jR) (a:JF) (b:M_->Option Bool):Option Bool:=
 if a.1<(c.length:Int)then(ck (0<=a.1∧a.1<(c.length:Int)) (bP (d_ c a b) U ((0:Int),a.2)))else(kC  (a.2))
def iX (U:Nat) (a:jR):Option Bool:=
 bP (eM U a) U ((0:Int),([]:List ((Int×Int)×Int)))
theorem YP:bD Tryz.prog 116:=Tryz.call116
theorem Ip (U:Nat) {f:jR} (n:Value)  (F:kY) (r:Bool) (h:iX U f=some r):
  bG Tryz.prog 116 #[n] [S2 bA n F f] (λx:Unit=>vB (r)) (λx l=>l) (λ_ l=>l):=by
 refine bG.of Tryz.func116 Z Tryz.ntmps116 Z λc=>?_;unfold iX at h;refine aX<|aD Z<|aQ<|aX<|aM (aS.makeMap nT Qg) Z λk=>aD Z<|aQ<|aN<|eG (λq=>kC  q=some r) (λq H=>[(3,Value.map (some k))]) (λq H=>[Mp nT Qg k q]) ?_ ?_
 ·refine aX<|aB Z<|aC (dD Z (aA.fact 0 Z) Z) Z<|aB Z<|aQ<|aW<|fJ (eM U f) (λd y=>[(0,n),(3,Value.map (some k)),(14,n),(15,vI (f.length:Int)),(16,vI (d.1))]) (λd y=>[Mp nT Qg k d.2]) ((0:Int),([]:List ((Int×Int)×Int))) () h SF (a_.refl _) ?_;intro t d y h;refine aX<|cX Z<|aQ<|aN ?_;refine eJ h Z (λh=>?_) λh=>?_
  ·refine cK<|aN<|eG (λm=>nI d (bP (eM U f) t) m=some r) (λm z=>[(0,n),(3,Value.map (some k)),(14,n),(15,vI (f.length:Int)),(16,vI (d.1))]) (λm z=>[Mp nT Qg k m]) ?_ ?_
   ·refine aW<|aX<|aB Z<|cQ h λj h=>aC (bH Z Z (aA.fact 0 Z) Z Z j) Z<|aC (bS Z (aA.fact 0 Z) Z Z j) Z<|aD Z<|aD Z<|aQ<|aX<|aB Z<|aC (fG Z (zBb (aA.fact 0 Z) j.1 j.2) Z) Z<|aB Z<|aQ<|aW<|fJ (d_ f d (bP (eM U f) t)) (λe A=>[(0,n),(3,Value.map (some k)),(4,vI (d.1)),(14,n),(15,vI (f.length:Int)),(16,vI (d.1)),(21,(at' F d.1).1),(22,vI ((at' f d.1).length:Int)),(23,vI (e.1))]) (λe A=>[Mp nT Qg k e.2]) ((0:Int),d.2) () h SF (a_.refl _) ?_;intro E e A h;refine aX<|cX Z<|aQ<|aN ?_;refine eJ h Z (λh=>?_) λh=>?_
    ·refine cK<|aN<|aW<|aX<|cQ h λD h=>aC (bI Z Z (zBb (aA.fact 0 Z) j.1 j.2) Z Z D) Z<|aC (gM (cs:=[vI ((at' (at' f d.1) e.1).1),vI ((at' (at' f d.1) e.1).2)]) Z (zBb (aA.fact 0 Z) j.1 j.2) cF Z Z Z Z D) Z<|aM (aS.alloc (cs:=Qs) Z Z) Z λs=>cA 0 (vs:=[vI ((at' (at' f d.1) e.1).1),vI ((at' (at' f d.1) e.1).2)]) Z Z Z Z Z Z<|aQ<|aN<|aN<|eG (λo=>jD f d e (bP (d_ f d (bP (eM U f) t)) E) o=some r) (λo B=>[(0,n),(3,Value.map (some k)),(4,vI (d.1)),(7,vP s),(14,n),(15,vI (f.length:Int)),(16,vI (d.1)),(21,(at' F d.1).1),(22,vI ((at' f d.1).length:Int)),(23,vI (e.1)),(42,vB (o))]) (λo B=>[bO s [vI ((at' (at' f d.1) e.1).1),vI ((at' (at' f d.1) e.1).2)] 80,Mp nT Qg k e.2]) ?_ ?_
     ·refine aU<|bX Z<|dU 0 Z<|cX Z<|aB Z ?_;refine AL h Z (λ_ h=>?_) λ_ h=>?_
      ·refine aK Z<|aK Z<|aK Z<|aK Z<|aK Z<|dG Z<|aB Z<|aK Z<|aK Z<|aK Z<|aK Z<|dG Z<|aQ ?_;exact gJ (true) () h SF Z
      refine aR Z (cT Z Z Z Z Z) Z<|aR Z (dQ 0 Z Z Z Z Z) Z<|dH Z<|aR Z (dD Z (aA.fact 0 Z) Z) Z<|aR Z (tC Z Z) Z<|dR Z<|aB Z ?_;refine AL h Z (λ_ h=>?_) λ_ h=>?_
      ·refine aK Z<|aK Z<|aK Z<|aK Z<|dG Z<|aQ ?_;exact gJ (true) () h SF Z
      refine aR Z (cT Z Z Z Z Z) Z<|aR Z (dQ 0 Z Z Z Z Z) Z<|dH Z<|aR Z (Fo Z Z) Z<|dR Z<|aQ ?_;exact gJ (decide (((at' (at' f d.1) e.1).1)=d.1)) () h SF Z
     intro o B h;refine qS h Z (λ_ h=>?_) λ_ h=>?_
     ·refine aX<|aD Z<|aQ<|aT<|aJ<|bF<|aJ<|aJ<|bF<|bF<|aJ<|aJ<|bF<|aJ ?_;cases h;exact lY Z
     refine cK<|aN<|aN<|eG (λp=>kD f d e (bP (d_ f d (bP (eM U f) t)) E) p=some r) (λp C=>[(0,n),(3,Value.map (some k)),(4,vI (d.1)),(7,vP s),(14,n),(15,vI (f.length:Int)),(16,vI (d.1)),(21,(at' F d.1).1),(22,vI ((at' f d.1).length:Int)),(23,vI (e.1)),(50,vB (p))]) (λp C=>[bO s [vI ((at' (at' f d.1) e.1).1),vI ((at' (at' f d.1) e.1).2)] 80,Mp nT Qg k e.2]) ?_ ?_
     ·refine aU<|bX Z<|dU 0 Z<|cX Z<|aB Z ?_;refine AL h Z (λ_ h=>?_) λ_ h=>?_
      ·refine aK Z<|aK Z<|aK Z<|dG Z<|aQ ?_;exact gJ (true) () h SF Z
      refine aR Z (cT Z Z Z Z Z) Z<|aR Z (dQ 0 Z Z Z Z Z) Z<|aR Z (sL Z Z) Z<|dR Z<|aQ ?_;exact gJ (decide ((15:Int)<((at' (at' f d.1) e.1).2))) () h SF Z
     intro p C h;refine qS h Z (λ_ h=>?_) λ_ h=>?_
     ·refine aX<|aD Z<|aQ<|aT<|aJ<|bF<|aJ<|aJ<|bF<|bF<|aJ<|aJ<|bF<|aJ ?_;cases h;exact lY Z
     refine cK<|aX<|aB Z<|bX Z<|dU 0 Z ?_;refine aC (Ei (r:=Value.agg #[vI (d.1),vI ((at' (at' f d.1) e.1).1)]) Z Z (by intro w;simp[Instr.build,Instr.fill,fY,fD,eL,fZ,f_,fE,h_])) Z ?_;refine aM (aS.alloc (cs:=Qs) Z Z) Z λK=>cA 0 (vs:=[vI (d.1),vI ((at' (at' f d.1) e.1).1)]) Z Z Z Z Z Z<|aQ<|aN<|aX<|aB Z<|cM 0 Z ?_;refine aC (Pf 2 ((d.1,((at' (at' f d.1) e.1).1))) (u:=vI (Option.getD (nC (d.1,((at' (at' f d.1) e.1).1)) e.2) (0:Int))) NV Z Z Z Z Z (by cases nC ((d.1,((at' (at' f d.1) e.1).1))) e.2<;>rfl)) Z ?_;refine aB Z<|iG Z<|iG Z<|aD Z<|aD Z<|aQ<|aX<|aB Z<|aQ ?_;refine qS h Z (λ_ h=>?_) λ_ h=>?_
     ·refine aX<|aD Z<|aQ<|aT<|aJ<|bF<|aJ<|aJ<|bF<|bF<|aJ<|aJ<|bF<|aJ ?_;cases h;exact lY Z
     refine cK<|aU<|aB Z<|cM 0 Z<|bX Z<|dU 1 Z<|OP 2 ((d.1,((at' (at' f d.1) e.1).1))) ((at' (at' f d.1) e.1).2) NV Z Z Z Z Z<|fU<|lJ<|aU<|cW Z<|aB Z<|aQ ?_;exact kG ((wI .i64 (e.1+(1:Int))),(Ev (d.1,((at' (at' f d.1) e.1).1)) ((at' (at' f d.1) e.1).2) e.2)) () h SF (a_.ix [2] Z Z) (aI.refl _ _)
    refine sG<|gR<|gR<|Af<|lJ ?_;exact gJ (e.2) () h SF Z
   intro m z h;unfold nI at h;refine aU<|cW Z<|aB Z<|aQ ?_;exact vT ((wI .i64 (d.1+(1:Int))),m) () h SF Z
  refine fF ?_;exact gJ (d.2) () h SF Z
 intro q H h;unfold kC at h;refine aN<|aX<|aB Z<|aM (aS.range 0 Z Z Z) Z λI=>aQ<|aW<|Yt [(3,Value.map (some k)),(69,vP I)] [It I k (q.length) ([]),Mp nT Qg k q] [S2 bA n F f] SF (a_.refl _) (aI.refl _ _) ?_;refine TS (xI q) 1 0 (by intro a b x;unfold xI;repeat' split;all_goals first|rfl|contradiction|simp_all) h Z Z Z Z Z Z ?_ ?_
 ·skip
  intro g N G M v h;refine aW<|aX<|aM (aS.entry 1 0 v Z Z Z) Z λL=>iG Z<|iG Z<|aM (aS.alloc (cs:=Qs) Z Z) Z λJ=>cA 0 (vs:=[vI (g.1.1),vI (g.1.2)]) Z Z Z Z Z Z<|aD Z<|aQ<|aX<|aB Z ?_;refine aC (pA (i:=1) Z Z Z Z Z (by decide)) Z ?_;refine dU 0 Z ?_;refine aC (pA (i:=0) Z Z Z Z Z (by decide)) Z ?_;refine dU 0 Z ?_;refine aC (Ei (r:=Value.agg #[vI (g.1.2),vI (g.1.1)]) Z Z (by intro w;simp[Instr.build,Instr.fill,fY,fD,eL,fZ,f_,fE,h_])) Z ?_;refine aC (Pf 2 ((g.1.2,g.1.1)) (u:=vI (Option.getD (nC (g.1.2,g.1.1) q) (0:Int))) NV Z Z Z Z Z (by cases nC ((g.1.2,g.1.1)) q<;>rfl)) Z ?_;refine aB Z<|kA Z<|aQ ?_;refine eJ h Z (λh=>?_) λh=>?_
  ·refine aX<|aD Z<|aQ<|aT<|bF<|aJ<|bF<|aJ ?_;cases h;exact lY Z
  refine eC<|lJ ?_;exact Qy h SF (a_.ix [1,2] Z Z) (aI.refl _ _)
 intro G h;refine Af<|Eb<|aX<|aD Z<|aQ<|aT ?_;cases h;exact lY Z
end Go.Proofs.YtflciafboapaaaaGreat