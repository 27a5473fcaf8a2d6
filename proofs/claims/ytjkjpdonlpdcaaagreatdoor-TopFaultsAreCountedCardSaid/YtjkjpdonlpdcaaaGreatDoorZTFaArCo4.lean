/- Models and proofs. Conditions: none. -/
import Derived.Test.YtjkjpdonlpdcaaaGreatDoorZTFaArCo3
import Derived.Test.YtjkjpdonlpdcaaaGreatDoorZTFaArCo1
import Derived.RecoverIn
import Derived.DefersIn
import Derived.Lib.Bytealg
import Derived.Test.YtjkjpdonlpdcaaaGreatDoorZTFaArCo2
set_option linter.unusedVariables false
set_option linter.unusedSimpArgs false
set_option maxHeartbeats 4000000
set_option maxRecDepth 20000
namespace Go.Gx
open Go Go.Sx Go.RowKit
section
variable {R α:Type}
theorem xH (r:OR) (k:GV->GH->Option R):iM r k=iM (iM r GJ) k:=by
 cases r with
 |none=>rfl
 |some p=>rfl
theorem cU (x:Option α) {f:α->Option R} {g:α->OR} {k:GV->GH->Option R} (h:∀a,f a=iM (g a) k):ob x f=iM (ob x g) k:=by
 cases x with
 |none=>rfl
 |some a=>exact h a
theorem Ye {n:TB} {s:CH} {d:GF} {H:GH} (o:Op) (k:GV->GH->Option R):Mk n s o d H k=iM (Mk n s o d H GJ) k:=by
 have e:∀x (f:GV->Option GV),k1 x f d H k=iM (k1 x f d H GJ) k:=λx f=>cU _ λx=>cU _ λv=>cU _ λg=>rfl;have j:∀x y (f:GV->GV->Option GV),k2 x y f d H k=iM (k2 x y f d H GJ) k:=λx y f=>cU _ λx=>cU _ λv=>cU _ λu=>cU _ λg=>rfl;have B:∀x y z (f:GV->GV->GV->Option GV),k3 x y z f d H k=iM (k3 x y z f d H GJ) k:=λx y z f=>cU _ λx=>cU _ λv=>cU _ λu=>cU _ λt=>cU _ λg=>rfl;cases o with
 |move x=>exact cU _ λv=>rfl
 |assign x=>exact cU _ λv=>rfl
 |pick c x y=>exact B _ _ _ _
 |alloc T=>exact xH _ _
 |box T x=>exact cU _ λv=>xH _ _
 |build T G=>exact cU _ λJ=>cU _ λg=>rfl
 |buildSlice T m G=>exact cU _ λx=>xH _ _
 |load T x=>exact cU _ λv=>cU _ λg=>rfl
 |store T x y=>exact cU _ λv=>cU _ λu=>xH _ _
 |nilCheck x=>exact e _ _
 |binOp F T x y A=>exact j _ _ _
 |unOp F T x=>exact e _ _
 |convert S D x=>exact e _ _
 |makeFunc C first r=>
  cases C with
  |func f=>exact cU _ λI=>cU _ λJ=>rfl
  |_=>rfl
 |makeMap T q=>
  cases q with
  |none=>exact xH _ _
  |some x=>rfl
 |makeSlice T x y=>exact cU _ λv=>cU _ λu=>xH _ _
 |slice T x L K E=>
  cases E with
  |none=>exact cU _ λv=>cU _ λl=>cU _ λh=>cU _ λg=>rfl
  |some y=>rfl
 |fieldAddr T x f=>exact e _ _
 |field T x f=>exact e _ _
 |indexAddr T x y=>exact j _ _ _
 |index T x y=>exact j _ _ _
 |lookup T x y M=>exact cU _ λv=>cU _ λu=>cU _ λg=>rfl
 |mapUpdate T x y z=>exact cU _ λv=>cU _ λu=>cU _ λt=>xH _ _
 |extract x i=>exact e _ _
 | call c =>
  obtain⟨p,a,w⟩:=c;cases p with
  |value f=>exact cU _ λv=>cU _ λg=>cU _ λI=>xH _ _
  |invoke x m=>rfl
  | builtin b =>
   show Pz n a w b d H k=iM (Pz n a w b d H GJ) k;obtain⟨a⟩:=a;cases b with
   |len=>
    match a with
    | []=>rfl
    | [x]=>exact cU _ λT=>cU _ λv=>cU _ λg=>rfl
    |_::_::_=>rfl
   |max=>
    match a with
    | []=>rfl
    | [x]=>rfl
    | [x,y]=>exact j _ _ _
    |_::_::_::_=>rfl
   |min=>
    match a with
    | []=>rfl
    | [x]=>rfl
    | [x,y]=>exact j _ _ _
    |_::_::_::_=>rfl
   |append=>
    match a with
    | []=>rfl
    | [x]=>rfl
    | [x,y]=>exact cU _ λT=>cU _ λA=>cU _ λv=>cU _ λu=>xH _ _
    |_::_::_::_=>rfl
   |copy=>
    match a with
    | []=>rfl
    | [x]=>rfl
    | [x,y]=>exact cU _ λT=>cU _ λv=>cU _ λu=>xH _ _
    |_::_::_::_=>rfl
   |cap=>
    match a with
    | []=>rfl
    | [x]=>exact cU _ λT=>cU _ λv=>cU _ λg=>rfl
    |_::_::_=>rfl
   |_=>rfl
 |_=>rfl
theorem BL {b a:GF}:∀{xs:List Operand},(∀x∈xs,kG b x=kG a x)->EA b xs=EA a xs
 | [],_=>rfl
 |x::xs,h=>by
  show ob (kG b x) (λv=>ob (EA b xs) λc=>some (v::c))=ob (kG a x) (λv=>ob (EA a xs) λc=>some (v::c));rw[h x List.mem_cons_self,BL λy d=>h y (List.mem_cons_of_mem _ d)]
theorem BM {b a:GF}:∀{xs:List (Nat×Operand)},(∀x∈xs,kG b x.2=kG a x.2)->tB b xs=tB a xs
 | [],_=>rfl
 |x::xs,h=>by
  show ob (kG b x.2) (λv=>ob (tB b xs) λc=>some ((x.1,v)::c))=ob (kG a x.2) (λv=>ob (tB a xs) λc=>some ((x.1,v)::c));rw[h x List.mem_cons_self,BM λy d=>h y (List.mem_cons_of_mem _ d)]
theorem IR {b a:GF} {o:Option Operand} (h:∀x∈o.toArray,kG b x=kG a x):Gt b o=Gt a o:=by
 cases o with
 |none=>rfl
 |some x=>
  show ob (kG b x) (λv=>some (some v))=ob (kG a x) (λv=>some (some v));rw[h x (by simp)]
theorem SJ {n:TB} {G:CH} {j a:GF} {H:GH} {o:Op} {k:GV->GH->Option R} (h:∀x∈o.operands,kG j x=kG a x):Mk n G o j H k=Mk n G o a H k:=by
 have s:∀x (f:GV->Option GV),kG j x=kG a x->k1 x f j H k=k1 x f a H k:=λx f e=>by simp only[k1,ob,e]
 have t:∀x y (f:GV->GV->Option GV),kG j x=kG a x->kG j y=kG a y->k2 x y f j H k=k2 x y f a H k:=λx y f e w=>by simp only[k2,ob,e,w]
 have J:∀x y z (f:GV->GV->GV->Option GV),kG j x=kG a x->kG j y=kG a y->kG j z=kG a z->k3 x y z f j H k=k3 x y z f a H k:=λx y z f e w A=>by simp only[k3,ob,e,w,A]
 cases o with
 |move x=>show Hm x j H k=Hm x a H k;simp only[Hm,ob,h x (by simp[Op.operands])]
 |assign x=>show Hm x j H k=Hm x a H k;simp only[Hm,ob,h x (by simp[Op.operands])]
 |pick c x y=>exact J _ _ _ _ (h _ (by simp[Op.operands])) (h _ (by simp[Op.operands])) (h _ (by simp[Op.operands]))
 |alloc T=>rfl
 |box T x=>show Yk x j H k=Yk x a H k;simp only[Yk,ob,h x (by simp[Op.operands])]
 | build T ps =>
  show ob (tB j ps.toList) _=ob (tB a ps.toList) _;rw[BM λx d=>h x.2 (by
   have:x∈ps:=by simpa using d
   simp only[Op.operands,List.mem_toArray,List.mem_map];exact⟨x,d,rfl⟩)]
 | buildSlice T m ps =>
  show ob (tB j ps.toList) _=ob (tB a ps.toList) _;rw[BM λx d=>h x.2 (by
   simp only[Op.operands,List.mem_toArray,List.mem_map];exact⟨x,d,rfl⟩)]
 |load T x=>show QQ n T x j H k=QQ n T x a H k;simp only[QQ,ob,h x (by simp[Op.operands])]
 |store T x y=>show LC n T x y j H k=LC n T x y a H k;simp only[LC,ob,h x (by simp[Op.operands]),h y (by simp[Op.operands])]
 |nilCheck x=>exact s _ _ (h _ (by simp[Op.operands]))
 |binOp L T x y M=>exact t _ _ _ (h _ (by simp[Op.operands])) (h _ (by simp[Op.operands]))
 |unOp L T x=>exact s _ _ (h _ (by simp[Op.operands]))
 |convert S D x=>exact s _ _ (h _ (by simp[Op.operands]))
 | makeFunc fn first caps =>
  cases fn with
  | func f =>
   show ob (EA j first.toList) _=ob (EA a first.toList) _;rw[BL λx d=>h x (by simp only[Op.operands,Array.mem_append];exact .inl (by simpa using d)),
    BL (xs:=caps.toList) λx d=>h x (by simp only[Op.operands,Array.mem_append];exact .inr (by simpa using d))]
  |_=>rfl
 |makeMap T q=>
  cases q with
  |none=>rfl
  |some x=>rfl
 |makeSlice T x y=>show QS n T x y j H k=QS n T x y a H k;simp only[QS,ob,h x (by simp[Op.operands]),h y (by simp[Op.operands])]
 | slice T x lo hi mx =>
  cases mx with
  |none=>
   show ob (some x) (λx=>ob (kG j x) λv=>ob (Gt j lo) λl=>ob (Gt j hi) λh=>ob (AV n T v l h H) λg=>k g H)=ob (some x) (λx=>ob (kG a x) λv=>ob (Gt a lo) λl=>ob (Gt a hi) λh=>ob (AV n T v l h H) λg=>k g H);have C:Gt j lo=Gt a lo:=IR λy F=>h y (by simp only[Op.operands,Array.mem_append];exact .inl (.inl (.inr F)));have B:Gt j hi=Gt a hi:=IR λy F=>h y (by simp only[Op.operands,Array.mem_append];exact .inl (.inr F));have d:kG j x=kG a x:=h x (by simp only[Op.operands,Array.mem_append];exact .inl (.inl (.inl (by simp))));simp only[ob,C,B,d]
  |some y=>rfl
 |fieldAddr T x f=>exact s _ _ (h _ (by simp[Op.operands]))
 |field T x f=>exact s _ _ (h _ (by simp[Op.operands]))
 |indexAddr T x y=>exact t _ _ _ (h _ (by simp[Op.operands])) (h _ (by simp[Op.operands]))
 |index T x y=>exact t _ _ _ (h _ (by simp[Op.operands])) (h _ (by simp[Op.operands]))
 |lookup T x y I=>show QR n T x y I j H k=QR n T x y I a H k;simp only[QR,ob,h x (by simp[Op.operands]),h y (by simp[Op.operands])]
 |mapUpdate T x y z=>show LB n T x y z j H k=LB n T x y z a H k;simp only[LB,ob,h x (by simp[Op.operands]),h y (by simp[Op.operands]),h z (by simp[Op.operands])]
 |extract x i=>exact s _ _ (h _ (by simp[Op.operands]))
 | call c =>
  obtain⟨u,p,r⟩:=c;cases u with
  |value f=>
   have K:kG j f=kG a f:=h f (by simp[Op.operands,Call.operands]);have E:EA j p.toList=EA a p.toList:=BL λx d=>h x (by simp[Op.operands,Call.operands];exact .inr (by simpa using d));show ob (kG j f) _=ob (kG a f) _;simp only[ob,K,E]
  |invoke x m=>rfl
  | builtin b =>
   show Pz n p r b j H k=Pz n p r b a H k;have d:∀x∈p,kG j x=kG a x:=λx d=>h x (by simp[Op.operands,Call.operands];exact d);obtain⟨p⟩:=p;cases b with
   |len=>
    match p,d with
    | [],_=>rfl
    | [x],d=>show SO n r.toList x j H k=SO n r.toList x a H k;simp only[SO,ob,d x (by simp)]
    |_::_::_,_=>rfl
   |max=>
    match p,d with
    | [],_=>rfl
    | [x],_=>rfl
    | [x,y],d=>exact t _ _ _ (d _ (by simp)) (d _ (by simp))
    |_::_::_::_,_=>rfl
   |min=>
    match p,d with
    | [],_=>rfl
    | [x],_=>rfl
    | [x,y],d=>exact t _ _ _ (d _ (by simp)) (d _ (by simp))
    |_::_::_::_,_=>rfl
   |append=>
    match p,d with
    | [],_=>rfl
    | [x],_=>rfl
    | [x,y],d=>show Vb n r.toList x y j H k=Vb n r.toList x y a H k;simp only[Vb,ob,d x (by simp),d y (by simp)]
    |_::_::_::_,_=>rfl
   |copy=>
    match p,d with
    | [],_=>rfl
    | [x],_=>rfl
    | [x,y],d=>show Nm n r.toList x y j H k=Nm n r.toList x y a H k;simp only[Nm,ob,d x (by simp),d y (by simp)]
    |_::_::_::_,_=>rfl
   |cap=>
    match p,d with
    | [],_=>rfl
    | [x],d=>show SN n r.toList x j H k=SN n r.toList x a H k;simp only[SN,ob,d x (by simp)]
    |_::_::_,_=>rfl
   |_=>rfl
 |_=>rfl
end
noncomputable def DR (c:TB) (b:CH) (all:List Oper) (o:Oper) (a:GF) (H:GH):OR:=Option.casesOn (motive:=λ_=>OR) o.guard (Mk c b o.op a H GJ) λg=>ob (F_ all g.1) λe=>ob e.dst λd=>ob (DT a d) λv=>evG c b o ⟨a,H⟩ g.2 v
theorem XY {b:TB} {a:CH} {all:List Oper} {o:Oper} {k:GS->RS} {s:GS}:IL b a all o k s=iM (DR b a all o s.σ s.H) (opK o.dst s k):=by
 unfold IL DR;cases o.guard with
 |none=>exact Ye _ _
 |some g=>exact cU _ λd=>cU _ λc=>cU _ λv=>rfl
theorem Dv {d:TB} {c:CH} {all:List Oper} {o:Oper} {k:GS->RS} {s:GS} {a:MD} (h:IL d c all o k s=some a):∃g b,DR d c all o s.σ s.H=some (g,b)∧k ⟨putD o.dst g s.σ,b⟩=some a:=by
 rw[XY]at h;obtain⟨g,b,e,f⟩:=nE h;exact⟨g,b,e,f⟩
theorem Pk {c:TB} {b:CH} {all:List Oper} {o:Oper} {d a:GF} {H:GH} (h:∀t∈o.looksAt all.toArray,DT d t=DT a t):DR c b all o d H=DR c b all o a H:=by
 have e:Mk c b o.op d H GJ=Mk c b o.op a H GJ:=SJ λx l=>by
  cases x with
  |tmp t=>exact h t (List.mem_append_left _ (List.mem_filterMap.2 ⟨.tmp t,by simpa using l,rfl⟩))
  |_=>rfl
 unfold DR;cases j:o.guard with
 |none=>exact e
 | some g =>
  show ob (F_ all g.1) _=ob (F_ all g.1) _;cases f:F_ all g.1 with
  |none=>rfl
  | some oj =>
   show ob oj.dst _=ob oj.dst _;cases i:oj.dst with
   |none=>rfl
   | some dj =>
    have k:dj∈o.looksAt all.toArray:=by
     rw[tD]at f;simp[Oper.looksAt,j,f,i]
    show ob (DT d dj) (λv=>evG c b o ⟨d,H⟩ g.2 v)=ob (DT a dj) (λv=>evG c b o ⟨a,H⟩ g.2 v);rw[h dj k];cases DT a dj with
    |none=>rfl
    | some v =>
     show evG c b o ⟨d,H⟩ g.2 v=evG c b o ⟨a,H⟩ g.2 v;cases v with
     |bool q=>
      show Bool.casesOn (motive:=λ_=>OR) (QG q g.2) (some (.un,H)) (Mk c b o.op d H GJ)=Bool.casesOn (motive:=λ_=>OR) (QG q g.2) (some (.un,H)) (Mk c b o.op a H GJ);rw[e]
     |_=>rfl
section
variable {P:Program} {tb:TB} {gs:xS} {w0:eD gs}
theorem Du {u:CH} {all:List Oper} {n:Nat} {o:Oper} {r:GF} {H k:GH} {g:GV} {ρ:dH} {a:Act} (F:kX ρ n r a) (h:DR tb u all o r H=some (g,k)):
  (Region.wanted o (yielded all.toArray a.tmps)=true∧Mk tb u o.op r H GJ=some (g,k))∨(Region.wanted o (yielded all.toArray a.tmps)=false∧g = .un∧k=H):=by
 unfold DR at h;cases l:o.guard with
 |none=>
  rw[l]at h;exact .inl ⟨by simp[Region.wanted,l],h⟩
 | some gd =>
  rw[l]at h;obtain⟨A,m,h⟩:=aB.1 (show ob (F_ all gd.1) _=some (g,k)from h);obtain⟨i,s,h⟩:=aB.1 h;obtain⟨v,y,j⟩:=aB.1 h;have e:=F.slot i v y;rw[tD]at m;have t:yielded all.toArray a.tmps gd.1=(match a.tmps[i]? with|some (.bool b)=>some b|_=>none):=by
   unfold yielded;have:(all.toArray[gd.1]?).bind (·.dst)=some i:=by simp[m,s]
   rw[this];rfl
  cases v with
  | bool q =>
   have d:=e.bool_inv;have x:a.tmps[i]? = some (.bool q):=by
    simp only[Act.eval,Array.getD_eq_getD_getElem?]at d;cases p:a.tmps[i]? with
    |none=>rw[p]at d;cases d
    |some z=>rw[p]at d;simp at d;rw[d]
   rw[x]at t;have c:Bool.casesOn (motive:=λ_=>OR) (QG q gd.2) (some (.un,H)) (Mk tb u o.op r H GJ)=some (g,k):=j;rw[Ew]at c;have w:Region.wanted o (yielded all.toArray a.tmps)=(q==gd.2):=by
    simp only[Region.wanted,l];rw[t];cases q<;>cases gd.2<;>rfl
   cases f:(q==gd.2)with
   |true=>rw[f]at c;exact .inl ⟨by rw[w,f],c⟩
   |false=>rw[f]at c;cases c;exact .inr ⟨by rw[w,f],rfl,rfl⟩
  | un =>
   have d:=e.un_inv;cases j;refine .inr ⟨?_,rfl,rfl⟩;simp only[Region.wanted,l];rw[t];have:(match a.tmps[i]? with|some (.bool b)=>some b|_=>none)=(none:Option Bool):=by
    simp only[Act.eval,Array.getD_eq_getD_getElem?]at d;cases p:a.tmps[i]? with
    |none=>rfl
    |some z=>rw[p]at d;simp at d;rw[d];rfl
   rw[this];rfl
  |_=>cases j
theorem HR {f:CH} (k:eQ P tb) (c:rK P w0 f) {all:List Oper} {n:Nat} {o:Oper} {e:GF} {H b:GH} {g:GV} {d:dH} {a:Act} {w:World} (p:GI n o=true) (F:kX d n e a) (R:eX w0 d H w) (h:DR tb f all o e H=some (g,b)):
  (Region.wanted o (yielded all.toArray a.tmps)=true∧AZ P w0 d e a w o g H b)∨(Region.wanted o (yielded all.toArray a.tmps)=false∧g = .un∧b=H):=by
 obtain⟨_,_,j⟩:=sQ p;rcases Du F h with⟨r,l⟩|h
 ·obtain⟨s,i,m,q⟩:=Pr k c F R j l;cases m;exact .inl ⟨r,q⟩
 ·exact .inr h
def VR (tb:TB) (T:TypeId):Bool:=match tb T with
 |some t=>(match t.desc with|.array .. => false|_=>true)
 |none=>false
def pureOp (tb:TB):Op->Bool
 | .move _ | .assign _ | .pick .. | .build .. | .nilCheck _ | .binOp .. | .unOp .. | .convert .. | .makeFunc .. | .fieldAddr .. | .field .. | .indexAddr .. | .index .. | .extract .. => true
 | .slice T _ _ _ _=>VR tb T
 | .call ⟨.builtin .len,_,_⟩ | .call ⟨.builtin .max,_,_⟩ | .call ⟨.builtin .min,_,_⟩=>true
 |_=>false
def isFloat:Op->Bool
 | .buildSlice .. | .alloc .. | .box .. => true
 |_=>false
theorem fY {b:dH} {g:GV} {s:Sem Value} {a:Act} {o:Oper} (h:Bu P b s g) (c:∀w v,s.run P w = .ok v w->(execOp a.eval o).run P w = .ok (.value v) w):∃v,Rl b g v∧∀w,(execOp a.eval o).run P w = .ok (.value v) w:=
 let ⟨v,hv,hr⟩:=h;⟨v,hv,λw=>c w v (hr w)⟩
theorem UW {ih:CH} (E:eQ P tb) {ρ:dH} {n:Nat} {s:GF} {a:Act} (F:kX ρ n s a) {o:Oper} {H r:GH} {g:GV} (R:pureOp tb o.op=true) (aa:Jf o.op=true) (h:Mk tb ih o.op s H GJ=some (g,r)):
  r=H∧∃v,Rl ρ g v∧∀w,(execOp a.eval o).run P w = .ok (.value v) w:=by
 obtain⟨d,W,J,ad,ac,gd⟩:=o;cases W with
 |move x=>
  obtain⟨v,q,h⟩:=aB.1 (show ob (kG s x) _=some (g,r)from h);cases h;exact⟨rfl,_,bY F q,λw=>by simp[execOp]⟩
 |assign x=>
  obtain⟨v,q,h⟩:=aB.1 (show ob (kG s x) _=some (g,r)from h);cases h;exact⟨rfl,_,bY F q,λw=>by simp[execOp]⟩
 |pick c x y=>
  obtain⟨v,q,h⟩:=aB.1 (show ob (kG s c) _=some (g,r)from h);obtain⟨u,C,h⟩:=aB.1 h;obtain⟨t,ht,h⟩:=aB.1 h;obtain⟨z,k,h⟩:=aB.1 h;cases h;obtain⟨b,hb,k⟩:=aB.1 (show ob v.asB _=some g from k);have Y:=bY F q;rw[AJ hb]at Y;cases b with
  |true=>cases k;exact⟨rfl,_,bY F C,λw=>by simp[execOp,Y.bool_inv,asBool]⟩
  |false=>cases k;exact⟨rfl,_,bY F ht,λw=>by simp[execOp,Y.bool_inv,asBool]⟩
 | build T ps =>
  obtain⟨vs,N,h⟩:=aB.1 (show ob (tB s ps.toList) _=some (g,r)from h);obtain⟨z,k,h⟩:=aB.1 h;cases h;exact⟨rfl,fY (KJ E (Be F N) k) (λw v j=>by
   have e:(ps.toList.map λp=>(p.1,a.eval p.2)).toArray=ps.map λp=>(p.1,a.eval p.2):=by apply Array.toList_inj.1;simp
   rw[e]at j;simp[execOp,j])⟩
 |nilCheck x=>
  obtain⟨v,q,h⟩:=aB.1 (show ob (kG s x) _=some (g,r)from h);obtain⟨z,k,h⟩:=aB.1 h;cases h;obtain⟨rfl,j⟩:=Nv (P:=P) (bY F q) k;exact⟨rfl,_,bY F q,λw=>j _ x a.eval Z Z w⟩
 | binOp W T x y T' =>
  obtain⟨v,q,h⟩:=aB.1 (show ob (kG s x) _=some (g,r)from h);obtain⟨u,C,h⟩:=aB.1 h;obtain⟨z,k,h⟩:=aB.1 h;cases h;exact⟨rfl,fY (RB E x y (bY F q) (bY F C) k) (λw v j=>by
   simp only[execOp];simp at j ⊢;cases V:Sem.run P (eqGuard W T x y (a.eval x) (a.eval y)) w with
   |ok u w1=>rw[V]at j;simp at j;simp[j]
   |halt h1 w1=>rw[V]at j;cases j)⟩
 |unOp W T x=>
  obtain⟨v,q,h⟩:=aB.1 (show ob (kG s x) _=some (g,r)from h);obtain⟨z,k,h⟩:=aB.1 h;cases h;exact⟨rfl,fY (Wl (bY F q) k) (λw v j=>by simp[execOp,j])⟩
 |convert S D x=>
  obtain⟨v,q,h⟩:=aB.1 (show ob (kG s x) _=some (g,r)from h);obtain⟨z,k,h⟩:=aB.1 h;cases h;exact⟨rfl,fY (Od E (bY F q) k) (λw v j=>by simp[execOp,j])⟩
 | makeFunc fn first caps =>
  cases fn with
  |func f=>
   obtain⟨us,ab,h⟩:=aB.1 (show ob (EA s first.toList) _=some (g,r)from h);obtain⟨vs,N,h⟩:=aB.1 h;cases h;refine⟨rfl,_,Rl.fn' (Dw F ab) (Dw F N),λw=> ?_⟩
   have e1:(first.toList.map a.eval).toArray=first.map a.eval:=by apply Array.toList_inj.1;simp
   have e2:(caps.toList.map a.eval).toArray=caps.map a.eval:=by apply Array.toList_inj.1;simp
   rw[e1,e2];simp[execOp,Instr.makeFunc]
  |_=>cases h
 |fieldAddr T x f=>
  obtain⟨v,q,h⟩:=aB.1 (show ob (kG s x) _=some (g,r)from h);obtain⟨z,k,h⟩:=aB.1 h;cases h;exact⟨rfl,fY (KL E (bY F q) k) (λw v j=>by simp[execOp,j])⟩
 |field T x f=>
  obtain⟨v,q,h⟩:=aB.1 (show ob (kG s x) _=some (g,r)from h);obtain⟨z,k,h⟩:=aB.1 h;cases h;exact⟨rfl,fY (Og E (bY F q) k) (λw v j=>by simp[execOp,j])⟩
 |indexAddr T x y=>
  obtain⟨v,q,h⟩:=aB.1 (show ob (kG s x) _=some (g,r)from h);obtain⟨u,C,h⟩:=aB.1 h;obtain⟨z,k,h⟩:=aB.1 h;cases h;exact⟨rfl,fY (KM E (bY F q) (bY F C) k) (λw v j=>by simp[execOp,j])⟩
 |index T x y=>
  obtain⟨v,q,h⟩:=aB.1 (show ob (kG s x) _=some (g,r)from h);obtain⟨u,C,h⟩:=aB.1 h;obtain⟨z,k,h⟩:=aB.1 h;cases h;exact⟨rfl,fY (Wa E (bY F q) (bY F C) k) (λw v j=>by simp[execOp,j])⟩
 | slice T x lo hi mx =>
  cases mx with
  | none =>
   obtain⟨v,q,h⟩:=aB.1 (show ob (kG s x) _=some (g,r)from h);obtain⟨l,hl,h⟩:=aB.1 h;obtain⟨e,he,h⟩:=aB.1 h;obtain⟨z,k,h⟩:=aB.1 h;cases h;have hA:∀t,tb T=some t->tdA t.desc=none:=λt ht=>by
    have U:VR tb T=true:=R;unfold VR at U;rw[ht]at U;simp only at U;cases V:t.desc<;>rw[V]at U<;>first|rfl|cases U
   exact⟨rfl,fY (KN (gs:=noG) E (.inr hA) (bY F q) (HU F hl) (HU F he) k) (λw v j=>by simp[execOp,j])⟩
  |some y=>cases h
 |extract x i=>
  obtain⟨v,q,h⟩:=aB.1 (show ob (kG s x) _=some (g,r)from h);obtain⟨z,k,h⟩:=aB.1 h;cases h;exact⟨rfl,fY (RE (bY F q) k) (λw v j=>by simp[execOp,j])⟩
 | call c =>
  obtain⟨X,Q,B⟩:=c;cases X with
  |value f=>cases R
  |invoke x m=>cases R
  | builtin b =>
   have A:B.size=Q.size:=Nat.eq_of_beq_eq_true aa;have h:Pz tb Q B b s H GJ=some (g,r):=h;cases b with
   | len =>
    obtain⟨x,O,h⟩:=BO (show IW Q.toList (SO tb B.toList) s H GJ=some (g,r)from h);obtain⟨T,M,h⟩:=aB.1 (show ob (F_ B.toList 0) _=some (g,r)from h);obtain⟨v,q,h⟩:=aB.1 h;obtain⟨z,k,h⟩:=aB.1 h;cases h;have L:=Ib O;subst L;have K:B = #[T]:=by
     rw[tD]at M;obtain⟨l⟩:=B
     match l,A with
     | [t],_=>simp at M;subst M;rfl
    subst K;exact⟨rfl,fY (RF E (ty:=J) (bY F q) k) (λw v j=>by simp[execOp,resolve,invoke,builtin,j])⟩
   | cap =>
    obtain⟨x,O,h⟩:=BO (show IW Q.toList (SN tb B.toList) s H GJ=some (g,r)from h);obtain⟨T,M,h⟩:=aB.1 (show ob (F_ B.toList 0) _=some (g,r)from h);obtain⟨v,q,h⟩:=aB.1 h;obtain⟨z,k,h⟩:=aB.1 h;cases h;have L:=Ib O;subst L;have K:B = #[T]:=by
     rw[tD]at M;obtain⟨l⟩:=B
     match l,A with
     | [t],_=>simp at M;subst M;rfl
    subst K;exact⟨rfl,fY (RD E (ty:=J) (bY F q) k) (λw v j=>by simp[execOp,resolve,invoke,builtin,j])⟩
   | max =>
    obtain⟨x,y,O,h⟩:=wZ (show CR Q.toList (λx y=>k2 x y Wj) s H GJ=some (g,r)from h);obtain⟨v,q,h⟩:=aB.1 (show ob (kG s x) _=some (g,r)from h);obtain⟨u,C,h⟩:=aB.1 h;obtain⟨z,k,h⟩:=aB.1 h;cases h;have L:=DJ O;subst L;obtain⟨G,I,K⟩:∃G I,B = #[G,I]:=by
     obtain⟨l⟩:=B
     match l,A with
     | [t,t'],_=>exact⟨t,t',rfl⟩
    subst K;exact⟨rfl,fY (RH (t1:=G) (t2:=I) (ty:=J) (bY F q) (bY F C) k) (λw v j=>by simp[execOp,resolve,invoke,builtin,j])⟩
   | min =>
    obtain⟨x,y,O,h⟩:=wZ (show CR Q.toList (λx y=>k2 x y Wk) s H GJ=some (g,r)from h);obtain⟨v,q,h⟩:=aB.1 (show ob (kG s x) _=some (g,r)from h);obtain⟨u,C,h⟩:=aB.1 h;obtain⟨z,k,h⟩:=aB.1 h;cases h;have L:=DJ O;subst L;obtain⟨G,I,K⟩:∃G I,B = #[G,I]:=by
     obtain⟨l⟩:=B
     match l,A with
     | [t,t'],_=>exact⟨t,t',rfl⟩
    subst K;exact⟨rfl,fY (RI (t1:=G) (t2:=I) (ty:=J) (bY F q) (bY F C) k) (λw v j=>by simp[execOp,resolve,invoke,builtin,j])⟩
   |_=>cases R
 |_=>cases R
theorem Oc (hG:eQ P tb) {T:TypeId} {n:Nat} {l:List (Nat×GV)} {parts:List (Nat×Value)} {ρ:dH} {H H':GH} {g:GV} (hp:RlP ρ l parts) (h:zG tb T n l H=some (g,H')):
  ∃cs a' T' len sz,H'=H.new (.cells cs)∧g = .sl H.n 0 len sz∧Sc ρ cs a'∧cs.length=a'.size∧∀w:World,∃V,(Instr.buildSlice T n parts.toArray).run P w = .ok V (w.alloc (.cells a' T'))∧∀ρ':dH,ρ' H.n=some ⟨w.heap.size,0,a'.size,.cells a' T',.cells cs⟩->Rl ρ' g V:=by
 obtain⟨te,hte,h⟩:=aB.1 (show ob (zR tb T) _=some (g,H')from h);obtain⟨zc,hz,h⟩:=aB.1 h;obtain⟨hlen,h⟩:=bN.1 h;obtain⟨hbig,h⟩:=bN.1 h;obtain⟨h0,h⟩:=kT.1 h;obtain⟨cs,hfill,h⟩:=aB.1 h;rw[iQ]at h;cases h;obtain⟨⟨d,hd,hde⟩,hE,htab⟩:=wW hG hte;obtain⟨dz,hdz,_,hC⟩:=vC (ρ:=ρ) hG hz;rw[htab]at hdz;cases hdz;have hlen:zc.length=te.2.size:=Nat.eq_of_beq_eq_true hlen;have h0:te.2.size≠0:=λe=>by rw[e]at h0;cases h0
 have hbig:n*te.2.size<16777216:=by simpa [Nat.blt_eq]using hbig
 have hrep:=HY hC (by omega) n;rw[hlen]at hrep;obtain⟨a',f1,f2⟩:=Dx hp hrep hfill;have hsz0:cs.length=a'.size:=by have:=f2.r.len;simpa using this
 have hsz:a'.size=n*te.2.size:=by
  have e1:=f2.r.len;have:cs.length=(Ov zc n).length:=EB hfill;rw[this,FC,hlen]at e1;simp at e1;omega
 refine⟨cs,a',te.1,n,te.2.size,rfl,rfl,f2,hsz0,λw=>⟨.slice (some ⟨w.heap.size,0,none⟩) n n,?_,λρ' hρ=> .sl (l:=⟨w.heap.size,0,a'.size,.cells a' te.1,.cells cs⟩) hρ (Nat.le_refl _) (.inr ⟨rfl,by simp[hsz]⟩)⟩⟩
 have hu:=hd.run_und w;rw[hde]at hu;by_cases hn:n*te.2.size=0
 ·have hz0:n=0:=by rcases Nat.mul_eq_zero.1 hn with h|h;exact h;exact absurd h h0
  subst hz0;have e0:(Array.range (0*te.2.size)).map (te.2.zero.cells[· % te.2.zero.cells.size]!)=(#[]:Array Value):=by simp
  rw[e0]at f1;have e1:(Array.range 0).map (λ_=>(default:Value)) = #[]:=by simp
  simp[Instr.buildSlice,hu,hE.run_size w,newRow];simp[e1,f1]
 ·simp[Instr.buildSlice,hu,hE.run_size w,hE.run_zero w,hn,f1,newRow,show¬(16777216<n*te.2.size) by omega]
theorem TN {t u w:dH} (x:∀h A l,t h=some A->u h=some l->w h=some l) {g:GV} {v:Value} (C:Rl u g v):∀{r:Value},Rl t g r->Rl w g v:=by
 induction C with
 |int k n=>exact λ_=> .int k n
 |bool b=>exact λ_=> .bool b
 |str s=>exact λ_=> .str s
 |ptr y q=>exact λj=>by cases j with|ptr _ m=>exact .ptr y (x _ _ _ m q)
 |pnil=>exact λ_=> .pnil
 |sl q E D=>exact λj=>by cases j with|sl m _ _=>exact .sl (x _ _ _ m q) E D
 |snil=>exact λ_=> .snil
 |map q=>exact λj=>by cases j with|map m=>exact .map (x _ _ _ m q)
 | fn f a b c d ihb ihd =>
   intro r j;cases j with
   | fn _ z p B d0 =>
    refine .fn f a (λi g v e o=> ?_) c (λi g v e o=> ?_)
    ·have:=bB e;exact ihb i g v e o (p i g _ e (List.getElem?_eq_getElem (by omega)))
    ·have:=bB e;exact ihd i g v e o (d0 i g _ e (List.getElem?_eq_getElem (by omega)))
 |fnil=>exact λ_=> .fnil
 |inil=>exact λ_=> .inil
 | agg a b c ihb =>
   intro r j;cases j with
   |agg z p B=>
    refine .agg a (λi g v e o=> ?_) c;have:=bB e;exact ihb i g v e o (p i g _ e (List.getElem?_eq_getElem (by omega)))
 | tup a b ihb =>
   intro r j;cases j with
   |tup z p=>
    refine .tup a (λi g v e o=> ?_);have:=bB e;exact ihb i g v e o (p i g _ e (List.getElem?_eq_getElem (by omega)))
 |un=>exact λ_=> .un
 |bad v=>exact λ_=> .bad v
 | opn v h hx =>
   intro r j;obtain⟨A,a,_⟩:=j.opn_inv;exact .opn v (x _ _ _ a h) hx
structure Zb (tb:TB) (ih:CH) (all l:List Oper) (S:Nat->GF) (HH:Nat->GH) (gg:Nat->GV):Prop where
 st:∀i o,l[i]? = some o->DR tb ih all o (S i) (HH i)=some (gg i,HH (i+1))
 up:∀i o,l[i]? = some o->S (i+1)=putD o.dst (gg i) (S i)
theorem Km {d:CH} {all:List Oper} {k:GS->RS} {b:MD}:∀(l:List Oper) (s:GS),Ed tb d all k l s=some b->∃S c e,S 0=s.σ∧c 0=s.H∧Zb tb d all l S c e∧k ⟨S l.length,c l.length⟩=some b
 | [],s,h=>⟨λ_=>s.σ,λ_=>s.H,λ_=> .un,rfl,rfl,⟨λi o a=>by simp at a,λi o a=>by simp at a⟩,h⟩
 | o :: l, s, h => by
  obtain⟨g,t,p,q⟩:=Dv (show IL tb d all o (Ed tb d all k l) s=some b from h);obtain⟨S,c,e,m,n,j,r⟩:=Km l _ q;refine⟨λi=>Nat.casesOn i s.σ S,λi=>Nat.casesOn i s.H c,λi=>Nat.casesOn i g e,rfl,rfl,⟨λi f a=> ?_,λi f a=> ?_⟩,r⟩
  ·cases i with
   |zero=>simp at a;subst a;show DR tb d all o s.σ s.H=some (g,c 0);rw[p,n]
   |succ i=>exact j.st i f (by simpa using a)
  ·cases i with
   |zero=>simp at a;subst a;exact m
   |succ i=>exact j.up i f (by simpa using a)
theorem w_ {o:Op} (h:mJ o=true):eB o=false:=by
 cases o<;>first|rfl|cases h
structure Vrs (all l:List Oper) (m:List Nat) (i:Nat) (S:Nat->GF) (HH:Nat->GH) (pr:List (Nat×Option (Nat×Nat))) (hs:List (Nat×GH)):Prop where
 pr:∀q h v,(q,some (h,v))∈pr->∀j oj,l[j]? = some oj->eB oj.op=true->before m (i+j) q=false->(HH (j+1)).ver h=some v
 hs:∀k ok h,l[k]? = some ok->mJ ok.op=true->Yo (S k) ok.op=some h->∃v,(HH k).ver h=some v∧∀q Hq,(q,Hq)∈hs->before m (i+k) q=false->Hq.ver h=some v
 lo:∀k ok h v,l[k]? = some ok->mJ ok.op=true->Yo (S k) ok.op=some h->(HH k).ver h=some v->
  (∀j oj,j<k->l[j]? = some oj->eB oj.op=true->before m (i+k) (i+j)=false->(HH j).ver h=some v)∧(∀j oj,k<j->l[j]? = some oj->eB oj.op=true->before m (i+j) (i+k)=false->(HH (j+1)).ver h=some v)
theorem Vrs.cons {all l:List Oper} {m:List Nat} {i:Nat} {S:Nat->GF} {B:Nat->GH} {G x:List (Nat×Option (Nat×Nat))} {F u:List (Nat×GH)} {o:Oper} {L:GF} {H:GH} (V:Vrs all l m (i+1) S B x u)
  (E:∀p∈G,p∈x) (C:∀p∈F,p∈u) (I:eB o.op=true->(i,H)∈u∧∀p∈G,before m i p.1=false->∀d,p.2=some d->(B 0).ver d.1=some d.2)
  (J:mJ o.op=true->∀h,Yo L o.op=some h->∃v,H.ver h=some v∧(i,some (h,v))∈x∧∀q y,(q,y)∈F->before m i q=false->y.ver h=some v):
  Vrs all (o::l) m i (λj=>Nat.casesOn j L S) (λj=>Nat.casesOn j H B) G F:=by
 have e:∀j,i+(j+1)=i+1+j:=λj=>by omega
 refine⟨λq h v z j w g s f=> ?_,λk A h n s t=> ?_,λk A h v n s t d=>⟨λj w D g r f=> ?_,λj w D g r f=> ?_⟩⟩
 ·cases j with
  |zero=>simp at g;subst g;exact(I s).2 _ z (by simpa using f) _ Z
  |succ j=>exact V.pr q h v (E _ z) j w (by simpa using g) s (by rw[<-e];exact f)
 ·cases k with
  |zero=>
   simp at n;subst n;obtain⟨v,a,_,c⟩:=J s h t;exact⟨v,a,λq y z f=>c q y z (by simpa using f)⟩
  |succ k=>
   obtain⟨v,a,b⟩:=V.hs k A h (by simpa using n) s t;exact⟨v,a,λq y z f=>b q y (C _ z) (by rw[<-e];exact f)⟩
 ·cases k with
  |zero=>omega
  | succ k =>
   have n:l[k]? = some A:=by simpa using n
   cases j with
   |zero=>
    simp at g;subst g;obtain⟨K,a,b⟩:=V.hs k A h n s t;have a:(B k).ver h=some K:=a;have d:(B k).ver h=some v:=d;rw[a]at d;cases d;exact b i H (I r).1 (by rw[<-e];simpa using f)
   |succ j=>exact(V.lo k A h v n s t d).1 j w (by omega) (by simpa using g) r (by rw[<-e,<-e];exact f)
 ·cases j with
  |zero=>omega
  | succ j =>
   have g:l[j]? = some w:=by simpa using g
   cases k with
   |zero=>
    simp at n;subst n;obtain⟨K,a,b,_⟩:=J s h t;have d:H.ver h=some v:=d;rw[a]at d;cases d;exact V.pr i h v b j w g r (by rw[<-e];simpa using f)
   |succ k=>exact(V.lo k A h v (by simpa using n) s t d).2 j w (by omega) g r (by rw[<-e,<-e];exact f)
theorem HS {x:CH} {all:List Oper} {m:List Nat} {k:GS->RS} {A:MD}:∀(l:List Oper) (i:Nat) (J:List (Nat×Option (Nat×Nat))) (D:List (Nat×GH)) (s:GS),evW tb x all m k l i J D s=some A->
  ∃S a r,S 0=s.σ∧a 0=s.H∧Zb tb x all l S a r∧Vrs all l m i S a J D∧k ⟨S l.length,a l.length⟩=some A
 | [],i,J,D,s,h=>⟨λ_=>s.σ,λ_=>s.H,λ_=> .un,rfl,rfl,⟨λi o d=>by simp at d,λi o d=>by simp at d⟩,⟨λ_ _ _ _ j Y V=>by simp at V,λk X h f=>by simp at f,λk X h v f=>by simp at f⟩,h⟩
 | o :: l, i, J, D, s, h => by
  have t:UL tb x all m o (evW tb x all m k l) i J D s=some A:=h;have B:∀{g:GV} {C:GH} {S:Nat->GF} {a:Nat->GH} {r:Nat->GV},DR tb x all o s.σ s.H=some (g,C)->S 0=putD o.dst g s.σ->a 0=C->Zb tb x all l S a r->Zb tb x all (o::l) (λj=>Nat.casesOn j s.σ S) (λj=>Nat.casesOn j s.H a) (λj=>Nat.casesOn j g r):=λ{g C S a r} z y n w=>⟨λi O d=>by
    cases i with
    |zero=>simp at d;subst d;show DR tb x all o s.σ s.H=some (g,a 0);rw[z,n]
    |succ i=>exact w.st i O (by simpa using d),λi O d=>by
    cases i with
    |zero=>simp at d;subst d;exact y
    |succ i=>exact w.up i O (by simpa using d)⟩
  unfold UL at t;cases b:eB o.op with
  |true=>
   rw[b]at t;obtain⟨g,C,z,E⟩:=Dv t;obtain⟨_,u,K⟩:=aB.1 E;have u:=CL u;obtain⟨S,a,r,y,n,w,I,f⟩:=HS l _ _ _ _ K;refine⟨_,_,_,rfl,rfl,B z y n w,I.cons (λ_ h=>h) (λp G=>List.mem_cons_of_mem _ G) (λ_=>⟨List.mem_cons_self,λp G L M U=>by rw[n];exact u p G L M U⟩) (λc=>by rw[w_ c]at b;cases b),f⟩
  | false =>
   rw[b]at t;cases c:mJ o.op with
   |true=>
    simp only[c]at t;obtain⟨g,C,z,E⟩:=Dv t;obtain⟨e,u,K⟩:=aB.1 E;obtain⟨S,a,r,y,n,w,I,f⟩:=HS l _ _ _ _ K;refine⟨_,_,_,rfl,rfl,B z y n w,I.cons (λp G=>List.mem_cons_of_mem _ G) (λ_ h=>h) (λh=>by rw[b]at h;cases h) (λ_ Q F=> ?_),f⟩
    rw[F]at u;obtain⟨v,N,u⟩:=aB.1 (show ob (s.H.ver Q) (λv=>ID m i Q v D)=some e from u);obtain⟨rfl,T⟩:=CM u;exact⟨v,N,List.mem_cons_self,λq R W L=>T (q,R) W L⟩
   |false=>
    simp only[c]at t;obtain⟨g,C,z,E⟩:=Dv t;obtain⟨S,a,r,y,n,w,I,f⟩:=HS l _ _ _ _ E;exact⟨_,_,_,rfl,rfl,B z y n w,I.cons (λ_ h=>h) (λ_ h=>h) (λh=>by rw[b]at h;cases h) (λh=>by rw[c]at h;cases h),f⟩
theorem UK {s:CH} (t:eQ P tb) (p:rK P w0 s) {all:List Oper} {n:Nat} {o:Oper} {q:GF} {H k:GH} {g:GV} {d:dH} {a:Act} {w:World} (r:GI n o=true) (F:kX d n q a) (R:eX w0 d H w) (h:DR tb s all o q H=some (g,k)):
  ∃b i e,d.le b∧eX w0 b k e∧kX b n (putD o.dst g q) i:=by
 obtain⟨_,c,_⟩:=sQ r;rcases HR t p r F R h with⟨_,x⟩|⟨_,rfl,rfl⟩
 ·rcases x with⟨_,_,_,rfl,v,f,_⟩|⟨_,_,rfl,v,_,_,_,_,_,f,_⟩|⟨_,_,rfl,v,f,_⟩|⟨_,u⟩
  ·exact⟨d,_,w,dH.le_refl _,R,F.putD c f⟩
  ·exact⟨d,_,w,dH.le_refl _,R,F.putD c f⟩
  ·exact⟨d,_,w,dH.le_refl _,R,F.putD c f⟩
  ·obtain⟨i,e,b,v,j,l,m,rfl⟩:=Ny (u (λi e=>∃b v,d.le b∧eX w0 b k e∧Rl b g v∧i=a.put o.dst v) λb e v j l m=>⟨b,v,j,l,m,rfl⟩);exact⟨b,_,e,j,l,(F.le j).putD c m⟩
 ·exact⟨d,_,w,dH.le_refl _,R,F.putD c .un⟩
theorem KH {q:CH} (p:eQ P tb) (f:rK P w0 q) {all:List Oper} {n:Nat} (c:all.all (GI n)=true) {S:Nat->GF} {g:Nat->GH} {u:Nat->GV} (T:Zb tb q all all S g u) {k:dH} {a:Act} {w:World} (F:kX k n (S 0) a) (R:eX w0 k (g 0) w):
    ∀m,m<=all.length->∃b:Nat->dH,(∀i,i<=m->∃a w,eX w0 (b i) (g i) w∧kX (b i) n (S i) a)∧∀i,i<m->(b i).le (b (i+1))
  | 0, _ => ⟨λ_ => k, λi h => by
      have : i = 0 := by omega
      subst this;exact⟨a,w,R,F⟩,λi h=>by omega⟩
  | m + 1, hm => by
    obtain⟨b,o,v⟩:=KH p f c T F R m (by omega);obtain⟨A,B,s,r⟩:=o m (Nat.le_refl _);have d:all[m]? = some all[m]:=List.getElem?_eq_getElem (by omega);obtain⟨l,t,z,j,x,y⟩:=UK p f (List.all_eq_true.1 c _ (List.getElem_mem (by omega))) r s (T.st m _ d);refine⟨λi=>if i<=m then b i else l,λi h=> ?_,λi h=> ?_⟩
    · by_cases e:i<=m
      · simp only[e,if_true];exact o i e
      · have:i=m+1:=by omega
        subst this;simp only[e,if_false];exact⟨t,z,x,by rw[T.up m _ d];exact y⟩
    · by_cases e:i+1<=m
      · simp only[e,show i<=m by omega,if_true];exact v i (by omega)
      · have:i=m:=by omega
        subst this;simp only[e,Nat.le_refl,if_true,if_false];exact j
theorem NY {a:Nat->GH} {m:Nat} (b:∀i,i<m->(a i).n<=(a (i+1)).n) {i:Nat}:∀{j:Nat},i<=j->j<=m->(a i).n<=(a j).n
  | 0, h, _ => by
      have : i = 0 := by omega
      subst this;exact Nat.le_refl _
  | j + 1, h, hj => by
    by_cases e:i=j+1
    · subst e;exact Nat.le_refl _
    · exact Nat.le_trans (NY b (by omega) (by omega)) (b j (by omega))
theorem Jw {w:CH} {all:List Oper} {S:Nat->GF} {u:Nat->GH} {n:Nat->GV} (T:Zb tb w all all S u n) {t:Nat} {g:GV}:∀k,k<=all.length->DT (S k) t=some g->
  (∃i o,i<k∧all[i]? = some o∧o.dst=some t∧n i=g∧∀j a,i<j->j<k->all[j]? = some a->a.dst≠some t)∨((∀j a,j<k->all[j]? = some a->a.dst≠some t)∧DT (S 0) t=some g)
 |0,_,h=> .inr ⟨λj a s=>by omega,h⟩
 | k + 1, hk, h => by
  have c:all[k]? = some all[k]:=List.getElem?_eq_getElem (by omega);rw[T.up k _ c]at h;have m:all[k].dst≠some t->DT (S k) t=some g->_:=λl h=>
   match Jw T k (by omega) h with
   | .inl ⟨i, o, q, p, h3, h4, h5⟩ => (.inl ⟨i, o, by omega, p, h3, h4, λj a r s b => by
     by_cases e:j=k
     ·subst e;rw[c]at b;cases b;exact l
     ·exact h5 j a r (by omega) b⟩:(∃i o,i<k+1∧all[i]? = some o∧o.dst=some t∧n i=g∧∀j a,i<j->j<k+1->all[j]? = some a->a.dst≠some t)∨((∀j a,j<k+1->all[j]? = some a->a.dst≠some t)∧DT (S 0) t=some g))
   | .inr ⟨q, p⟩ => .inr ⟨λj a s b => by
     by_cases e:j=k
     ·subst e;rw[c]at b;cases b;exact l
     ·exact q j a (by omega) b,p⟩
  cases f:all[k].dst with
  |none=>
   rw[f]at h;exact m (by rw[f];simp) h
  | some d =>
   rw[f]at h;have h:DT ((d,n k)::S k) t=some g:=h;rw[zS]at h;by_cases e:t=d
   ·subst e;rw[if_pos Z]at h;cases h;exact .inl ⟨k,_,by omega,c,f,rfl,λj a q p=>by omega⟩
   ·rw[if_neg e]at h;exact m (by rw[f];intro v;cases v;exact e Z) h
def nF (o:Op):Bool:=eB o && !isFloat o
def Hp (tb:TB) (x o:Op):Bool:=pureOp tb x||pureOp tb o||isFloat o||(!eB x && !eB o)||(mJ x&&eB o)||(nF x&&mJ o)
def chkF (tb:TB) (l:List Oper) (m:List Nat):Bool:=
 (List.range l.length).all λi=>match l[i]? with
  |none=>false
  |some o=>
   (sU o).all (λe=>Nat.blt e i&&before m i e&&(List.range i).all (λk=> !before m e k||before m i k)) &&
   (List.range l.length).all (λk=> !before m i k||(Nat.blt k i&&(sU o).any (λe=>Nat.beq e k||before m e k))) &&
   !Bf o.op &&
   (List.range i).all (λx=>before m i x||(match l[x]? with|none=>false|some a=>a.apart l.toArray o&&Hp tb a.op o.op))
structure Tp (tb:TB) (l:List Oper) (m:List Nat):Prop where
 edge:∀(i:Nat) (o:Oper),l[i]? = some o->∀e∈sU o,e<i∧before m i e=true
 trans:∀(i:Nat) (o:Oper),l[i]? = some o->∀k,before m i k=true->k<l.length->k<i∧∃e∈sU o,e=k∨before m e k=true
 ind:∀(i x:Nat) (oi ox:Oper),l[i]? = some oi->l[x]? = some ox->x<i->before m i x=false->ox.apart l.toArray oi=true∧Hp tb ox.op oi.op=true
theorem Gn {l:List Oper} {m:List Nat} (h:chkF tb l m=true):Tp tb l m:=by
 have b:∀(i:Nat) (o:Oper),l[i]? = some o->
   ((sU o).all (λe=>Nat.blt e i&&before m i e&&(List.range i).all (λk=> !before m e k||before m i k))=true)∧
   ((List.range l.length).all (λk=> !before m i k||(Nat.blt k i&&(sU o).any (λe=>Nat.beq e k||before m e k)))=true)∧Bf o.op=false∧
   ((List.range i).all (λx=>before m i x||(match l[x]? with|none=>false|some g=>g.apart l.toArray o&&Hp tb g.op o.op))=true):=by
  intro i o c;have:=List.all_eq_true.1 h i (List.mem_range.2 (bB c));simp only[c,Bool.and_eq_true,Bool.not_eq_true']at this;exact⟨this.1.1.1,this.1.1.2,this.1.2,this.2⟩
 refine⟨?_,?_,?_⟩
 ·intro i o c e f;have:=List.all_eq_true.1 (b i o c).1 e f;simp only[Bool.and_eq_true,Nat.blt_eq]at this;exact⟨this.1.1,this.1.2⟩
 ·intro i o c k q a;have:=List.all_eq_true.1 (b i o c).2.1 k (List.mem_range.2 a);simp only[q,Bool.not_true,Bool.false_or,Bool.and_eq_true,Nat.blt_eq,List.any_eq_true,Bool.or_eq_true]at this;obtain⟨j,e,f,d⟩:=this;refine⟨j,e,f,?_⟩
  rcases d with d|d
  ·exact .inl (Nat.eq_of_beq_eq_true d)
  ·exact .inr d
 ·intro i x s g p r a n;have:=(b i s p).2.2.2;have:=List.all_eq_true.1 this x (List.mem_range.2 a);simp only[n,Bool.false_or,r,Bool.and_eq_true]at this;exact this
theorem Kq {X:CH} (I:eQ P tb) {all:List Oper} {n:Nat} {o:Oper} {z:GF} {H f:GH} {g:GV} {y:dH} {a:Act} (S:isFloat o.op=true) (F:kX y n z a) (h:DR tb X all o z H=some (g,f)):
  (Region.wanted o (yielded all.toArray a.tmps)=false∧g = .un∧f=H)∨
  (Region.wanted o (yielded all.toArray a.tmps)=true∧∃k i u,f=H.new (.cells k)∧Sc y k i∧k.length=i.size∧∀w:World,∃V,(execOp a.eval o).run P w = .ok (.value V) (w.alloc (.cells i u))∧∀c:dH,c H.n=some ⟨w.heap.size,0,i.size,.cells i u,.cells k⟩->Rl c g V):=by
 rcases Du F h with⟨U,b⟩|h
 ·refine .inr ⟨U,?_⟩;obtain⟨d,op,ty,aa,L,gd⟩:=o;cases op with
  |buildSlice T m D=>
   obtain⟨vs,C,b⟩:=aB.1 (show ob (tB z D.toList) _=some (g,f)from b);obtain⟨E,q,b,s⟩:=nE b;cases s;obtain⟨k,i,u,Y,sz,A,h2,M,N,O⟩:=Oc (P:=P) I (Be F C) b;refine⟨k,i,u,A,M,N,λw=> ?_⟩
   obtain⟨V,t,B⟩:=O w;refine⟨V,?_,B⟩
   have e:(D.toList.map λp=>(p.1,a.eval p.2)).toArray=D.map λp=>(p.1,a.eval p.2):=by apply Array.toList_inj.1;simp
   rw[e]at t;simp[execOp,t]
  |alloc T=>
   obtain⟨E,q,b,s⟩:=nE (show iM (sC tb T H) GJ=some (g,f)from b);cases s;obtain⟨K,W,b⟩:=aB.1 (show ob (AW tb T) _=some (g,f)from b);rw[iQ]at b;cases b;obtain⟨d,hd,Q,G⟩:=vC (ρ:=y) I W;refine⟨K,d.zero.cells,T,rfl,G,by have:=G.r.len;simpa using this,λw=>⟨_,?_,λc j=> .ptr (l:=⟨w.heap.size,0,d.zero.cells.size,.cells d.zero.cells T,.cells K⟩) 0 j⟩⟩
   simp[execOp,GN w Q]
  |box T x=>
   obtain⟨v,B,b⟩:=aB.1 (show ob (kG z x) (λv=>iM (Tg v H) GJ)=some (g,f)from b);obtain⟨E,q,b,s⟩:=nE b;cases s;obtain⟨J,R,b⟩:=aB.1 (show ob v.cells _=some (g,f)from b);rw[iQ]at b;cases b;obtain⟨vs,e,t,A⟩:=(bY F B).cells R;refine⟨J,(a.eval x).cells,T,rfl,by rw[e];exact⟨t,A⟩,by rw[e];have:=t.len;simpa using this,λw=>⟨_,?_,λc j=> .ptr (l:=⟨w.heap.size,0,(a.eval x).cells.size,.cells (a.eval x).cells T,.cells J⟩) 0 j⟩⟩
   simp[execOp,Instr.box,newVar,newRow]
  |_=>cases S
 ·exact .inl h
end
def EV (b a:dH):dH:=λh=>match b h with
 |some l=>some l
 |none=>a h
theorem vO {a b:dH} {h:Nat} {l:JY} (e:a h=some l):EV a b h=some l:=by simp[EV,e]
theorem vN {b a:dH} {h:Nat} (e:b h=none):EV b a h=a h:=by simp[EV,e]
theorem Fy {a b:dH}:a.le (EV a b):=λ_ _ e=>vO e
def SlD (all:List Oper) (b:GF) (c:Nat->GV) (D:Nat->Bool) (t:Nat) (g:GV):Prop:=
 (∃i o,D i=true∧all[i]? = some o∧o.dst=some t∧c i=g∧∀j a,D j=true->all[j]? = some a->a.dst=some t->j<=i)∨((∀j a,D j=true->all[j]? = some a->a.dst≠some t)∧DT b t=some g)
def ins (D:Nat->Bool) (k:Nat):Nat->Bool:=λj=>j==k||D j
theorem zU (D:Nat->Bool) (k:Nat):ins D k k=true:=by simp[ins]
theorem yL {D:Nat->Bool} {k j:Nat} (h:j≠k):ins D k j=D j:=by simp[ins,h]
theorem zT {D:Nat->Bool} {k j:Nat} (h:D j=true):ins D k j=true:=by simp[ins,h]
noncomputable def Cm (σ:GF) (L:f_):GF:=L.filterMap λt=>(DT σ t).map λg=>(t,g)
theorem Bd {σ:GF} {t:Nat}:∀{L:f_},DT (Cm σ L) t=if t∈L then DT σ t else none
 | []=>rfl
 | x :: L => by
  have c:=Bd (σ:=σ) (t:=t) (L:=L);cases b:DT σ x with
  |none=>
   have e:Cm σ (x::L)=Cm σ L:=by simp[Cm,b]
   rw[e,c];by_cases a:t=x
   ·subst a;simp[b]
   ·simp[a]
  |some g=>
   have e:Cm σ (x::L)=(x,g)::Cm σ L:=by simp[Cm,b]
   rw[e,zS,c];by_cases a:t=x
   ·subst a;simp[b]
   ·simp[a]
section
variable {P:Program} {tb:TB} {gs:xS} {w0:eD gs} {ih:CH} {all:List Oper} {n:Nat} {S:Nat->GF} {HH:Nat->GH} {gg:Nat->GV}
structure uN (P:Program) (tb:TB) {gs:xS} (w0:eD gs) (ih:CH) (all:List Oper) (n:Nat) (S:Nat->GF) (HH:Nat->GH) (gg:Nat->GV):Prop where
 tab:eQ P tb
 call:∀w0:eD gs,rK P w0 ih
 ops:all.all (GI n)=true
 chk:Tp tb all (oZ all)
 trc:Zb tb ih all all S HH gg
 vrs:∀k ok h v,all[k]? = some ok->mJ ok.op=true->Yo (S k) ok.op=some h->(HH k).ver h=some v->
  (∀j oj,j<k->all[j]? = some oj->eB oj.op=true->before (oZ all) k j=false->(HH j).ver h=some v)∧(∀j oj,k<j->all[j]? = some oj->eB oj.op=true->before (oZ all) j k=false->(HH (j+1)).ver h=some v)
 chain:∃ρs:Nat->dH,(∀i,i<=all.length->∃a w,eX w0 (ρs i) (HH i) w∧kX (ρs i) n (S i) a)∧∀i,i<all.length->(ρs i).le (ρs (i+1))
theorem uN.ghost (E:uN P tb w0 ih all n S HH gg) (i:Nat) (c:i<=all.length):∃b a w,eX w0 b (HH i) w∧kX b n (S i) a:=
 let ⟨ρs,h,_⟩:=E.chain
 ⟨ρs i,h i c⟩
theorem uN.mono (E:uN P tb w0 ih all n S HH gg) (i:Nat) (a:i<all.length):(HH i).n<=(HH (i+1)).n:=by
 obtain⟨e,h,b⟩:=E.chain;obtain⟨_,_,c,_⟩:=h i (Nat.le_of_lt a);obtain⟨_,_,d,_⟩:=h (i+1) a;exact c.mono d (b i a)
theorem Nf {a:Nat->dH} {m:Nat} (h:∀i,i<m->(a i).le (a (i+1))) {i:Nat}:∀{j:Nat},i<=j->j<=m->(a i).le (a j)
  | 0, h1, _ => by
      have : i = 0 := by omega
      subst this;exact dH.le_refl _
  | j + 1, h1, hj => by
    by_cases e:i=j+1
    · subst e;exact dH.le_refl _
    · exact dH.le_trans (Nf h (by omega) (by omega)) (h j (by omega))
theorem uN.same (E:uN P tb w0 ih all n S HH gg) {i j:Nat} (b:i<=j) (u:j<=all.length) {h v:Nat} (q:(HH i).ver h=some v) (r:(HH j).ver h=some v):(HH i).get h=(HH j).get h:=by
 obtain⟨J,s,e⟩:=E.chain;have A:=Nf e b u;obtain⟨_,K,l,_⟩:=s i (by omega);obtain⟨_,L,m,_⟩:=s j u;have a:∀{k:Nat},(HH k).ver h=some v->∃o,(HH k).get h=some o:=λ{k} hv=>by
  obtain⟨p,B,_⟩:=aB.1 (show ob ((HH k).t.get h) _=some v from hv);exact⟨p.2,by unfold GH.get;rw[B];rfl⟩
 obtain⟨H,f⟩:=a q;obtain⟨I,g⟩:=a r;obtain⟨C,c,_⟩:=l.live h H f;obtain⟨D,d,_⟩:=m.live h I g;obtain⟨F,w,_,y⟩:=l.vers h v C q c;obtain⟨G,x,_,z⟩:=m.vers h v D r d;have:=A _ _ w;rw[x]at this;cases this;rw[y,z]
theorem uN.op (E:uN P tb w0 ih all n S HH gg) {k:Nat} {o:Oper} (a:all[k]? = some o):GI n o=true:=List.all_eq_true.1 E.ops o (List.mem_of_getElem? a)
theorem uN.quiet (E:uN P tb w0 ih all n S HH gg) {k:Nat} {o:Oper} (b:all[k]? = some o) (c:eB o.op=false):HH (k+1)=HH k:=by
 obtain⟨e,a,w,R,F⟩:=E.ghost k (Nat.le_of_lt (bB b));rcases HR E.tab (E.call w0) (E.op b) F R (E.trc.st k o b)with⟨_,d⟩|⟨_,_,h⟩
 ·rcases d with⟨_,_,_,h,_⟩|⟨_,_,h,_⟩|⟨_,_,h,_⟩|⟨h,_⟩
  ·exact h
  ·exact h
  ·exact h
  ·rw[c]at h;cases h
 ·exact h
theorem uN.floats (E:uN P tb w0 ih all n S HH gg) {k:Nat} {o:Oper} (c:all[k]? = some o) (d:isFloat o.op=true):HH (k+1)=HH k∨∃b,HH (k+1)=(HH k).new (.cells b):=by
 obtain⟨e,a,w,R,F⟩:=E.ghost k (Nat.le_of_lt (bB c));rcases Kq (P:=P) E.tab d F (E.trc.st k o c)with⟨_,_,h⟩|⟨_,b,_,_,h,_⟩
 ·exact .inl h
 ·exact .inr ⟨b,h⟩
theorem Vq {H:GH} {o:GO} (h:H=H.new o):False:=by
 have:H.n=H.n+1:=congrArg GH.n h;omega
theorem SS {H:GH} {c a:List GV} (h:H.new (.cells c)=H.new (.cells a)):c=a:=by
 have b:=qD H (.cells c) H.n;have d:=qD H (.cells a) H.n;rw[if_pos Z]at b d;rw[h,d]at b;cases b;rfl
theorem uN.mono' (E:uN P tb w0 ih all n S HH gg) {i j:Nat} (h:i<=j) (a:j<=all.length):(HH i).n<=(HH j).n:=NY E.mono h a
theorem uN.apart (E:uN P tb w0 ih all n S HH gg) {i j:Nat} {b c:List GV} (k:i<all.length) (l:j<all.length) (d:HH (i+1)=(HH i).new (.cells b)) (f:HH (j+1)=(HH j).new (.cells c)) (h:(HH i).n=(HH j).n):i=j:=by
 have e:(HH (i+1)).n=(HH i).n+1:=by rw[d];rfl
 have g:(HH (j+1)).n=(HH j).n+1:=by rw[f];rfl
 rcases Nat.lt_trichotomy i j with a|a|a
 ·have:=E.mono' (i:=i+1) (j:=j) (by omega) (by omega);omega
 ·exact a
 ·have:=E.mono' (i:=j+1) (j:=i) (by omega) (by omega);omega
structure vD {gs:xS} (w0:eD gs) (ρb:dH) (n:Nat) (all:List Oper) (S0:GF) (HH:Nat->GH) (gg:Nat->GV) (D:Nat->Bool) (a:Act) (w:World) (t:Nat) (ρ pm:dH):Prop where
 tm:t<=all.length
 lou:∀j o,all[j]? = some o->nF o.op=true->(D j=true↔j<t)
 flo:∀j o,all[j]? = some o->isFloat o.op=true->j<t->D j=true
 rel:eX w0 ρ (HH t) w
 up:ρb.le ρ
 defers:a.defers=[]
 size:a.tmps.size=n
 slot:∀s g,SlD all S0 gg D s g->Rl (EV ρ pm) g (a.eval (.tmp s))
 pend:∀i o cs,all[i]? = some o->isFloat o.op=true->HH (i+1)=(HH i).new (.cells cs)->t<=i->D i=true->∃l,pm (HH i).n=some l∧w0.mine l.b∧¬Ts ρ (HH t) l.b∧w.heap[l.b]? = some l.x∧wF (EV ρ pm) w l (.cells cs)∧l.o = .cells cs
 only:∀h l,pm h=some l->∃i o cs,all[i]? = some o∧isFloat o.op=true∧HH (i+1)=(HH i).new (.cells cs)∧t<=i∧D i=true∧h=(HH i).n
 inj:∀h h' l l',pm h=some l->pm h'=some l'->l.b=l'.b->h=h'
variable {D:Nat->Bool} {a:Act} {w:World} {t:Nat} {ρ pm ρb:dH}
theorem vD.low (E:uN P tb w0 ih all n S HH gg) (I:vD w0 ρb n all (S 0) HH gg D a w t ρ pm) {h:Nat} {l:JY} (d:pm h=some l):(HH t).n<=h:=by
 obtain⟨i,o,e,b,_,_,c,_,rfl⟩:=I.only h l d;exact E.mono' c (Nat.le_of_lt (bB b))
theorem vD.adopt (E:uN P tb w0 ih all n S HH gg) (I:vD w0 ρb n all (S 0) HH gg D a w t ρ pm) {o:Oper} (Y:all[t]? = some o) (hl:nF o.op=false) (hf:isFloat o.op=true->D t=true):
  ∃c b,vD w0 ρb n all (S 0) HH gg D a w (t+1) c b∧EV c b=EV ρ pm:=by
 have ht:=bB Y;have G:∀j o,all[j]? = some o->nF o.op=true->(D j=true↔j<t+1):=λj oj N Q=>by
  have q:j≠t:=λe=>by subst e;rw[Y]at N;cases N;rw[hl]at Q;cases Q
  rw[I.lou j oj N Q];omega
 have C:∀j o,all[j]? = some o->isFloat o.op=true->j<t+1->D j=true:=λj oj N ab ah=>by
  by_cases e:j=t
  ·subst e;rw[Y]at N;cases N;exact hf ab
  ·exact I.flo j oj N ab (by omega)
 -- nothing is taken up
 have H:HH (t+1)=HH t->∃c b,vD w0 ρb n all (S 0) HH gg D a w (t+1) c b∧EV c b=EV ρ pm:=λe=>
  ⟨ρ,pm,⟨ht,G,C,by rw[e];exact I.rel,I.up,I.defers,I.size,I.slot,λi W B f r y h4 K=>by rw[e];exact I.pend i W B f r y (by omega) K,λh l hp=>by
   obtain⟨i,W,B,f,r,y,h4,K,h6⟩:=I.only h l hp;refine⟨i,W,B,f,r,y,?_,K,h6⟩
   by_cases e':i=t
   ·subst e';rw[e]at y;exact(Vq y).elim
   ·omega,I.inj⟩,rfl⟩
 cases z:isFloat o.op with
 |false=>exact H (E.quiet Y (by simpa [nF,z]using hl))
 | true =>
  rcases E.floats Y z with e|⟨B,e⟩
  ·exact H e
  obtain⟨l,hp,U,M,hx,ad,ag⟩:=I.pend t o B Y z e (Nat.le_refl _) (hf z);have m:ρ (HH t).n=none:=I.rel.fresh _ (Nat.le_refl _);let c:=ρ.upd (HH t).n l;let b:dH:=λh=>if h=(HH t).n then none else pm h;have k:c (HH t).n=some l:=by simp[c,dH.upd]
  have u:∀h,h≠(HH t).n->c h=ρ h:=λh hh=>by simp[c,dH.upd,hh]
  have O:EV c b=EV ρ pm:=by
   funext h;by_cases d:h=(HH t).n
   ·subst d;rw[vO k,vN m,hp]
   ·unfold EV;rw[u h d];simp[b,d]
  have hn:(HH (t+1)).n=(HH t).n+1:=by rw[e];rfl
  -- what the object holds is older
  have aa:∀{g:GV} {v v0:Value} {x:dH},(∀h l,x h=some l->h<(HH (t+1)).n)->Rl (EV ρ pm) g v->Rl x g v0->Rl c g v:=λ{g v v0 x} hlow f h0=>by
   refine TN (λh l0 l1 e0 X=> ?_) f h0;have ah:=hlow h l0 e0;by_cases d:h=(HH t).n
   ·subst d;rw[vN m,hp]at X;rw[k];exact X
   ·rw[u h d];cases hr:ρ h with
    |some l2=>rw[vO hr]at X;exact X
    |none=>
     rw[vN hr]at X;have:=I.low E X;omega
  obtain⟨x,a0,wg,R0,F0⟩:=E.ghost (t+1) ht;have R:∀h l,x h=some l->h<(HH (t+1)).n:=λh l hl=>by
   rcases Nat.lt_or_ge h (HH (t+1)).n with J|J
   ·exact J
   ·rw[R0.fresh h J]at hl;cases hl
  have L:(HH (t+1)).get (HH t).n=some (.cells B):=by rw[e,qD,if_pos Z]
  obtain⟨l0,_,_,ac⟩:=R0.live _ _ L;obtain⟨ai,T0,q1,q2,q3,q4⟩:=ac;have V:wF c w l (.cells B):=by
   obtain⟨ae,T,p1,p2,p3,p4⟩:=ad;refine⟨ae,T,p1,p2,p3,λi g F=> ?_⟩
   obtain⟨v,r1,r2,r3⟩:=p4 i g F;obtain⟨v0,_,s2,_⟩:=q4 i g F;exact⟨v,r1,aa R r2 s2,r3⟩
  obtain⟨af,R'⟩:=I.rel.new (o:= .cells B) (l:=l) I.rel.ext (λh o' l' F p=>⟨rfl,λeb=>M ⟨h,o',l',F,p,eb⟩⟩) U V hx ag;rw[<-e]at R';refine⟨c,b,⟨ht,G,C,R',dH.le_trans I.up af,I.defers,I.size,λs g hs=>by rw[O];exact I.slot s g hs,λi W ci f r y h4 K=> ?_,λh l1 A=> ?_,λh J l1 l2 f r hb=> ?_⟩,O⟩
  ·obtain⟨li,a1,a2,a3,a4,a5,a6⟩:=I.pend i W ci f r y (by omega) K;have q:(HH i).n≠(HH t).n:=λd=>by
    have:=E.apart (bB f) ht y e d;omega
   refine⟨li,by simp[b,q,a1],a2,?_,a4,by rw[O];exact a5,a6⟩
   rintro⟨h,o',l',F,p,eb⟩;rw[e,qD]at F;by_cases d:h=(HH t).n
   ·subst d;rw[k]at p;cases p;exact q (I.inj _ _ _ _ a1 hp eb.symm)
   ·rw[if_neg d]at F;rw[u h d]at p;exact a3 ⟨h,o',l',F,p,eb⟩
  ·have q:h≠(HH t).n:=λd=>by subst d;simp[b]at A
   have A:pm h=some l1:=by simpa [b,q]using A
   obtain⟨i,W,ci,f,r,y,h4,K,h6⟩:=I.only h l1 A;refine⟨i,W,ci,f,r,y,?_,K,h6⟩
   by_cases e':i=t
   ·subst e';exact absurd h6 q
   ·omega
  ·have f:pm h=some l1:=by
    by_cases d:h=(HH t).n
    ·simp[b,d]at f
    ·simpa [b,d]using f
   have r:pm J=some l2:=by
    by_cases d:J=(HH t).n
    ·simp[b,d]at r
    ·simpa [b,d]using r
   exact I.inj h J l1 l2 f r hb
theorem vD.adoptTo (E:uN P tb w0 ih all n S HH gg):∀(d t k:Nat) (ρ pm:dH),vD w0 ρb n all (S 0) HH gg D a w t ρ pm->t+d=k->k<=all.length->(∀j o,t<=j->j<k->all[j]? = some o->nF o.op=false∧(isFloat o.op=true->D j=true))->
  ∃c b,vD w0 ρb n all (S 0) HH gg D a w k c b∧EV c b=EV ρ pm
 |0,t,k,ρ,pm,I,hd,hk,_=>by
  have:t=k:=by omega
  subst this;exact⟨ρ,pm,I,rfl⟩
 |d+1,t,k,ρ,pm,I,hd,hk,h=>by
  have p:all[t]? = some all[t]:=List.getElem?_eq_getElem (by omega);obtain⟨m,e⟩:=h t _ (Nat.le_refl _) (by omega) p;obtain⟨i,f,q,s⟩:=I.adopt E p m e;obtain⟨l,g,r,u⟩:=vD.adoptTo E d (t+1) k i f q (by omega) hk (λj o m e=>h j o (by omega) e);exact⟨l,g,r,by rw[u,s]⟩
def Cl (all:List Oper) (D:Nat->Bool):Prop:=∀j k,D j=true->before (oZ all) j k=true->k<all.length->D k=true
structure OJ (all:List Oper) (D:Nat->Bool) (k:Nat) (o:Oper):Prop where
 get:all[k]? = some o
 undone:D k=false
 past:∀j,before (oZ all) k j=true->j<all.length->D j=true
theorem OJ.behind (C:Tp tb all (oZ all)) (c:Cl all D) {k:Nat} {o:Oper} (e:OJ all D k o) {j:Nat} {b:Oper} (h:all[j]? = some b) (g:D j=true) (d:k<j):o.apart all.toArray b=true∧Hp tb o.op b.op=true:=by
 cases f:before (oZ all) j k with
 |false=>exact C.ind j k b o h e.get d f
 |true=>
  have:=c j k g f (bB e.get);rw[e.undone]at this;cases this
theorem OJ.ahead (C:Tp tb all (oZ all)) {k:Nat} {o:Oper} (f:OJ all D k o) {j:Nat} {b:Oper} (e:all[j]? = some b) (c:j<k):D j=true∨b.apart all.toArray o=true∧Hp tb b.op o.op=true:=by
 cases d:before (oZ all) k j with
 |true=>exact .inl (f.past j d (bB e))
 |false=>exact .inr (C.ind k j o b f.get e c d)
theorem OJ.look (E:uN P tb w0 ih all n S HH gg) (q:Cl all D) {k:Nat} {o:Oper} (p:OJ all D k o) {s:Nat} {g:GV} (u:s∈o.looksAt all.toArray) (y:DT (S k) s=some g):SlD all (S 0) gg D s g:=by
 have b:∀j c,D j=true->all[j]? = some c->c.dst=some s->j<k:=λj c d f e=>by
  rcases Nat.lt_trichotomy j k with h|h|h
  ·exact h
  ·subst h;rw[p.undone]at d;cases d
  ·obtain⟨l,_⟩:=p.behind E.chk q f d h;exact absurd u ((Oper.apart_spec l).2.2 s e)
 rcases Jw E.trc k (Nat.le_of_lt (bB p.get)) y with⟨i,z,l,m,r,v,x⟩|⟨l,m⟩
 ·refine .inl ⟨i,z,?_,m,r,v,λj c d f e=> ?_⟩
  ·rcases p.ahead E.chk m l with h|⟨h,_⟩
   ·exact h
   ·exact absurd u ((Oper.apart_spec h).1 s r)
  ·have:=b j c d f e;rcases Nat.lt_or_ge i j with h|h
   ·exact absurd e (x j c h this f)
   ·exact h
 ·exact .inr ⟨λj c d f e=>l j c (b j c d f e) f e,m⟩
theorem OJ.slot (C:Tp tb all (oZ all)) (F:Cl all D) {K:GF} {k:Nat} {o:Oper} (y:OJ all D k o) (x:∀d,o.dst=some d->d<n) (I:a.tmps.size=n) {z u:dH} (G:z.le u) (q:∀s g,SlD all K gg D s g->Rl z g (a.eval (.tmp s))) {v:Value} (Q:Rl u (gg k) v):
  ∀s g,SlD all K gg (ins D k) s g->Rl u g ((a.put o.dst v).eval (.tmp s)):=λs g L=>by
 have c:∀j r,D j=true->all[j]? = some r->o.dst=some s->r.dst=some s->j<k:=λj r m O f p=>by
  rcases Nat.lt_trichotomy j k with h|h|h
  ·exact h
  ·subst h;rw[y.undone]at m;cases m
  ·obtain⟨b,_⟩:=y.behind C F O m h;exact absurd p ((Oper.apart_spec b).2.1 s f)
 by_cases f:o.dst=some s
 ·have N:gg k=g:=by
   rcases L with⟨i,J,b,l,A,B,E⟩|⟨b,_⟩
   ·have R:=E k o (zU D k) y.get f;by_cases e:i=k
    ·subst e;exact B
    ·rw[yL e]at b;have:=c i J b l f A;omega
   ·exact absurd f (b k o (zU D k) y.get)
  rw[f,<-N];have H:=x s f;have:(a.put (some s) v).eval (.tmp s)=v:=by simp[Act.put,Act.eval,I,H]
  rw[this];exact Q
 ·have M:(a.put o.dst v).eval (.tmp s)=a.eval (.tmp s):=Act.eval_put λd p e=>by cases e;exact f p
  rw[M];refine(q s g ?_).le G;rcases L with⟨i,J,b,l,A,B,E⟩|⟨b,l⟩
  ·have e:i≠k:=λe=>by subst e;rw[y.get]at l;cases l;exact f A
   rw[yL e]at b;exact .inl ⟨i,J,b,l,A,B,λj r m=>E j r (zT m)⟩
  ·exact .inr ⟨λj r m=>b j r (zT m),l⟩
theorem DF (a:Act) (d:Option Tmp) (v:Value):(a.put d v).defers=a.defers∧(a.put d v).tmps.size=a.tmps.size:=by
 cases d with
 |none=>exact⟨rfl,rfl⟩
 |some d=>exact⟨rfl,by simp[Act.put]⟩
theorem vD.plain (E:uN P tb w0 ih all n S HH gg) (u:Cl all D) (I:vD w0 ρb n all (S 0) HH gg D a w t ρ pm) {k:Nat} {o:Oper} (q:OJ all D k o) (F:nF o.op=false) (C:isFloat o.op=true->HH (k+1)=HH k) {v:Value} (H:Rl (EV ρ pm) (gg k) v):
  vD w0 ρb n all (S 0) HH gg (ins D k) (a.put o.dst v) w t ρ pm:=by
 obtain⟨_,f,_⟩:=sQ (E.op q.get);obtain⟨J,K⟩:=DF a o.dst v;refine⟨I.tm,λj A g b=> ?_,λj A g x y=>zT (I.flo j A g x y),I.rel,I.up,by rw[J];exact I.defers,by rw[K];exact I.size,q.slot E.chk u f I.size (dH.le_refl _) I.slot H,λi z r c m d s p=> ?_,λh l G=> ?_,I.inj⟩
 ·have e:j≠k:=λe=>by subst e;rw[q.get]at g;cases g;rw[F]at b;cases b
  rw[yL e];exact I.lou j A g b
 ·have e:i≠k:=λe=>by
   subst e;rw[q.get]at c;cases c;rw[C m]at d;exact Vq d
  rw[yL e]at p;exact I.pend i z r c m d s p
 ·obtain⟨i,z,r,c,m,d,s,p,B⟩:=I.only h l G;exact⟨i,z,r,c,m,d,s,zT p,B⟩
def Lb (all:List Oper) (D:Nat->Bool) (t:Nat):Prop:=t=0∨∃o,all[t - 1]? = some o∧nF o.op=true∧D (t - 1)=true
theorem Lb.ins {k:Nat} (h:Lb all D t):Lb all (ins D k) t:=by
 rcases h with h|⟨o,b,c,d⟩
 ·exact .inl h
 ·exact .inr ⟨o,b,c,zT d⟩
theorem DD {o:Op} (h:pureOp tb o=true):eB o=false:=by
 unfold pureOp at h;split at h<;>first|rfl|cases h
theorem Ey {o:Op} (h:isFloat o=true):eB o=true:=by
 unfold isFloat at h;split at h<;>first|rfl|cases h
theorem Ez {o:Op} (h:isFloat o=true):pureOp tb o=false:=by
 cases b:pureOp tb o with
 |false=>rfl
 |true=>have:=DD b;rw[Ey h]at this;cases this
theorem vD.reach (E:uN P tb w0 ih all n S HH gg) (u:Cl all D) (I:vD w0 ρb n all (S 0) HH gg D a w t ρ pm) (i:Lb all D t) {k:Nat} {o:Oper} (r:OJ all D k o) (z:pureOp tb o.op=false) (B:isFloat o.op=false) (m:mJ o.op=false):
  ∃q p,vD w0 ρb n all (S 0) HH gg D a w k q p∧EV q p=EV ρ pm:=by
 have F:=bB r.get;have C:t<=k:=by
  rcases i with h|⟨d,x,f,s⟩
  ·omega
  ·rcases Nat.lt_or_ge (t - 1) k with h|h
   ·omega
   ·exfalso;by_cases e:t - 1=k
    ·rw[e,r.undone]at s;cases s
    ·obtain⟨_,A⟩:=r.behind E.chk u x s (by omega);simp only[nF,Bool.and_eq_true,Bool.not_eq_true']at f;have:pureOp tb d.op=false:=by
      cases v:pureOp tb d.op with
      |false=>rfl
      |true=>have:=DD v;rw[f.1]at this;cases this
     have c:mJ d.op=false:=by
      cases v:mJ d.op with
      |false=>rfl
      |true=>rw[w_ v]at f;cases f.1
     simp[Hp,z,this,f.1,f.2,m,c]at A
 refine I.adoptTo E (k - t) t k ρ pm (by omega) (by omega) λj d x f y=> ?_;have g:D j=true∨eB d.op=false∨pureOp tb d.op=true:=by
  rcases r.ahead E.chk y f with h|⟨_,h⟩
  ·exact .inl h
  ·simp only[Hp,z,B,m,Bool.or_false,Bool.and_false,Bool.or_eq_true,Bool.and_eq_true,Bool.not_eq_true']at h;rcases h with(h|h)|h
   ·exact .inr (.inr h)
   ·exact .inr (.inl h.1)
   ·exact .inr (.inl (w_ h.1))
 refine⟨?_,λl=> ?_⟩
 ·cases c:nF d.op with
  |false=>rfl
  |true=>
   exfalso;have b:=c;simp only[nF,Bool.and_eq_true,Bool.not_eq_true']at b;rcases g with h|h|h
   ·have:=(I.lou j d y c).1 h;omega
   ·rw[b.1]at h;cases h
   ·have:=DD h;rw[b.1]at this;cases this
 ·rcases g with h|h|h
  ·exact h
  ·rw[Ey l]at h;cases h
  ·rw[Ez l]at h;cases h
theorem vD.frame (E:uN P tb w0 ih all n S HH gg) (c:Cl all D) (I:vD w0 ρb n all (S 0) HH gg D a w t ρ pm) {k:Nat} {o:Oper} (e:OJ all D k o):kX (EV ρ pm) n (Cm (S k) (o.looksAt all.toArray)) a:=
 ⟨I.defers,I.size,λs g b=>by
  rw[Bd]at b;by_cases d:s∈o.looksAt all.toArray
  ·rw[if_pos d]at b;exact I.slot s g (e.look E c d b)
  ·rw[if_neg d]at b;cases b⟩
theorem vD.frame' (E:uN P tb w0 ih all n S HH gg) (e:Cl all D) {k:Nat} (I:vD w0 ρb n all (S 0) HH gg D a w k ρ pm) {o:Oper} (i:OJ all D k o):kX ρ n (Cm (S k) (o.looksAt all.toArray)) a:=by
 have F:=I.frame E e i;obtain⟨u,v,z,p,m⟩:=E.ghost k (Nat.le_of_lt (bB i.get));refine⟨F.defers,F.size,λs g b=> ?_⟩
 have q:=F.slot s g b;rw[Bd]at b;by_cases j:s∈o.looksAt all.toArray
 ·rw[if_pos j]at b;refine TN (λh x l f d=> ?_) q (m.slot s g b);cases c:ρ h with
  |some y=>rw[vO c]at d;exact d
  |none=>
   rw[vN c]at d;have r:=I.low E d;rw[p.fresh h r]at f;cases f
 ·rw[if_neg j]at b;cases b
theorem uN.st (E:uN P tb w0 ih all n S HH gg) {k:Nat} {o:Oper} (b:all[k]? = some o):DR tb ih all o (Cm (S k) (o.looksAt all.toArray)) (HH k)=some (gg k,HH (k+1)):=by
 rw[<-E.trc.st k o b];exact Pk λs c=>by rw[Bd,if_pos c]
theorem vD.loads (E:uN P tb w0 ih all n S HH gg) (L:Cl all D) (I:vD w0 ρb n all (S 0) HH gg D a w t ρ pm) (s:Lb all D t) {k:Nat} {o:Oper} (u:OJ all D k o) (f:mJ o.op=true) {h:Nat} {W:GO} (hh:Yo (S k) o.op=some h) (i:(HH k).get h=some W):
  ∃p H G,vD w0 ρb n all (S 0) HH gg D a w p H G∧EV H G=EV ρ pm∧(HH p).get h=some W:=by
 have hk:=bB u.get;have hq:=w_ f;have R:pureOp tb o.op=false:=by cases N:o.op<;>rw[N]at f<;>first|rfl|cases f
 have M:isFloat o.op=false:=by cases N:o.op<;>rw[N]at f<;>first|rfl|cases f
 obtain⟨v,V⟩:∃v,(HH k).ver h=some v:=by
  obtain⟨p,hp,_⟩:=aB.1 (show Gx.ob ((HH k).t.get h) _=some W from i);exact⟨p.1,by unfold GH.ver;rw[hp];rfl⟩
 obtain⟨v1,v2⟩:=E.vrs k o h v u.get f hh V;rcases Nat.lt_or_ge k t with C|C
 ·
  rcases s with e|⟨c,x,z,K⟩
  ·omega
  have b:=z;simp only[nF,Bool.and_eq_true]at b;have q:before (oZ all) (t - 1) k=false:=by
   cases q:before (oZ all) (t - 1) k with
   |false=>rfl
   |true=>have:=L _ _ K q hk;rw[u.undone]at this;cases this
  have aa:t - 1≠k:=λe=>by rw[e,u.undone]at K;cases K
  have:=v2 (t - 1) c (by omega) x b.1 q;rw[show t - 1+1=t by omega]at this;exact⟨t,ρ,pm,I,rfl,by rw[<-E.same (Nat.le_of_lt C) I.tm V this];exact i⟩
 ·
  have first:∀d g,g+d=k->t<=g->(∀j c,t<=j->j<g->all[j]? = some c->nF c.op=false)->∃p,t<=p∧p<=k∧(∀j c,t<=j->j<p->all[j]? = some c->nF c.op=false)∧(p=k∨∃F,all[p]? = some F∧nF F.op=true):=by
   intro d
   induction d with
   |zero=>exact λg e U h=>⟨g,U,by omega,h,.inl (by omega)⟩
   | succ d ihd =>
    intro g e U h;have m:all[g]? = some all[g]:=List.getElem?_eq_getElem (by omega);cases hl:nF all[g].op with
    |true=>exact⟨g,U,by omega,h,.inr ⟨_,m,hl⟩⟩
    |false=>
     refine ihd (g+1) (by omega) (by omega) λj c x z y=> ?_;by_cases e:j=g
     ·subst e;rw[m]at y;cases y;exact hl
     ·exact h j c x (by omega) y
  obtain⟨p,ab,ac,O,Q⟩:=first (k - t) t (by omega) (Nat.le_refl _) (λj c x z=>by omega)
  obtain⟨Y,X,I1,e1⟩:=I.adoptTo E (p - t) t p ρ pm (by omega) (by omega) λj c x z y=>by
   refine⟨O j c x z y,λr=> ?_⟩
   rcases u.ahead E.chk y (by omega)with h|⟨_,h⟩
   ·exact h
   ·have a1:=Ez (tb:=tb) r;have J:=Ey r;have a3:mJ c.op=false:=by
     cases T:mJ c.op with
     |false=>rfl
     |true=>rw[w_ T]at J;cases J
    have a4:nF c.op=false:=by simp[nF,r]
    simp[Hp,a1,J,a3,a4,R,M]at h
  refine⟨p,Y,X,I1,e1,?_⟩
  rcases Q with e|⟨F,l,A⟩
  ·rw[e];exact i
  ·have b:=A;simp only[nF,Bool.and_eq_true]at b;have B:p<k:=by
    rcases Nat.lt_or_ge p k with h|h
    ·exact h
    ·have:p=k:=by omega
     subst this;rw[u.get]at l;cases l;rw[hq]at b;cases b.1
   have q:before (oZ all) k p=false:=by
    cases q:before (oZ all) k p with
    |false=>rfl
    |true=>have:=u.past p q (by omega);rw[I.lou p F l A]at this;omega
   rw[E.same (Nat.le_of_lt B) (Nat.le_of_lt hk) (v1 p F B l b.1 q) V];exact i
theorem vD.step (E:uN P tb w0 ih all n S HH gg) (z:Cl all D) (I:vD w0 ρb n all (S 0) HH gg D a w t ρ pm) (m:Lb all D t) {k:Nat} {o:Oper} (A:OJ all D k o) {Q:Exit->Act->World->Prop} {K:Act->World->Prop}
  (hK:∀a' w' t' aY O,vD w0 ρb n all (S 0) HH gg (ins D k) a' w' t' aY O->Lb all (ins D k) t'->K a' w'):Sx.wpOp P all.toArray Q k K a w:=by
 have hk:=bB A.get;obtain⟨_,ai,aS⟩:=sQ (E.op A.get);have am:=E.st A.get;unfold Sx.wpOp;simp only[List.getElem?_toArray,A.get];cases hp:pureOp tb o.op with
 | true =>
  have Y:nF o.op=false:=by simp[nF,DD hp]
  have aF:isFloat o.op=false:=by
   cases hf:isFloat o.op with
   |false=>rfl
   |true=>rw[Ez hf]at hp;cases hp
  have F:=I.frame E z A;rcases Du F am with⟨N,C⟩|⟨N,C,hH⟩
  ·rw[if_pos N];have aG:Jf o.op=true:=by
    rcases aS with h|⟨c,f,y,G⟩
    ·exact h
    ·obtain⟨a8,xs,ts⟩:=c;simp only at G;rw[y,G]at hp;cases hp
   obtain⟨_,v,hv,u⟩:=UW (P:=P) E.tab F hp aG C;left;simp only[Oper.wp,u w,Oper.upon];exact hK _ _ t ρ pm (I.plain E z A Y (λh=>by rw[aF]at h;cases h) hv) m.ins
  ·rw[if_neg (by rw[N];simp)];exact hK _ _ t ρ pm (I.plain E z A Y (λh=>by rw[aF]at h;cases h) (by rw[C];exact .un)) m.ins
 | false =>
  cases hf:isFloat o.op with
  | true =>
   have Y:nF o.op=false:=by simp[nF,hf]
   have F:=I.frame E z A;rcases Kq (P:=P) E.tab hf F am with⟨N,C,hH⟩|⟨N,cs,a',T',hH,hC,a0,u⟩
   ·rw[if_neg (by rw[N];simp)];exact hK _ _ t ρ pm (I.plain E z A Y (λ_=>hH) (by rw[C];exact .un)) m.ins
   ·rw[if_pos N];obtain⟨V,hV,aI⟩:=u w;left;simp only[Oper.wp,hV,Oper.upon];have aJ:t<=k:=by
     rcases Nat.lt_or_ge k t with h|h
     ·have:=I.flo k o A.get hf h;rw[A.undone]at this;cases this
     ·exact h
    let l:JY:=⟨w.heap.size,0,a'.size,.cells a' T',.cells cs⟩
    have e:KW w (w.alloc (.cells a' T')):=(Below.refl _ _).alloc (Nat.le_refl _) _;have aX:ρ (HH k).n=none:=I.rel.fresh _ (E.mono' aJ (by omega));have aT:pm (HH k).n=none:=by
     cases U:pm (HH k).n with
     |none=>rfl
     |some W=>
      obtain⟨i,L,R,y,G,h3,h4,h5,h6⟩:=I.only _ _ U;have:=E.apart (bB y) hk h3 hH h6.symm;subst this;rw[A.undone]at h5;cases h5
    let O:=pm.upd (HH k).n l;have M:O (HH k).n=some l:=by simp[O,dH.upd]
    have J:∀h,h≠(HH k).n->O h=pm h:=λh hh=>by simp[O,dH.upd,hh]
    have ad:(EV ρ pm).le (EV ρ O):=λh W y=>by
     cases H:ρ h with
     |some l2=>rw[vO H]at y;rw[vO H];exact y
     |none=>
      rw[vN H]at y;rw[vN H,J h (λeh=>by subst eh;rw[aT]at y;cases y)];exact y
    have aP:EV ρ O (HH k).n=some l:=by rw[vN aX,M]
    obtain⟨p1,p2⟩:=DF a o.dst V;have az:∀h W,pm h=some W->W.b<w.heap.size:=λh W y=>by
     obtain⟨i,L,R,q1,q2,q3,q4,q5,rfl⟩:=I.only _ _ y;obtain⟨l2,r1,_,_,r4,_⟩:=I.pend i L R q1 q2 q3 q4 q5;rw[y]at r1;cases r1;exact(Array.getElem?_eq_some_iff.1 r4).1
    refine hK _ _ t ρ O ⟨I.tm,λj oj hj ak=> ?_,λj oj hj ao aE=>zT (I.flo j oj hj ao aE),I.rel.ext' e,I.up,by rw[p1];exact I.defers,by rw[p2];exact I.size,A.slot E.chk z ai I.size ad I.slot (aI _ aP),λi L R y G h3 h4 h5=> ?_,λh W ar=> ?_,λh h' W l2 y G hb=> ?_⟩ m.ins
    ·have e:j≠k:=λe=>by subst e;rw[A.get]at hj;cases hj;rw[Y]at ak;cases ak
     rw[yL e];exact I.lou j oj hj ak
    ·by_cases ei:i=k
     ·subst ei;rw[hH]at h3;have:=SS h3;subst this;refine⟨l,M,.inl I.rel.ext.size,?_,heap_alloc_new w _,⟨a',T',heap_alloc_new w _,rfl,by show 0+cs.length<=a'.size;omega,λj g C=> ?_⟩,rfl⟩
      ·rintro⟨h,o',l',C,ax,eb⟩;obtain⟨l2,r1,_,r3⟩:=I.rel.live h o' C;rw[ax]at r1;cases r1;have:=r3.lt;rw[eb]at this;exact absurd this (Nat.lt_irrefl _)
      ·obtain⟨x,hx,aU⟩:=hC.r.get C;rw[Array.getElem?_toList]at hx;exact⟨x,by show a'[0+j]? = some x;simpa using hx,aU.le ad,Lw hC.one hx⟩
     ·rw[yL ei]at h5;obtain⟨W,a1,a2,a3,a4,a5,a6⟩:=I.pend i L R y G h3 h4 h5;have aR:(HH i).n≠(HH k).n:=λeh=>ei (E.apart (bB y) hk h3 hH eh);have hb:=az _ _ a1;exact⟨W,by rw[J _ aR];exact a1,a2,a3,by rw[e.block _ hb];exact a4,a5.move ad (e.block _ hb),a6⟩
    ·by_cases eh:h=(HH k).n
     ·exact⟨k,o,cs,A.get,hf,hH,aJ,zU D k,eh⟩
     ·rw[J h eh]at ar;obtain⟨i,L,R,q1,q2,q3,q4,q5,q6⟩:=I.only h W ar;exact⟨i,L,R,q1,q2,q3,q4,zT q5,q6⟩
    ·by_cases eh:h=(HH k).n
     ·by_cases ah:h'=(HH k).n
      ·rw[eh,ah]
      ·rw[J h' ah]at G;subst eh;rw[M]at y;cases y;have:=az _ _ G;rw[<-hb]at this;exact absurd this (Nat.lt_irrefl _)
     ·rw[J h eh]at y;by_cases ah:h'=(HH k).n
      ·subst ah;rw[M]at G;cases G;have:=az _ _ y;rw[hb]at this;exact absurd this (Nat.lt_irrefl _)
      ·rw[J h' ah]at G;exact I.inj h h' W l2 y G hb
  | false =>
   cases aj:mJ o.op with
   | true =>
    have Y:nF o.op=false:=by simp[nF,w_ aj]
    have F0:=I.frame E z A;rcases Du F0 am with⟨N,C⟩|⟨N,C,hH⟩
    ·rw[if_pos N];have aH:∃T x,o.op = .load T x:=by
      cases ho:o.op<;>rw[ho]at aj<;>first|exact⟨_,_,rfl⟩|cases aj
     obtain⟨T,x,al⟩:=aH;rw[al]at C;obtain⟨va,aL,C⟩:=aB.1 (show ob (kG (Cm (S k) (o.looksAt all.toArray)) x) _=some (gg k,HH (k+1))from C);obtain⟨g',av,aQ⟩:=aB.1 C;have eg:g'=gg k:=by
      have:=congrArg (λo=>o.map Prod.fst) (show some (g',HH k)=some (gg k,HH (k+1))from aQ);simpa using this
     rw[eg]at av;obtain⟨q,U,hc⟩:=aB.1 (show ob va.asP _=some (gg k)from av);obtain⟨cs,aO,hc⟩:=aB.1 hc;have aA:=h_.1 aO;have aW:∀s,x = .tmp s->s∈o.looksAt all.toArray:=λs e=>List.mem_append_left _ (List.mem_filterMap.2 ⟨.tmp s,by rw[al,e];simp[Op.operands],rfl⟩);have aM:kG (S k) x=some va:=by
      rw[<-aL];cases x with
      |tmp s=>
       show DT (S k) s=DT (Cm (S k) (o.looksAt all.toArray)) s;rw[Bd,if_pos (aW s Z)]
      |_=>rfl
     have hh:Yo (S k) o.op=some q.1:=by
      rw[al];show ob (kG (S k) x) _=_;rw[aM];show ob va.asP _=_;rw[U];rfl
     obtain⟨p,ag,af,B,ap,aC⟩:=I.loads E z m A aj hh aA;have aK:=bY F0 aL;have aV:Rl ag va (a.eval x):=by
      rw[CG U]at aK ⊢;obtain⟨l,Y,e⟩:=aK.ptr_inv;obtain⟨W,aD,_⟩:=B.rel.live _ _ aC;rw[<-ap,vO aD]at Y;cases Y;rw[e];exact .ptr _ aD
     have ay:wM tb T va (HH p)=some (gg k):=by
      show ob va.asP _=_;rw[U];show ob ((HH p).cells q.1) _=_;rw[h_.2 aC];exact hc
     obtain⟨X,_,l,_,_,_,hX,u⟩:=Jy (P:=P) E.tab B.rel aV ay;left;have H:(execOp a.eval o).run P w = .ok (.value X) w:=by
      have:=u w Z;obtain⟨d,op,ty,a9,a7,gd⟩:=o;simp only at al;subst al;simp[execOp,this]
     simp only[Oper.wp,H,Oper.upon];exact hK _ _ t ρ pm (I.plain E z A Y (λh=>by rw[hf]at h;cases h) (by rw[<-ap];exact hX.le Fy)) m.ins
    ·rw[if_neg (by rw[N];simp)];exact hK _ _ t ρ pm (I.plain E z A Y (λh=>by rw[hf]at h;cases h) (by rw[C];exact .un)) m.ins
   |false=>
   obtain⟨ag,af,B,ap⟩:=I.reach E z m A hp hf aj;have F:=B.frame' E z A;cases ae:eB o.op with
   | false =>
    have Y:nF o.op=false:=by simp[nF,ae]
    have an:∀v,Rl ag (gg k) v->vD w0 ρb n all (S 0) HH gg (ins D k) (a.put o.dst v) w t ρ pm:=λv hv=>
     I.plain E z A Y (λh=>by rw[hf]at h;cases h) (by rw[<-ap];exact hv.le Fy)
    rcases HR E.tab (E.call w0) (E.op A.get) F B.rel am with⟨N,hs⟩|⟨N,C,hH⟩
    ·rw[if_pos N];left;rcases hs with⟨_,_,_,_,v,hv,u⟩|⟨_,_,_,v,_,_,_,_,_,hv,u⟩|⟨_,_,_,v,hv,u⟩|⟨U,_⟩
     ·simp only[Oper.wp,u w,Oper.upon];exact hK _ _ t ρ pm (an v hv) m.ins
     ·simp only[Oper.wp,u w Z,Oper.upon];exact hK _ _ t ρ pm (an v hv) m.ins
     ·simp only[Oper.wp,u,Oper.upon];exact hK _ _ t ρ pm (an v hv) m.ins
     ·rw[ae]at U;cases U
    ·rw[if_neg (by rw[N];simp)];exact hK _ _ t ρ pm (an undef (by rw[C];exact .un)) m.ins
   | true =>
    have Y:nF o.op=true:=by simp[nF,ae,hf]
    have aq:∀(i:Nat) (L:Oper) (R:List GV),all[i]? = some L->isFloat L.op=true->i≠k:=λi L R y G e=>by
     subst e;rw[A.get]at y;cases y;rw[hf]at G;cases G
    have aw:∀j o,all[j]? = some o->nF o.op=true->(ins D k j=true↔j<k+1):=λj oj hj ak=>by
     by_cases e:j=k
     ·subst e;simp[zU]
     ·rw[yL e,B.lou j oj hj ak];omega
    have au:∀j o,all[j]? = some o->isFloat o.op=true->j<k+1->ins D k j=true:=λj oj hj ao aE=>by
     have:=aq j oj [] hj ao;exact zT (B.flo j oj hj ao (by omega))
    have aa:∀h l,af h=some l->∃i o cs,all[i]? = some o∧isFloat o.op=true∧HH (i+1)=(HH i).new (.cells cs)∧k+1<=i∧ins D k i=true∧h=(HH i).n:=λh l ar=>by
     obtain⟨i,L,R,q1,q2,q3,q4,q5,q6⟩:=B.only h l ar;have:=aq i L R q1 q2;exact⟨i,L,R,q1,q2,q3,by omega,zT q5,q6⟩
    have ac:Lb all (ins D k) (k+1):= .inr ⟨o,by simpa using A.get,Y,by simp[zU]⟩;rcases HR E.tab (E.call B.rel.base) (E.op A.get) F B.rel.rebase am with⟨N,hs⟩|⟨N,C,hH⟩
    ·rw[if_pos N];left;rcases hs with⟨U,_⟩|⟨U,_⟩|⟨U,_⟩|⟨_,u⟩
     ·rw[ae]at U;cases U
     ·rw[ae]at U;cases U
     ·rw[ae]at U;cases U
     refine Jd (u _ λaN w2 v ad R2 hv=>hK _ _ (k+1) aN af ?_ ac);obtain⟨R3,ab⟩:=B.rel.back R2;have hj:(EV ag af).le (EV aN af):=λh l y=>by
      cases H:ag h with
      |some l2=>rw[vO H]at y;cases y;exact vO (ad _ _ H)
      |none=>
       rw[vN H]at y;obtain⟨i,L,R,q1,q2,q3,q4,q5,rfl⟩:=aa h l y;rw[vN (R2.fresh _ (E.mono' q4 (Nat.le_of_lt (bB q1))))];exact y
     obtain⟨p1,p2⟩:=DF a o.dst v;refine⟨hk,aw,au,R3,dH.le_trans B.up ad,by rw[p1];exact B.defers,by rw[p2];exact B.size,A.slot E.chk z ai B.size hj B.slot (hv.le Fy),λi L R y G h3 h4 h5=> ?_,aa,B.inj⟩
     rw[yL (aq i L R y G)]at h5;obtain⟨W,a1,a2,a3,a4,a5,a6⟩:=B.pend i L R y G h3 (by omega) h5;have hb:W.b<w.heap.size:=(Array.getElem?_eq_some_iff.1 a4).1;refine⟨W,a1,a2,?_,by rw[ab _ hb a3];exact a4,a5.move hj (ab _ hb a3),a6⟩
     rintro⟨h,o',l',C,ax,eb⟩;obtain⟨l2,r1,r2,_⟩:=R2.live h o' C;rw[ax]at r1;cases r1;rw[eb]at r2;rcases r2 with r2|r2
     ·have:w.heap.size<=W.b:=r2;omega
     ·exact a3 r2
    ·rw[if_neg (by rw[N];simp)];obtain⟨p1,p2⟩:=DF a o.dst undef;refine hK _ _ (k+1) ag af ⟨hk,aw,au,by rw[hH];exact B.rel,B.up,by rw[p1];exact B.defers,by rw[p2];exact B.size,A.slot E.chk z ai B.size (dH.le_refl _) B.slot (by rw[C];exact .un),λi L R y G h3 h4 h5=> ?_,aa,B.inj⟩ ac;rw[yL (aq i L R y G)]at h5;rw[hH];exact B.pend i L R y G h3 (by omega) h5
theorem vD.done (E:uN P tb w0 ih all n S HH gg) (I:vD w0 ρb n all (S 0) HH gg D a w t ρ pm) (b:∀i,i<all.length->D i=true):∃f,ρb.le f∧eX w0 f (HH all.length) w∧kX f n (S all.length) a:=by
 obtain⟨d,e,k,_⟩:=I.adoptTo E (all.length - t) t all.length ρ pm (by have:=I.tm;omega) (Nat.le_refl _) λj q m p c=>by
  refine⟨?_,λ_=>b j p⟩
  cases B:nF q.op with
  |false=>rfl
  |true=>have:=(I.lou j q c B).1 (b j p);omega
 refine⟨d,k.up,k.rel,k.defers,k.size,λs g A=> ?_⟩
 have r:∀h,e h=none:=λh=>by
  cases C:e h with
  |none=>rfl
  |some l=>
   obtain⟨i,H,G,m,_,_,u,_⟩:=k.only h l C;have:=bB m;omega
 have c:EV d e=d:=by
  funext h;unfold EV;rw[r];cases d h<;>rfl
 have F:SlD all (S 0) gg D s g:=by
  rcases Jw E.trc all.length (Nat.le_refl _) A with⟨i,o,m,p,v,u,x⟩|⟨m,p⟩
  ·refine .inl ⟨i,o,b i m,p,v,u,λj q y c z=> ?_⟩;rcases Nat.lt_or_ge i j with h|h
   ·exact absurd z (x j q h (bB c) c)
   ·exact h
  ·exact .inr ⟨λj q y c=>m j q (bB c) c,p⟩
 have:=k.slot s g F;rwa[c]at this
theorem SG (E:uN P tb w0 ih all n S HH gg) {Q:Exit->Act->World->Prop} (hQ:∀c K M,ρb.le c->eX w0 c (HH all.length) M->kX c n (S all.length) K->Q .normal K M):
  ∀(d:Nat) (L:List Nat) (b:Array Bool) (a:Act) (w:World) (t:Nat) (ρ pm:dH),L.length<=d->b.size=all.length->(∀i,i<all.length->b.getD i false=false->i∈L)->Cl all (λj=>b.getD j false)->
  vD w0 ρb n all (S 0) HH gg (λj=>b.getD j false) a w t ρ pm->Lb all (λj=>b.getD j false) t->Sx.wpAny P .any all.toArray Q d b a w:=by
 intro d
 induction d with
 | zero =>
  intro L b a w t ρ pm G J g m I h;have hL:L=[]:=List.eq_nil_of_length_eq_zero (by omega);subst hL;have f:∀i,i<all.length->b.getD i false=true:=λi r=>by
   cases u:b.getD i false with
   |true=>rfl
   |false=>have:=g i r u;simp at this
  refine⟨?_,?_⟩
  ·rw[List.eq_nil_iff_forall_not_mem];intro i r;obtain⟨l,o,s,_⟩:=mem_ready.1 r;have W:i<all.length:=by have:=(Array.getElem?_eq_some_iff.1 s).1;simpa using this
   have:=f i W;have hs:i<b.size:=by omega
   simp[hs]at this l;rw[l]at this;cases this
  ·obtain⟨c,l,N,O⟩:=I.done E f;exact hQ c a w l N O
 | succ d ihf =>
  intro L b a w t ρ pm G J g m I h;refine⟨λY=> ?_,λk hk=> ?_⟩
  ·have f:∀i,i<all.length->b.getD i false=true:=by
    intro i
    induction i using Nat.strongRecOn with
    | ind i ihi =>
     intro r;cases u:b.getD i false with
     |true=>rfl
     | false =>
      exfalso;have s:all[i]? = some all[i]:=List.getElem?_eq_getElem r;have H:i∈Region.ready .any all.toArray b:=by
       refine mem_ready.2 ⟨?_,all[i],by simp,λe R v=> ?_⟩
       ·have hs:i<b.size:=by omega
        simp[hs]at u ⊢;exact u
       ·have U:e.on∈sU all[i]:=List.mem_map.2 ⟨e,List.mem_filter.2 ⟨by simpa using R,v⟩,rfl⟩;have:=(E.chk.edge i _ s e.on U).1;exact ihi e.on this (by omega)
      rw[Y]at H;simp at H
   obtain⟨c,l,N,O⟩:=I.done E f;exact hQ c a w l N O
  ·obtain⟨l,o,X,q⟩:=mem_ready.1 hk;have s:all[k]? = some o:=by simpa using X
   have V:k<all.length:=bB s;have F:k<b.size:=by omega
   have x:b.getD k false=false:=by simp[F]at l ⊢;exact l
   have hr:OJ all (λj=>b.getD j false) k o:=by
    refine⟨s,x,λj v B=> ?_⟩
    obtain⟨_,e,R,hej⟩:=E.chk.trans k o s j v B;obtain⟨ed,T,rfl⟩:=List.mem_map.1 R;obtain⟨z,A⟩:=List.mem_filter.1 T;have hl:=q ed (by simpa using z) A;rcases hej with rfl|hej
    ·exact hl
    ·exact m _ _ hl hej B
   have y:(λj=>(b.setIfInBounds k true).getD j false)=ins (λj=>b.getD j false) k:=by
    funext j;by_cases e:j=k
    ·subst e;rw[zU];simp[F]
    ·rw[yL e];exact getD_set_ne false (Ne.symm e)
   refine I.step E m h hr λK M t' c aa I' p=> ?_;refine ihf (L.erase k) _ K M t' c aa ?_ (by simp[J]) (λi r u=> ?_) ?_ (by rw[y];exact I') (by rw[y];exact p)
   ·have hm:=g k V x;rw[List.length_erase_of_mem hm];omega
   ·have e:i≠k:=λe=>by
     subst e;have:=congrFun y i;rw[zU]at this;rw[u]at this;cases this
    have:b.getD i false=false:=by
     have:=congrFun y i;rw[yL e]at this;rw[<-this];exact u
    exact(List.mem_erase_of_ne e).2 (g i r this)
   ·rw[y];intro j k' B v C;by_cases e:j=k
    ·subst e;exact zT (hr.past k' v C)
    ·rw[yL e]at B;exact zT (m j k' B v C)
theorem Lu (hG:eQ P tb) (e:∀w0:eD gs,rK P w0 ih) (hm:P.follows .mixedOrders=true) {b:List Oper} {id:Nat} (f:b.all (GI n)=true) (N:chkF tb b (oZ b)=true) {k:GS->RS} {s:GS} {p:MD} {ρ:dH} {a:Act} {w:World} {Q:Exit->Act->World->Prop} (F:kX ρ n s.σ a) (R:eX w0 ρ s.H w) (h:(Ed tb ih b k b s=some p∧Dy b mJ=true)∨evW tb ih b (oZ b) k b 0 [] [] s=some p)
  (r:∀G m I L,k G=some p->ρ.le m->kX m n G.σ I->eX w0 m G.H L->Q .normal I L):(Code.region id b.toArray true).wpr none P Q a w:=by
 have W:b.all jG=true:=List.all_eq_true.2 λo U=>(sQ (List.all_eq_true.1 f o U)).1;obtain⟨S,HH,gg,z,A,T,C,c⟩:∃S HH gg,S 0=s.σ∧HH 0=s.H∧Zb tb ih b b S HH gg∧(∀k y h v,b[k]? = some y->mJ y.op=true->Yo (S k) y.op=some h->(HH k).ver h=some v->
   (∀j u,j<k->b[j]? = some u->eB u.op=true->before (oZ b) k j=false->(HH j).ver h=some v)∧(∀j u,k<j->b[j]? = some u->eB u.op=true->before (oZ b) j k=false->(HH (j+1)).ver h=some v))∧k ⟨S b.length,HH b.length⟩=some p:=by
  rcases h with⟨h,ho⟩|h
  ·obtain⟨S,HH,gg,z,A,T,c⟩:=Km b s h;refine⟨S,HH,gg,z,A,T,λk y h v r K _ _=>⟨λj u O q x B=> ?_,λj u O q x B=> ?_⟩,c⟩
   ·rcases FA ho r q K x with d|d
    ·rw[d]at B;cases B
    ·have:=((Gn N).trans j u q k d (bB r)).1;omega
   ·rcases FA ho r q K x with d|d
    ·have:=((Gn N).trans k y r j d (bB q)).1;omega
    ·rw[d]at B;cases B
  ·obtain⟨S,HH,gg,z,A,T,V,c⟩:=HS b 0 [] [] s h;exact⟨S,HH,gg,z,A,T,λk y h v r K hh hv=>by have:=V.lo k y h v r K hh hv;simpa using this,c⟩
 rw[<-z]at F;rw[<-A]at R;have E:uN P tb w0 ih b n S HH gg:=⟨hG,e,f,Gn N,T,C,KH hG (e w0) f T F R _ (Nat.le_refl _)⟩
 have J:∀j,(Array.replicate b.length false).getD j false=false:=λj=>by
  by_cases h:j<b.length<;>simp[h]
 refine Dk W hm ?_;have Y:b.toArray.size=b.length:=by simp
 rw[Y];refine SG (ρb:=ρ) E (λm I L h0 d M=>r ⟨S b.length,HH b.length⟩ m I L c h0 M d) b.length (List.range b.length) _ a _ 0 ρ (λ_=>none) (by simp) (by simp) (λi hi _=>List.mem_range.2 hi) (λj k' q=>by simp only[J]at q;cases q) ?_ (.inl Z);refine⟨Nat.zero_le _,λj o _ _=>by simp only[J];simp,λj o _ _ h=>absurd h (Nat.not_lt_zero j),R.ext' ((Below.refl _ _).drew),dH.le_refl _,F.defers,F.size,λG g hs=> ?_,λi o cs _ _ _ _ h5=>(by simp only[J]at h5;cases h5),λh l X=>(by cases X),λh h' l l' X=>(by cases X)⟩
 rcases hs with⟨i,o,d,_⟩|⟨_,M⟩
 ·simp only[J]at d;cases d
 ·exact(F.slot G g M).le Fy
end
def Ga (c:TB) (n:Nat):Code->Bool
 | .skip | .exit _ | .ret=>true
 | .region _ ops dr=>ops.toList.all (GI n)&&(!dr||chkF c ops.toList (oZ ops.toList))
 | .seq a b=>Ga c n a&&Ga c n b
 | .cond _ a b=>Ga c n a&&Ga c n b
 | .block _ b=>Ga c n b
 | .loop b=>Ga c n b
 |_=>false
section
variable {P:Program} {G:GP} {tb:TB} {Fs:FT} {gs:xS} {w0:eD gs}
def CC (P:Program) (c:Code) (Q:Exit->Act->World->Prop) (a:Act) (w:World):Prop:=
 ∀(b:Frame) (k:List Item) (d:List Frame),b.roundOf=(FR none).round->(FR none).fn b.fn->(FR none).room (d.length+1+0)->
  ∃e f g,Q e f g∧ArrivesIn (Machine.fenced P (FR none)) P (lone (b.atR a (.code c :: .inLoop c::k)) d w) b k d e f g
theorem CC.loop {c:Code} {Q:Exit->Act->World->Prop} {a:Act} {w:World} (h:CC P c Q a w):(Code.loop c).wpr none P Q a w:=by
 intro b k l f g i;obtain⟨e,j,n,m,d⟩:=h b k l f g i;exact⟨e,j,n,m,.of_steps (.one (fenced_calm g i Z) stepR_loop) d⟩
theorem CC.round {c:Code} {Q:Exit->Act->World->Prop} {a:Act} {w:World} (h:c.wpr none P (Exit.then (CC P c Q) Q) a w):CC P c Q a w:=by
 intro b k t p r s;obtain⟨e,f,g,m,d⟩:=h b (.inLoop c::k) t p r s;cases e with
 |normal=>
  obtain⟨o,n,q,j,i⟩:=m b k t p r s;exact⟨o,n,q,j,.of_steps (StepsIn.trans d (.one (fenced_calm r s Z) stepR_inLoop)) i⟩
 |exit id=>exact⟨_,f,g,m,.pass (x:= .inLoop c) Z (λ_ _=> .inl (by simp)) d⟩
 |goto l=>exact⟨_,f,g,m,.pass (x:= .inLoop c) Z (λ_ _=> .inl (by simp)) d⟩
 |ret=>exact⟨_,f,g,m,.pass (x:= .inLoop c) Z (λ_ _=> .inl (by simp)) d⟩
 |panic u=>exact⟨_,f,g,m,.pass (x:= .inLoop c) Z (λ_ _=> .inl (by simp)) d⟩
 |outgrown=>exact⟨_,f,g,m,.pass (x:= .inLoop c) Z (λ_ _=> .inl (by simp)) d⟩
noncomputable def HT (a:Cx) (id:Nat) (s:GS):RS:=some ⟨.exit id,Bj s.σ (lG (AL a.env id)),s.H⟩
structure TD {gs:xS} (w0:eD gs) (tb:TB) (n:Nat) (cx:Cx) (k:GS->RS) (out:MD) (ρ:dH) (Q:Exit->Act->World->Prop):Prop where
 k:∀s' ρ' a' w',k s'=some out->ρ.le ρ'->kX ρ' n s'.σ a'->eX w0 ρ' s'.H w'->Q .normal a' w'
 x:∀id s' ρ' a' w',HT cx id s'=some out->ρ.le ρ'->kX ρ' n s'.σ a'->eX w0 ρ' s'.H w'->Q (.exit id) a' w'
 r:∀s' ρ' a' w',PM tb cx s'=some out->ρ.le ρ'->kX ρ' n s'.σ a'->eX w0 ρ' s'.H w'->Q .ret a' w'
def Ge (P:Program) {gs:xS} (w0:eD gs) (tb:TB) (l:LH):Prop:=∀b h j H d,l b h j H=some d->∀n k i a w Q,Ga tb n b=true->jX (lG (live (.loop b) 0 h)) j some=some k->kX i n k a->eX w0 i H w->
 (∀id e c f g,HT h id e=some d->i.le c->kX c n e.σ f->eX w0 c e.H g->Q (.exit id) f g)->
 (∀e c f g,PM tb h e=some d->i.le c->kX c n e.σ f->eX w0 c e.H g->Q .ret f g)->CC P b Q a w
theorem LU {b:Cx} {s:GS} {a:MD} (h:PM tb b s=some a):a.e = .ret:=by
 obtain⟨c,_,h⟩:=aB.1 (show ob (NL tb s b.res) _=some a from h);cases h;rfl
theorem zI {b:Cx} {id:Nat} {s:GS} {a:MD} (h:HT b id s=some a):a.e = .exit id:=by cases h;rfl
theorem PL {b:List Nat} {s:GS} {a:MD} (h:FD b s=some a):a.e = .normal∧a.vs=Bj s.σ b∧a.H=s.H:=by cases h;exact⟨rfl,rfl,rfl⟩
theorem Py {n:Nat} {m:Cx} {j:List Nat} {k:GS->RS} {o b:MD} {l:dH} {Q:Exit->Act->World->Prop} (L:TD w0 tb n m k b l Q) (h:jX j o.vs (λg=>k ⟨g,o.H⟩)=some b) {c:GS} {a:dH} {d:Act} {f:World}
  (r:o.vs=Bj c.σ j) (q:o.H=c.H) (e:l.le a) (F:kX a n c.σ d) (R:eX w0 a c.H f):Q .normal d f:=by
 obtain⟨g,i,p⟩:=qH h;rw[r]at i;exact L.k ⟨g,o.H⟩ a d f p e (HX F i) (by rw[q];exact R)
theorem BI {M:CH} {W:LH} (O:eQ P tb) (V:P.follows .mixedOrders=true) (j:∀w0:eD gs,rK P w0 M) (p:Ge P w0 tb W) {n:Nat}:∀(c:Code) (m:Nat) (f:Cx) (k:GS->RS) (s:GS) (d:MD) (q:dH) (a:Act) (w:World) (Q:Exit->Act->World->Prop),
  Ga tb n c=true->XW tb M W c m f k s=some d->kX q n s.σ a->eX w0 q s.H w->TD w0 tb n f k d q Q->c.wpr none P Q a w
 | .skip,m,f,k,s,d,q,a,w,Q,_,h,F,R,L=>Oq (L.k s q a w h (dH.le_refl _) F R)
 | .region id ops dr, m, f, k, s, d, q, a, w, Q, ho, h, F, R, L => by
  have l:ops.toList.all (GI n)=true∧(!dr||chkF tb ops.toList (oZ ops.toList))=true:=by simpa [Ga]using ho
  have ad:ops.toList.all jG=true:=List.all_eq_true.2 λo ac=>(sQ (List.all_eq_true.1 l.1 o ac)).1;have N:Bool.casesOn (motive:=λ_=>RS) (abr dr ops.toList) (Ed tb M ops.toList k ops.toList s) (evW tb M ops.toList (oZ ops.toList) k ops.toList 0 [] [] s)=some d:=h;have e:ops=ops.toList.toArray:=by simp
  cases dr with
  |false=>
   rw[e];exact sD ad (Fu O (j w0) ops.toList s q a w l.1 F R N L.k)
  | true =>
   rw[e];have hF:chkF tb ops.toList (oZ ops.toList)=true:=by simpa using l.2
   have u:(Ed tb M ops.toList k ops.toList s=some d∧Dy ops.toList mJ=true)∨evW tb M ops.toList (oZ ops.toList) k ops.toList 0 [] [] s=some d:=by
    cases T:abr true ops.toList with
    |true=>rw[T]at N;exact .inr N
    |false=>
     rw[T]at N;have:(!Dy ops.toList mJ)=false:=T;exact .inl ⟨N,by simpa using this⟩
   exact Lu O j V l.1 hF F R u L.k
 | .seq x y,m,f,k,s,d,q,a,w,Q,ho,h,F,R,L=>by
  have l:Ga tb n x=true∧Ga tb n y=true:=by simpa [Ga]using ho
  refine RO (BI O V j p x (live y m f) f (XW tb M W y m f k) s d q a w _ l.1 h F R ⟨λA t E I z g B C=> ?_,L.x,L.r⟩);exact BI O V j p y m f k A d t E I Q l.2 z B C ⟨λs2 K X w2 J u=>L.k s2 K X w2 J (dH.le_trans g u),λid s2 K X w2 J u=>L.x id s2 K X w2 J (dH.le_trans g u),λs2 K X w2 J u=>L.r s2 K X w2 J (dH.le_trans g u)⟩
 | .cond x thn els, m, f, k, s, d, q, a, w, Q, ho, h, F, R, L => by
  have l:Ga tb n thn=true∧Ga tb n els=true:=by simpa [Ga]using ho
  obtain⟨v,hv,h⟩:=aB.1 (show ob (kG s.σ x) _=some d from h);obtain⟨b,U,h⟩:=aB.1 h;obtain⟨o,J,h⟩:=aB.1 (show ob _ (λo=>Ex.casesOn (motive:=λ_=>RS) o.e (jX (lG m) o.vs λσ=>k ⟨σ,o.H⟩) (λ_=>some o) (some o))=some d from h);have hx:=bY F hv;rw[AJ U]at hx;have L':TD w0 tb n f (FD (lG m)) o q Q:=by
   refine⟨λA t E I z g B C=> ?_,λid A t E I z g B C=> ?_,λA t E I z g B C=> ?_⟩
   ·obtain⟨D,e2,e3⟩:=PL z;rw[D]at h;exact Py L h e2 e3 g B C
   ·have D:=zI z;rw[D]at h;cases h;exact L.x id A t E I z g B C
   ·have D:=LU z;rw[D]at h;cases h;exact L.r A t E I z g B C
  refine Dj hx.bool_inv (λab=> ?_) (λaa=> ?_)
  ·rw[ab]at J;exact BI O V j p thn m f (FD (lG m)) s o q a w Q l.1 J F R L'
  ·rw[aa]at J;exact BI O V j p els m f (FD (lG m)) s o q a w Q l.2 J F R L'
 | .block id b, m, f, k, s, d, q, a, w, Q, ho, h, F, R, L => by
  have l:Ga tb n b=true:=by simpa [Ga]using ho
  obtain⟨o2,u,h⟩:=aB.1 (show ob (nB id (XW tb M W b m ⟨f.res,f.retm,(id,m)::f.env⟩ (FD (lG m)) s)) (λo=>Ex.casesOn (motive:=λ_=>RS) o.e (jX (lG m) o.vs λσ=>k ⟨σ,o.H⟩) (λ_=>some o) (some o))=some d from h);obtain⟨o,J,u⟩:=aB.1 (show ob (XW tb M W b m ⟨f.res,f.retm,(id,m)::f.env⟩ (FD (lG m)) s) (λo=>Ex.casesOn (motive:=λ_=>RS) o.e (some o) (λi=>Bool.casesOn (motive:=λ_=>RS) (Nat.beq i id) (some o) (some ⟨.normal,o.vs,o.H⟩)) (some o))=some o2 from u);refine KQ (BI O V j p b m _ (FD (lG m)) s o q a w _ l J F R ⟨λA t E I z g B C=> ?_,λi A t E I z g B C=> ?_,λA t E I z g B C=> ?_⟩)
  ·obtain⟨D,e2,e3⟩:=PL z;rw[D]at u;cases u;rw[D]at h;exact Py L h e2 e3 g B C
  ·have D:=zI z;rw[D]at u;by_cases hi:i=id
   ·subst hi;have U:Nat.beq i i=true:=by simp
    simp only[U]at u;cases u;show Exit.inBlock i Q (.exit i) E I;simp only[Exit.inBlock,if_true];have S:o=⟨.exit i,Bj A.σ (lG (AL ((i,m)::f.env) i)),A.H⟩:=by cases z;rfl
    have he:AL ((i,m)::f.env) i=m:=by
     show(bif Nat.beq i i then m else AL f.env i)=m;rw[U];rfl
    rw[he]at S;exact Py (o:=⟨.normal,o.vs,o.H⟩) L h (by rw[S]) (by rw[S]) g B C
   ·have U:Nat.beq i id=false:=m_ hi;simp only[U]at u;cases u;rw[D]at h;cases h;show Exit.inBlock id Q (.exit i) E I;simp only[Exit.inBlock,if_neg hi];refine L.x i A t E I ?_ g B C;have he:AL ((id,m)::f.env) i=AL f.env i:=by
     show(bif Nat.beq id i then m else AL f.env i)=_;rw[m_ (Ne.symm hi)];rfl
    rw[<-z];show HT f i A=some ⟨.exit i,Bj A.σ (lG (AL ((id,m)::f.env) i)),A.H⟩;rw[he];rfl
  ·have D:=LU z;rw[D]at u;cases u;rw[D]at h;cases h;exact L.r A t E I z g B C
 | .loop b,m,f,k,s,d,q,a,w,Q,ho,h,F,R,L=>by
  have l:Ga tb n b=true:=by simpa [Ga]using ho
  have N:W b f (Bj s.σ (lG (live (.loop b) 0 f))) s.H=some d:=h;have ae:=LQ s.σ (lG (live (.loop b) 0 f));obtain⟨σ,Y⟩:=ae;exact CC.loop (p b f _ s.H d N n σ q a w Q l Y (HX F Y) R L.x L.r)
 | .exit id,m,f,k,s,d,q,a,w,Q,_,h,F,R,L=>Oo (L.x id s q a w h (dH.le_refl _) F R)
 | .ret,m,f,k,s,d,q,a,w,Q,_,h,F,R,L=>RN (L.r s q a w h (dH.le_refl _) F R)
 | .rangeFunc _ _ _ _,m,f,k,s,d,q,a,w,Q,ho,_,_,_,_=>by simp[Ga]at ho
 | .scope _,m,f,k,s,d,q,a,w,Q,ho,_,_,_,_=>by simp[Ga]at ho
 | .label _,m,f,k,s,d,q,a,w,Q,ho,_,_,_,_=>by simp[Ga]at ho
 | .goto _,m,f,k,s,d,q,a,w,Q,ho,_,_,_,_=>by simp[Ga]at ho
 | .refuse _,m,f,k,s,d,q,a,w,Q,ho,_,_,_,_=>by simp[Ga]at ho
theorem YG (j:eQ P tb) {n:Nat} {s:GS} {f:dH} {a:Act} {w:World} (F:kX f n s.σ a) (R:eX w0 f s.H w) {r:ResultVar} {g:GV} (h:abb tb s r=some g):∃v,Rl f g v∧(Eh a.tmps r).run P w = .ok v w:=by
 cases r with
 |tmp t=>exact⟨_,F.slot t g h,by simp[Eh,Act.eval]⟩
 |cell q T=>
  obtain⟨v,m,h⟩:=aB.1 (show ob (DT s.σ q) _=some g from h);have d:=F.slot q v m;obtain⟨x,_,_,_,_,_,o,c⟩:=Jy (P:=P) j R d h;have c:=c w Z;refine⟨x,o,?_⟩
  obtain⟨p,k,_⟩:=aB.1 (show ob v.asP _=some g from h);rw[CG k]at d;obtain⟨l,u,e⟩:=d.ptr_inv;have i:a.tmps.getD q undef = .pointer (some ⟨l.b,l.off+p.2,none⟩):=e;rw[e]at c;simp only[Instr.loadAt,Instr.sureAddr]at c;simp only[Eh,i,asAddr];simpa using c
theorem NM (f:eQ P tb) {n:Nat} {s:GS} {e:dH} {a:Act} {w:World} (F:kX e n s.σ a) (R:eX w0 e s.H w):∀{l:List ResultVar} {gs:List GV},NL tb s l=some gs->∃b,oY e gs b∧(l.mapM (Eh a.tmps)).run P w = .ok b w
 | [],gs,h=>by cases h;exact⟨[],.nil,by simp⟩
 |r::l,gs,h=>by
  obtain⟨g,m,h⟩:=aB.1 (show ob (abb tb s r) (λv=>ob (NL tb s l) λb=>some (v::b))=some gs from h);obtain⟨i,c,h⟩:=aB.1 h;cases h;obtain⟨v,o,j⟩:=YG (P:=P) f F R m;obtain⟨b,d,k⟩:=NM f F R c;exact⟨v::b,.cons o d,by simp[List.mapM_cons,j,k]⟩
theorem Vy {b:dH} {gs:List GV} {a:List Value} (h:oY b gs a):Rl b (SX gs) (if h:a.toArray.size=1 then a.toArray[0]else .tuple a.toArray):=by
 cases gs with
 |nil=>rw[h.of_nil];exact HN .nil
 | cons g gs =>
  obtain⟨v,a,rfl,c,d⟩:=h.of_cons;cases gs with
  |nil=>rw[d.of_nil];show Rl b g _;simpa using c
  |cons j gs=>
   obtain⟨k,i,rfl,e,f⟩:=d.of_cons;rw[dif_neg (by simp)];exact HN (.cons c (.cons e f))
theorem FE (j:eQ P tb) {fn:Func} {c:Cx} (d:c.res=fn.results.toList) {n:Nat} {s:GS} {g:dH} {a:Act} {w:World} {b:MD} (F:kX g n s.σ a) (R:eX w0 g s.H w) (h:PM tb c s=some b):b.H=s.H∧∃v,Rl g (SX b.vs) v∧(results fn a.tmps).run P w = .ok v w:=by
 obtain⟨gs,e,h⟩:=aB.1 (show ob (NL tb s c.res) _=some b from h);cases h;obtain⟨l,f,i⟩:=NM (P:=P) j F R e;rw[d]at i;refine⟨rfl,_,Vy f,?_⟩
 rw[zX];have k:(fn.results.mapM (Eh a.tmps)).run P w = .ok l.toArray w:=by
  rw[Array.mapM_eq_mapM_toList];simp[i]
 simp[k]
structure Qc (P:Program) (G:GP) (Fs:FT) {gs:xS} (w0:eD gs):Prop where
 tab:eQ P G.tab
 mixed:P.follows .mixedOrders=true
 fns:∀{f fn},Fs f=some fn->P.funcs[f]? = some fn∧aR P f∧(∀c,fn.body=some c->Ga G.tab fn.ntmps c=true)∧fn.params.size+fn.nfree<=fn.ntmps
 ext:∀{f us H g H'},G.ext f us H=some (g,H')->∀ρ w vs,eX w0 ρ H w->oY ρ us vs->kF P w0 ρ f vs w g H'
 exn:∀{f us g},G.exn f us=some g->∀ρ w vs H,eX w0 ρ H w->oY ρ us vs->kF P w0 ρ f vs w g H
 /-- the function that catches returns 0 and 0 if its argument returns;its two variables are new objects -/
 cat:∀{ρ:dH} {g us cs w H H' c1 c2},eX w0 ρ H w->(∀ρ' w',ρ.le ρ'->eX w0 ρ' ((H.new (.cells [wE])).new (.cells [wE])) w'->∃x,kF P w0 ρ' g (us++cs) w' x H')->H'.cells H.n=some [c1]->H'.cells (H.n+1)=some [c2]->
  kF P w0 ρ G.cat [.func (.func g) us.toArray cs.toArray] w (.tup [wE,wE]) ((((H'.set H.n (.cells [wE])).set (H.n+1) (.cells [wE])).del H.n).del (H.n+1))
def Tq (P:Program) {gs:xS} (w0:eD gs) (h:IH):Prop:=∀f d H a,h (.fn f) d H=some a->a.e = .ret->∀c w g,eX w0 c H w->oY c d g->
 aR P f∧Calls P f g.toArray w λe i=>∃v b,e = .returned v∧c.le b∧eX w0 b a.H i∧Rl b (SX a.vs) v
theorem M_ {d:IH} (h:Tq P w0 d):rK P w0 (acx d):=λf i H g j m q w p R n=>by
 obtain⟨o,k,b⟩:=aB.1 (show ob (d (.fn f) i H) _=some (g,j)from m);cases c:o.e with
 |normal=>rw[c]at b;cases b
 |exit id=>rw[c]at b;cases b
 |ret=>
  rw[c]at b;cases b;obtain⟨l,a⟩:=h f i H o k c q w p R n;exact .inr ⟨l _ w,a⟩
theorem IA {B:IH} (j:Qc P G Fs w0) (h:Tq P w0 B):rK P w0 (CJ G B):=λf b H g z a t w i R e=>by
 unfold CJ callQ at a;cases c:Nat.beq f G.cat with
 | false =>
  rw[c]at a;cases n:G.ext f b H with
  |some r=>
   simp only[n]at a;cases a;exact j.ext n t w i R e
  | none =>
   simp only[n]at a;cases s:G.exn f b with
   |some r=>
    simp only[s]at a;cases a;exact j.exn s t w i _ R e
   |none=>
    simp only[s]at a;exact M_ h f b H g z a t w i R e
 | true =>
  rw[c]at a;have c:=Nat.eq_of_beq_eq_true c;subst c;cases b with
  |nil=>cases a
  | cons u b =>
   cases b with
   |cons _ _=>cases a
   |nil=>
    obtain⟨p,F,a⟩:=aB.1 (show ob u.asF _=some (g,z)from a);rw[iQ,iQ]at a;obtain⟨x,J,a⟩:=aB.1 a;obtain⟨O,k,a⟩:=aB.1 a;obtain⟨Q,l,a⟩:=aB.1 a;obtain⟨o,a⟩:=bN.1 a;obtain⟨q,a⟩:=bN.1 a;rw[wO,wO,En,En]at a;cases a;obtain⟨M,rfl⟩:=List.length_eq_one_iff.1 (Nat.eq_of_beq_eq_true o);obtain⟨N,rfl⟩:=List.length_eq_one_iff.1 (Nat.eq_of_beq_eq_true q);obtain⟨v,i,rfl,A,E⟩:=e.of_cons;rw[E.of_nil];rw[Ua F]at A;obtain⟨K,D,rfl,I,m⟩:=A.fn_inv;exact j.cat R (λy L d C=>⟨x.1,M_ h p.1 _ _ x.1 x.2 J y L _ C ((I.le d).append (m.le d))⟩) k l
theorem aaB {x:IH} (p:∀w0:eD gs,Qc P G Fs w0) (B:∀w0:eD gs,Tq P w0 x) (l:Ge P w0 G.tab λb z=>x (.loop b z)) {f:Nat} {i:Func} {K:List GV} {H:GH} {d:MD} (T:Fs f=some i) (h:UJ G.tab (CJ G x) (λb z=>x (.loop b z)) i K H=some d) (S:d.e = .ret) {u:dH} {w:World} {t:List Value} (R:eX w0 u H w) (I:oY u K t):
  aR P f∧Calls P f t.toArray w λe y=>∃v a,e = .returned v∧u.le a∧eX w0 a d.H y∧Rl a (SX d.vs) v:=by
 obtain⟨M,N,O,Q⟩:=(p w0).fns T;refine⟨N,?_⟩
 obtain⟨k,E,h⟩:=aB.1 (show ob i.body _=some d from h);obtain⟨L,m,h⟩:=qH h;rw[List.range_eq_range']at m;have s:=Is m;have U:t.length<=i.ntmps:=by rw[<-I.len,s];exact Q
 refine sG M E ?_;have F:kX u i.ntmps L {tmps:=t.toArray++Array.replicate (i.ntmps - t.toArray.size) undef,defers:=[]}:=by
  refine Lj Z (by simp;omega) I (λj v q=> ?_) m;have C:=bB q;rw[Nat.zero_add,Array.getElem?_append_left (by simpa using C)];simpa using q
 refine BI (p w0).tab (p w0).mixed (λw0=>IA (p w0) (B w0)) l k _ _ _ ⟨L,H⟩ d u _ w _ (O k E) h F R ⟨λJ a D y r c n o=> ?_,λid J a D y r c n o=> ?_,λJ a D y r c n o=> ?_⟩
 ·obtain⟨A,v,q,g⟩:=FE (fn:=i) (p w0).tab Z n o r;exact Sx.body_end (.inr Z) n.defers g ⟨v,a,rfl,c,by rw[A];exact o,q⟩
 ·have:=zI r;rw[S]at this;cases this
 ·obtain⟨A,v,q,g⟩:=FE (fn:=i) (p w0).tab Z n o r;exact Sx.body_end (.inl Z) n.defers g ⟨v,a,rfl,c,by rw[A];exact o,q⟩
theorem abd (B:∀w0:eD gs,Qc P G Fs w0):∀(c:Nat) (w0:eD gs),Tq P w0 (run G Fs c)∧Ge P w0 G.tab λb d=>run G Fs c (.loop b d):=by
 intro c
 induction c with
 |zero=>exact λw0=>⟨λf us H i h=>(by cases h),λb d K H i h=>(by cases h)⟩
 | succ c ih =>
  have z:∀w0:eD gs,Tq P w0 (run G Fs c):=λw0=>(ih w0).1;intro w0;have q:=(ih w0).2;refine⟨λf us H i h he V w K R hr=> ?_,λb d K H i h n O V a w Q T I F R U k=> ?_⟩
  ·obtain⟨fn,E,h⟩:=aB.1 (show ob (Fs f) _=some i from h);exact aaB B z q E h he R hr
  ·have D:jX (lG (live (.loop b) 0 d)) K (λO=>ob (XW G.tab (CJ G (run G Fs c)) (λb d=>run G Fs c (.loop b d)) b (live (.loop b) 0 d) d (FD (lG (live (.loop b) 0 d))) ⟨O,H⟩) λo=>Ex.casesOn (motive:=λ_=>RS) o.e (run G Fs c (.loop b d) o.vs o.H) (λ_=>some o) (some o))=some i:=h;obtain⟨aa,l,D⟩:=qH D;rw[I]at l;cases l;obtain⟨o,Y,s⟩:=aB.1 D;refine CC.round (BI (B w0).tab (B w0).mixed (λw0=>IA (B w0) (z w0)) q b _ d _ ⟨O,H⟩ o V a w _ T Y F R ⟨λt j x A p g u v=> ?_,λid t j x A p g u v=> ?_,λt j x A p g u v=> ?_⟩)
   ·obtain⟨y,W,X⟩:=PL p;rw[y,W,X]at s;obtain⟨S,m⟩:=LQ t.σ (lG (live (.loop b) 0 d));exact q b d _ t.H i s n S j x A Q T m (HX u m) v (λid J r C L M N=>U id J r C L M (dH.le_trans g N)) (λJ r C L M N=>k J r C L M (dH.le_trans g N))
   ·have y:=zI p;rw[y]at s;cases s;exact U id t j x A p g u v
   ·have y:=LU p;rw[y]at s;cases s;exact k t j x A p g u v
theorem Fl (e:∀w0:eD gs,Qc P G Fs w0) {a f:Nat} {c:List GV} {H H':GH} {g:GV} (h:QA G Fs a f c H=some (g,H')) {b:dH} {w:World} {d:List Value} (R:eX w0 b H w) (i:oY b c d):kF P w0 b f d w g H':=
 IA (e w0) (abd e a w0).1 f c H g H' h b w d R i
theorem eX.start (b:eD gs) (c:gs.env=[]):eX b (λ_=>none) H0 b.w:=⟨AY.refl _,λh o a=>(by cases a),λh g o k l j a=>(by cases a),λ_ _=>rfl,λh d=>absurd d (Nat.not_lt_zero h),λh v l f=>(by cases f),λi v e=>by rw[c]at e;simp at e⟩
end
end Go.Gx
namespace Go.Gx
open Go Go.Sx
noncomputable section
def oN (a:List GV) (H:GH):RS:=some ⟨.normal,a,H⟩
def oX (id:Nat) (a:List GV) (H:GH):RS:=some ⟨.exit id,a,H⟩
def oR (a:List GV) (H:GH):RS:=some ⟨.ret,a,H⟩
def jn (r:RS) (k:List GV->GH->RS):RS:=ob r λo=>Ex.casesOn (motive:=λ_=>RS) o.e (k o.vs o.H) (λ_=>some o) (some o)
def rG (v:GV) (b:Bool) (H:GH) (X:OR):OR:=GV.casesOn (motive_1:=λ_=>OR) v (λ_ _=>none) (λq=>Bool.casesOn (motive:=λ_=>OR) (QG q b) (some (.un,H)) X) (λ_ _=>none) (λ_ _=>none) none (λ_ _ _ _=>none) none (λ_=>none) (λ_ _ _=>none) none none (λ_=>none) (λ_=>none) (some (.un,H)) none (λ_=>none)
def U0 {R:Type} (a:List GV) (f:Option R):Option R:=List.casesOn (motive:=λ_=>Option R) a (f) λ_ _=>none
def U1 {R:Type} (b:List GV) (f:GV->Option R):Option R:=List.casesOn (motive:=λ_=>Option R) b none λa c=>List.casesOn (motive:=λ_=>Option R) c (f a) λ_ _=>none
def U2 {R:Type} (c:List GV) (f:GV->GV->Option R):Option R:=List.casesOn (motive:=λ_=>Option R) c none λa d=>List.casesOn (motive:=λ_=>Option R) d none λb e=>List.casesOn (motive:=λ_=>Option R) e (f a b) λ_ _=>none
def U3 {R:Type} (d:List GV) (f:GV->GV->GV->Option R):Option R:=List.casesOn (motive:=λ_=>Option R) d none λa e=>List.casesOn (motive:=λ_=>Option R) e none λb g=>List.casesOn (motive:=λ_=>Option R) g none λc h=>List.casesOn (motive:=λ_=>Option R) h (f a b c) λ_ _=>none
def U4 {R:Type} (e:List GV) (f:GV->GV->GV->GV->Option R):Option R:=List.casesOn (motive:=λ_=>Option R) e none λa g=>List.casesOn (motive:=λ_=>Option R) g none λb h=>List.casesOn (motive:=λ_=>Option R) h none λc i=>List.casesOn (motive:=λ_=>Option R) i none λd j=>List.casesOn (motive:=λ_=>Option R) j (f a b c d) λ_ _=>none
def U5 {R:Type} (g:List GV) (f:GV->GV->GV->GV->GV->Option R):Option R:=List.casesOn (motive:=λ_=>Option R) g none λa h=>List.casesOn (motive:=λ_=>Option R) h none λb i=>List.casesOn (motive:=λ_=>Option R) i none λc j=>List.casesOn (motive:=λ_=>Option R) j none λd k=>List.casesOn (motive:=λ_=>Option R) k none λe l=>List.casesOn (motive:=λ_=>Option R) l (f a b c d e) λ_ _=>none
def U6 {R:Type} (h:List GV) (f:GV->GV->GV->GV->GV->GV->Option R):Option R:=List.casesOn (motive:=λ_=>Option R) h none λa i=>List.casesOn (motive:=λ_=>Option R) i none λb j=>List.casesOn (motive:=λ_=>Option R) j none λc k=>List.casesOn (motive:=λ_=>Option R) k none λd l=>List.casesOn (motive:=λ_=>Option R) l none λe m=>List.casesOn (motive:=λ_=>Option R) m none λg n=>List.casesOn (motive:=λ_=>Option R) n (f a b c d e g) λ_ _=>none
def U7 {R:Type} (i:List GV) (f:GV->GV->GV->GV->GV->GV->GV->Option R):Option R:=List.casesOn (motive:=λ_=>Option R) i none λa j=>List.casesOn (motive:=λ_=>Option R) j none λb k=>List.casesOn (motive:=λ_=>Option R) k none λc l=>List.casesOn (motive:=λ_=>Option R) l none λd m=>List.casesOn (motive:=λ_=>Option R) m none λe n=>List.casesOn (motive:=λ_=>Option R) n none λg o=>List.casesOn (motive:=λ_=>Option R) o none λh p=>List.casesOn (motive:=λ_=>Option R) p (f a b c d e g h) λ_ _=>none
def U9 {R:Type} (k:List GV) (f:GV->GV->GV->GV->GV->GV->GV->GV->GV->Option R):Option R:=List.casesOn (motive:=λ_=>Option R) k none λa l=>List.casesOn (motive:=λ_=>Option R) l none λb m=>List.casesOn (motive:=λ_=>Option R) m none λc n=>List.casesOn (motive:=λ_=>Option R) n none λd o=>List.casesOn (motive:=λ_=>Option R) o none λe p=>List.casesOn (motive:=λ_=>Option R) p none λg q=>List.casesOn (motive:=λ_=>Option R) q none λh r=>List.casesOn (motive:=λ_=>Option R) r none λi s=>List.casesOn (motive:=λ_=>Option R) s none λj t=>List.casesOn (motive:=λ_=>Option R) t (f a b c d e g h i j) λ_ _=>none
def PQ:f_->Code->Code
 | [],c=>c
 |0::p,.seq a _=>PQ p a
 |1::p,.seq _ b=>PQ p b
 |0::p,.cond _ a _=>PQ p a
 |1::p,.cond _ _ b=>PQ p b
 |0::p,.block _ b=>PQ p b
 |0::p,.loop b=>PQ p b
 |_,c=>c
def cF (a:Func) (p:f_):Code:=match a.body with
 |some c=>PQ p c
 |none=> .skip
def iJ (b:Func) (a:List (Nat×Nat)):Cx:=⟨b.results.toList,HZ b.results.toList,a⟩
abbrev fM:=CH->QH->List GV->GH->RS
structure Fb where
 fn:Nat->Option (Func×fM)
 lp:Nat->Option ((Code×Cx)×fM)
def Fb.fns (T:Fb) (f:Nat):Option Func:=ob (T.fn f) λe=>some e.1
def Fb.loop (T:Fb) (a:LH):QH:=λi vs H=>ob (T.lp i) λe=>a e.1.1 e.1.2 vs H
def rr (T:Fb) (G:GP) (n:Nat):Bool->QH:=Nat.rec (motive:=λ_=>Bool->QH) (λ_ _ _ _=>none) (λ_ a b t c H=>Bool.casesOn (motive:=λ_=>RS) b (ob (T.fn t) λe=>e.2 (callQ G (a false)) (a true) c H) (ob (T.lp t) λe=>e.2 (callQ G (a false)) (a true) c H)) n
structure Ip (T:Fb) (tb:TB):Prop where
 fn:∀{f e},T.fn f=some e->∀(c:CH) (lp:LH) us H,e.2 c (T.loop lp) us H=UJ tb c lp e.1 us H
 lp:∀{i e},T.lp i=some e->∀(c:CH) (lp:LH) us H,e.2 c (T.loop lp) us H=evL tb c lp e.1.1 e.1.2 us H
theorem adh {T:Fb} {G:GP} (h:Ip T G.tab):∀n,rr T G n false=(λf c H=>run G T.fns n (.fn f) c H)∧rr T G n true=T.loop (λb a=>run G T.fns n (.loop b a)):=by
 intro n
 induction n with
 |zero=>
  refine⟨rfl,?_⟩
  funext i vs H;show none=ob (T.lp i) λe=>none;cases T.lp i<;>rfl
 | succ n ih =>
  obtain⟨d,g⟩:=ih;constructor
  ·funext f c H;show ob (T.fn f) (λe=>e.2 (callQ G (rr T G n false)) (rr T G n true) c H)=ob (T.fns f) λk=>UJ G.tab (CJ G (run G T.fns n)) (λb a=>run G T.fns n (.loop b a)) k c H;unfold Fb.fns;cases j:T.fn f with
   |none=>rfl
   |some e=>
    show e.2 (callQ G (rr T G n false)) (rr T G n true) c H=UJ G.tab (CJ G (run G T.fns n)) (λb a=>run G T.fns n (.loop b a)) e.1 c H;rw[d,g];exact h.fn j _ _ c H
  ·funext i vs H;show ob (T.lp i) (λe=>e.2 (callQ G (rr T G n false)) (rr T G n true) vs H)=ob (T.lp i) λe=>run G T.fns (n+1) (.loop e.1.1 e.1.2) vs H;cases j:T.lp i with
   |none=>rfl
   |some e=>
    show e.2 (callQ G (rr T G n false)) (rr T G n true) vs H=evL G.tab (CJ G (run G T.fns n)) (λb a=>run G T.fns n (.loop b a)) e.1.1 e.1.2 vs H;rw[d,g];exact h.lp j _ _ vs H
def okF (a:TB) (fn:Func):Bool:=match fn.body with
 |some c=>Ga a fn.ntmps c&&Nat.ble (fn.params.size+fn.nfree) fn.ntmps
 |none=>false
theorem NA {tb:TB} {fn:Func} (h:okF tb fn=true):(∀c,fn.body=some c->Ga tb fn.ntmps c=true)∧fn.params.size+fn.nfree<=fn.ntmps:=by
 unfold okF at h;cases a:fn.body with
 |none=>rw[a]at h;cases h
 |some c=>
  rw[a]at h;simp only[Bool.and_eq_true]at h;exact⟨λd b=>by cases b;exact h.1,by simpa using h.2⟩
def Hh (T:Fb) (G:GP) (b:Nat) (f:FuncId) (a:List GV) (H:GH):OR:=callQ G (rr T G b false) f a H
theorem CK {T:Fb} {G:GP} (h:Ip T G.tab) (fuel:Nat) (f:FuncId) (a:List GV) (H:GH):Hh T G fuel f a H=QA G T.fns fuel f a H:=by
 unfold Hh QA CJ;rw[(adh h fuel).1]
end
end Go.Gx
section
set_option maxRecDepth 100000
namespace Go.Gx
open Go Go.Sx Go.Proofs
noncomputable section
abbrev y:=tR
def gB (f:Func) (c:CH) (_:QH) (a:List GV) (H:GH):RS:=UJ y c (λ_ _ _ _=>none) f a H
def qB (f:Func) (i:Nat) (c:CH) (q:QH) (a:List GV) (H:GH):RS:=UJ y c (λ_ _ b H=>q i b H) f a H
def gL (e:Code×Cx) (i:Nat) (c:CH) (q:QH) (a:List GV) (H:GH):RS:=evL y c (λ_ _ b H=>q i b H) e.1 e.2 a H
def gL1 (e:Code×Cx) (n i j:Nat) (c:CH) (q:QH) (d:List GV) (H:GH):RS:=evL y c (λ_ b a H=>bif Nat.beq b.env.length n then q i a H else q j a H) e.1 e.2 d H
def gD (e:Code×Cx) (i:Nat):(Code×Cx)×fM:=(e,gL e i)
def gD1 (e:Code×Cx) (n i j:Nat):(Code×Cx)×fM:=(e,gL1 e n i j)
def i (n:Nat):GV:= .int .i64 (.ofNat n)
def bC (q:Bool) (f t:RS):RS:=Bool.casesOn (motive:=λ_=>RS) q f t
def K (c:CH) (f:Nat) (a:List GV) (H:GH) (k:GV->GH->RS):RS:=iM (c f a H) k
def bn (a:BinOp) (T:Nat) (v u:GV) (k:GV->RS):RS:=ob (Di y a T v u) k
def ld (T:Nat) (v:GV) (H:GH) (k:GV->RS):RS:=ob (wM y T v H) k
def fd (T n:Nat) (v:GV) (k:GV->RS):RS:=ob (ES y T n v) k
def ix (T:Nat) (v u:GV) (k:GV->RS):RS:=ob (PY y T v u) k
def ln (T:Nat) (v:GV) (k:GV->RS):RS:=ob (PZ y T v) k
def ex (n:Nat) (v:GV) (k:GV->RS):RS:=ob (abn n v) k
theorem rN {a:Type} {f n:Nat} {x y:Option a} {e:a} {R:Prop} (b:x=some e->R) (c:y=some e->R):tN f n x y=some e->R:=by
 unfold tN;cases Nat.blt f n
 ·exact c
 ·exact b
theorem rL {c:Type} {f n:Nat} {x e:c} {R:Nat->c->Prop} (h:R n x):tL f n x=some e->R f e:=by
 intro a;unfold tL at a;cases b:Nat.beq f n with
 |false=>rw[b]at a;cases a
 |true=>rw[b]at a;cases a;rw[Nat.eq_of_beq_eq_true b];exact h
def abG (c:CH) (l:QH) (p:List GV) (H:GH):RS:=U1 p λg=>
 ln 9 g λm=>
 bn .gtr 3 m (i 16384) λn=>
 ob (GV.asB n) λk=>jn (bC k (oN [g] H) (oR [.snil,(i 0),(i 3)] H)) λe h=>U1 e λf=>K c 171 [f,(i 0)] h λo j=>
 jn (nB 0 (l 13 [f,.snil,o] j)) λa d=>U1 a λb=>oR [b,(i 0),(i 0)] d
def L13 (c:CH) (ql:QH) (us:List GV) (H:GH):RS:=U3 us λa b d=>jn (ln 9 a λO=>
 bn .lss 3 d O λP=>
 ob (GV.asB P) λL=>jn (bC L (oX 0 [b] H) (oN [a,b,d] H)) λs l=>U3 s λw e f=>jn (nB 1 (ln 123 e λQ=>
 bn .eql 3 Q (i 4096) λR=>
 ob (GV.asB R) λM=>jn (bC M (oN [w,e,f] l) (oR [.snil,f,(i 3)] l)) λt D=>U3 t λg x h=>K c 172 [g,h] D λp E=>
 ex 0 p λS=>
 ex 1 p λq=>
 iM (sC y 178 E) λr F=>
 iM (rC y 178 r S F) λab m=>
 bn .neq 36 q (i 0) λT=>
 ob (GV.asB T) λN=>jn (bC N (oN [g,x,r] m) (oR [.snil,h,q] m)) λu n=>U3 u λj z k=>ld 178 k n λU=>
 iM (zG y 123 1 [(0,U)] n) λV G=>
 iM (PW y 123 123 z V G) λW o=>
 fd 178 2 k λX=>
 ld 3 X o λY=>
 K c 171 [j,Y] o λaa I=>
 oN [j,W,aa] I)) λv J=>U3 v λA B C=>oN [A,B,C] J) (ql 13)
def abH (c:CH) (T:QH) (us:List GV) (H:GH):RS:=U1 us λx1=>
 iM (Tg x1 H) λF P=>
 fd 42 1 F λt4=>
 ld 39 t4 P λt5=>
 ln 39 t5 λt6=>
 bn .eql 3 t6 (i 0) λz=>
 iM (rG z false P (ob (ES y 42 1 F) λg8=>some (g8,P))) λt9 b=>
 iM (rG z false b (ob (wM y 39 t9 b) λG=>some (G,b))) λU j=>
 iM (rG z false j (ob (PZ y 39 U) λI=>some (I,j))) λV k=>
 iM (rG z false k (ob (Di y .gtr 3 V (i 6)) λJ=>some (J,k))) λW l=>
 ob (wN z (.bool true) W) λa=>
 iM (rG a false l (ob (ES y 42 2 F) λL=>some (L,l))) λX d=>
 iM (rG a false d (ob (wM y 40 X d) λM=>some (M,d))) λY m=>
 iM (rG a false m (ob (PZ y 40 Y) λN=>some (N,m))) λaa n=>
 iM (rG a false n (ob (Di y .gtr 3 aa (i 12)) λO=>some (O,n))) λab o=>
 ob (wN a (.bool true) ab) λac=>
 ob (GV.asB ac) λR=>jn (bC R (oN [F] o) (oR [(i 3)] o)) λA p=>U1 A λe=>ld 42 e p λad=>
 K c 182 [ad] p λae q=>
 ob (YZ .not ae) λaf=>
 ob (GV.asB af) λS=>jn (bC S (oN [e] q) (oR [(i 5)] q)) λB r=>U1 B λf=>fd 42 1 f λag=>
 ld 39 ag r λv=>
 ln 39 v λah=>
 jn (nB 0 (T 14 [f,v,ah,(i 0)] r)) λC s=>U1 C λg=>fd 42 2 g λai=>
 ld 40 ai s λw=>
 ln 40 w λaj=>
 jn (nB 2 (T 15 [g,w,aj,(i 0)] s)) λD t=>U1 D λh=>ld 42 h t λak=>
 K c 185 [ak] t λal u=>
 fd 42 2 h λam=>
 ld 40 am u λx=>
 ln 40 x λan=>
 jn (nB 4 (T 16 [al,x,an,(i 0)] u)) λE Q=>U0 E (oR [(i 0)] Q)
def L14 (c:CH) (O:QH) (Q:List GV) (H:GH):RS:=U4 Q λb q d e=>jn (bn .lss 3 e d λG=>
 ob (GV.asB G) λE=>jn (bC E (oX 0 [b] H) (oN [b,q,d,e] H)) λn h=>U4 n λr f s g=>jn (nB 1 (ix 39 f g λI=>
 ld 85 I h λJ=>
 iM (sC y 85 h) λm B=>
 iM (rC y 85 m J B) λP j=>
 ld 85 m j λL=>
 K c 183 [L] j λM k=>
 ob (YZ .not M) λN=>
 ob (GV.asB N) λF=>jn (bC F (oN [r,f,s,g] k) (oR [(i 2)] k)) λo C=>U4 o λt u v w=>oN [t,u,v,w] C)) λp D=>U4 p λx z A a=>bn .add 3 a (i 1) λl=>
 oN [x,z,A,l] D) (O 14)
def L15 (c:CH) (S:QH) (T:List GV) (H:GH):RS:=U4 T λb p d e=>jn (bn .lss 3 e d λF=>
 ob (GV.asB F) λD=>jn (bC D (oX 2 [b] H) (oN [b,p,d,e] H)) λm j=>U4 m λf g q h=>jn (nB 3 (ix 40 g h λG=>
 ld 194 G j λI=>
 iM (sC y 194 j) λl A=>
 iM (rC y 194 l I A) λR a=>
 ld 194 l a λJ=>
 fd 42 1 f λL=>
 ld 39 L a λM=>
 ln 39 M λN=>
 K c 184 [J,N] a λO k=>
 ob (YZ .not O) λP=>
 ob (GV.asB P) λE=>jn (bC E (oN [f,g,q,h] k) (oR [(i 7)] k)) λn B=>U4 n λr s t u=>oN [r,s,t,u] B)) λo C=>U4 o λv w x z=>bn .add 3 z (i 1) λQ=>
 oN [v,w,x,Q] C) (S 15)
def L16 (c:CH) (P:QH) (Q:List GV) (H:GH):RS:=U4 Q λo p a b=>jn (bn .lss 3 b a λF=>
 ob (GV.asB F) λD=>jn (bC D (oX 4 [] H) (oN [o,p,a,b] H)) λl g=>U4 l λd e q f=>jn (nB 5 (ix 40 e f λG=>
 ld 194 G g λI=>
 iM (sC y 194 g) λk A=>
 iM (rC y 194 k I A) λO h=>
 ld 194 k h λJ=>
 K c 186 [J,d] h λL j=>
 ob (YZ .not L) λM=>
 ob (GV.asB M) λE=>jn (bC E (oN [d,e,q,f] j) (oR [(i 6)] j)) λm B=>U4 m λr s t u=>oN [r,s,t,u] B)) λn C=>U4 n λv w x z=>bn .add 3 z (i 1) λN=>
 oN [v,w,x,N] C) (P 16)
def abI (c:CH) (q:QH) (z:List GV) (H:GH):RS:=U2 z λA B=>
 iM (Tg A H) λr p=>
 fd 27 1 r λw=>
 ld 25 w p λx=>
 ln 25 x λs=>
 iM (Wh y 22 s s p) λt u=>
 ln 22 t λm=>
 jn (nB 0 (q 18 [B,r,t,m,(i 0)] u)) λd h=>U3 d λa f b=>ix 22 b a λn=>
 iM (rC y 3 n (i 0) h) λv j=>
 iM (zG y 22 1 [(0,a)] j) λo k=>
 jn (nB 2 (q 19 [f,b,o] k)) λe l=>U1 e λg=>oR [g] l
def L18 (c:CH) (B:QH) (D:List GV) (H:GH):RS:=U5 D λa b d e f=>jn (bn .lss 3 f e λx=>
 ob (GV.asB x) λw=>jn (bC w (oX 0 [a,b,d] H) (oN [a,b,d,e,f] H)) λj t=>U5 j λl m g n h=>jn (nB 1 (ix 22 g h λz=>
 iM (rC y 3 z (.int .i64 (.negSucc 0)) t) λC u=>
 oN [l,m,g,n,h] u)) λk v=>U5 k λo p q r s=>bn .add 3 s (i 1) λA=>
 oN [o,p,q,r,A] v) (B 18)
def L19 (c:CH) (G:QH) (I:List GV) (H:GH):RS:=U3 I λm b d=>jn (ln 22 d λx=>
 bn .gtr 3 x (i 0) λz=>
 ob (GV.asB z) λw=>jn (bC w (oX 2 [b] H) (oN [m,b,d] H)) λj a=>U3 j λe n f=>jn (nB 3 (ix 22 f (i 0) λA=>
 ld 3 A a λg=>
 ob (AV y 22 f (some (i 1)) none a) λB=>
 fd 27 1 e λC=>
 ld 25 C a λD=>
 ix 25 D g λE=>
 ld 70 E a λh=>
 ln 70 h λF=>
 jn (nB 4 (G 20 [e,n,B,g,h,F,(i 0)] a)) λk u=>U3 k λo p q=>oN [o,p,q] u)) λl v=>U3 l λr s t=>oN [r,s,t] v) (G 19)
def L20 (c:CH) (ql:QH) (us:List GV) (H:GH):RS:=U7 us λA B C ah ai D E=>jn (bn .lss 3 E D λal=>
 ob (GV.asB al) λak=>jn (bC ak (oX 4 [A,B,C] H) (oN [A,B,C,ah,ai,D,E] H)) λag N=>U7 ag λF b G f g I h=>jn (nB 5 (ix 70 g h λam=>
 ld 97 am N λan=>
 iM (sC y 97 N) λd aj=>
 iM (rC y 97 d an aj) λao a=>
 fd 97 0 d λP=>
 ld 3 P a λQ=>
 ix 22 b Q λR=>
 ld 3 R a λS=>
 bn .lss 3 S (i 0) λT=>
 ob (GV.asB T) λO=>jn (bC O (oN [F,b,G,f,g,I,h] a) (fd 97 0 d λU=>
 ld 3 U a λV=>
 ix 22 b f λW=>
 ld 3 W a λX=>
 bn .add 3 X (i 1) λY=>
 ix 22 b V λaa=>
 iM (rC y 3 aa Y a) λap e=>
 fd 97 0 d λab=>
 ld 3 ab e λac=>
 iM (zG y 22 1 [(0,ac)] e) λad J=>
 iM (PW y 22 22 G ad J) λae K=>
 oN [F,b,ae,f,g,I,h] K)) λj L=>U7 j λl m n o p q r=>oN [l,m,n,o,p,q,r] L)) λk M=>U7 k λs t u v w x z=>bn .add 3 z (i 1) λaf=>
 oN [s,t,u,v,w,x,af] M) (ql 20)
def abJ (c:CH) (e:QH) (f:List GV) (H:GH):RS:=U2 f λg h=>
 jn (nB 0 (e 27 [g,h] H)) λa d=>U1 a λb=>oR [b] d
def L27 (c:CH) (ql:QH) (us:List GV) (H:GH):RS:=U2 us λa6 R=>jn (ln 9 a6 λt8=>
 bn .lss 3 R t8 λt9=>
 ob (GV.asB t9) λaa=>jn (bC aa (oX 0 [R] H) (oN [a6,R] H)) λm e=>U2 m λb d=>jn (nB 1 (ob (vAt y 9 b d) λa=>
 jn (nB 2 (bn .eql 5 a (.int .u8 (.ofNat 32)) λj=>
 ob (GV.asB j) λab=>jn (bC ab (bn .eql 5 a (.int .u8 (.ofNat 9)) λk=>
 ob (GV.asB k) λac=>jn (bC ac (bn .eql 5 a (.int .u8 (.ofNat 10)) λl=>
 ob (GV.asB l) λad=>jn (bC ad (bn .eql 5 a (.int .u8 (.ofNat 13)) λag=>
 oN [b,d,a,ag] e) (oN [b,d,a,l] e)) λn S=>U4 n λv w x z=>oN [v,w,x,z] S) (oN [b,d,a,k] e)) λo T=>U4 o λA B C D=>oN [A,B,C,D] T) (oN [b,d,a,j] e)) λp g=>U4 p λh f E F=>ob (GV.asB F) λae=>jn (bC ae (bn .eql 5 E (.int .u8 (.ofNat 35)) λai=>
 ob (GV.asB ai) λaf=>jn (bC af (oR [f] g) (jn (nB 3 (ql 28 [h,f] g)) λq U=>U2 q λG I=>oN [G,I] U)) λr V=>U2 r λJ K=>oN [J,K] V) (bn .add 3 f (i 1) λah=>
 oN [h,ah] g)) λs W=>U2 s λL M=>oN [L,M] W)) λt X=>U2 t λN O=>oN [N,O] X)) λu Y=>U2 u λP Q=>oN [P,Q] Y) (ql 27)
def L28 (c:CH) (C:QH) (D:List GV) (H:GH):RS:=U2 D λb d=>jn (ln 9 b λu=>
 bn .lss 3 d u λa=>
 iM (rG a true H (some (b,H))) λv e=>
 iM (rG a true e (some (d,e))) λw f=>
 iM (rG a true f (ob (vAt y 9 v w) λp=>some (p,f))) λx g=>
 iM (rG a true g (ob (Di y .neq 5 x (.int .u8 (.ofNat 10))) λq=>some (q,g))) λz h=>
 ob (wN a z (.bool false)) λA=>
 ob (GV.asB A) λt=>jn (bC t (oX 3 [b,d] h) (oN [b,d] h)) λj r=>U2 j λl m=>jn (nB 4 (bn .add 3 m (i 1) λB=>
 oN [l,B] r)) λk s=>U2 k λn o=>oN [n,o] s) (C 28)
def abK (c:CH) (w:QH) (D:List GV) (H:GH):RS:=U1 D λE=>
 iM (Tg E H) λx u=>
 fd 42 0 x λz=>
 ld 9 z u λA=>
 K c 238 [A] u λB v=>
 ob (YZ .not B) λC=>
 ob (GV.asB C) λy=>jn (bC y (oN [x] v) (oR [(.bool false)] v)) λg l=>U1 g λa=>iM (Bt l) λo b=>
 fd 42 1 a λp=>
 ld 39 p b λe=>
 ln 39 e λq=>
 jn (nB 0 (w 32 [a,o,e,q,(i 0)] b)) λh m=>U1 h λk=>iM (Bt m) λr d=>
 fd 42 2 k λs=>
 ld 40 s d λf=>
 ln 40 f λt=>
 jn (nB 2 (w 33 [r,f,t,(i 0)] d)) λj n=>U0 j (oR [(.bool true)] n)
def L32 (c:CH) (ql:QH) (us:List GV) (H:GH):RS:=U5 us λf w x g h=>jn (bn .lss 3 h g λV=>
 ob (GV.asB V) λT=>jn (bC T (oX 0 [f] H) (oN [f,w,x,g,h] H)) λt n=>U5 t λz j k A l=>jn (nB 1 (ix 39 k l λW=>
 ld 85 W n λX=>
 iM (sC y 85 n) λb Q=>
 iM (rC y 85 b X Q) λak o=>
 fd 85 0 b λY=>
 ld 9 Y o λaa=>
 K c 238 [aa] o λab p=>
 ob (YZ .not ab) λa=>
 iM (rG a false p (some (j,p))) λac q=>
 iM (rG a false q (ob (ES y 85 0 b) λN=>some (N,q))) λad d=>
 iM (rG a false d (ob (wM y 9 ad d) λO=>some (O,d))) λae e=>
 iM (rG a false e (ob (RG y 232 false ac ae e) λP=>some (P,e))) λaf r=>
 ob (wN a (.bool true) af) λag=>
 ob (GV.asB ag) λU=>jn (bC U (oN [z,j,b,k,A,l] r) (oR [(.bool false)] r)) λu s=>U6 u λB m C D E F=>fd 85 0 C λah=>
 ld 9 ah s λai=>
 iM (Mi y 232 m ai (.bool true) s) λal R=>
 oN [B,m,D,E,F] R)) λv S=>U5 v λG I J L M=>bn .add 3 M (i 1) λaj=>
 oN [G,I,J,L,aj] S) (ql 32)
def L33 (c:CH) (ql:QH) (us:List GV) (H:GH):RS:=U4 us λY aa w x=>jn (bn .lss 3 x w λad=>
 ob (GV.asB ad) λac=>jn (bC ac (oX 2 [] H) (oN [Y,aa,w,x] H)) λX J=>U4 X λz A ab B=>jn (nB 3 (ix 40 A B λae=>
 ld 194 ae J λaf=>
 iM (sC y 194 J) λb F=>
 iM (rC y 194 b af F) λag g=>
 fd 194 0 b λM=>
 ld 9 M g λN=>
 K c 238 [N] g λO h=>
 ob (YZ .not O) λa=>
 iM (rG a false h (some (z,h))) λP j=>
 iM (rG a false j (ob (ES y 194 0 b) λC=>some (C,j))) λQ d=>
 iM (rG a false d (ob (wM y 9 Q d) λD=>some (D,d))) λR e=>
 iM (rG a false e (ob (RG y 232 false P R e) λE=>some (E,e))) λS k=>
 ob (wN a (.bool true) S) λT=>
 ob (GV.asB T) λL=>jn (bC L (oN [z,b,A,ab,B] k) (oR [(.bool false)] k)) λm l=>U5 m λf o p q r=>fd 194 0 o λU=>
 ld 9 U l λV=>
 iM (Mi y 232 f V (.bool true) l) λah G=>
 oN [f,p,q,r] G)) λn I=>U4 n λs t u v=>bn .add 3 v (i 1) λW=>
 oN [s,t,u,W] I) (ql 33)
def abL (c:CH) (e:QH) (g:List GV) (H:GH):RS:=U3 g λh i j=>
 ld 3 i H λf=>
 jn (nB 0 (e 44 [h,j,f] H)) λa d=>U1 a λb=>oR [b] d
def L44 (c:CH) (K:QH) (L:List GV) (H:GH):RS:=U3 L λJ s b=>jn (ld 9 s H λz=>
 ln 9 z λA=>
 bn .lss 3 b A λa=>
 iM (rG a true H (some (J,H))) λB d=>
 iM (rG a true d (ob (wM y 9 s d) λt=>some (t,d))) λC f=>
 iM (rG a true f (some (b,f))) λD g=>
 iM (rG a true g (ob (vAt y 9 C D) λu=>some (u,g))) λE h=>
 iM (rG a true h (ob (GV.asF B) λe=>iM (c e.1 (e.2.1++[E]++e.2.2) h) GJ)) λF j=>
 ob (wN a F (.bool false)) λG=>
 ob (GV.asB G) λx=>jn (bC x (oX 0 [b] j) (oN [J,s,b] j)) λk v=>U3 k λm n o=>jn (nB 1 (bn .add 3 o (i 1) λI=>
 oN [m,n,I] v)) λl w=>U3 l λp q r=>oN [p,q,r] w) (K 44)
def abM (c:CH) (B:QH) (A:List GV) (H:GH):RS:=U1 A λi=>
 bn .geq 5 i (.int .u8 (.ofNat 97)) λq=>
 iM (rG q true H (some (i,H))) λw t=>
 iM (rG q true t (ob (Di y .leq 5 w (.int .u8 (.ofNat 122))) λv=>some (v,t))) λx u=>
 ob (wN q x (.bool false)) λh=>
 iM (rG h false u (some (i,u))) λz b=>
 iM (rG h false b (ob (Di y .geq 5 z (.int .u8 (.ofNat 65))) λj=>some (j,b))) λn d=>
 iM (rG h false d (some (n,d))) λa e=>
 iM (rG a true e (some (i,e))) λo f=>
 iM (rG a true f (ob (Di y .leq 5 o (.int .u8 (.ofNat 90))) λk=>some (k,f))) λp g=>
 iM (rG h false g (ob (wN a p (.bool false)) λl=>some (l,g))) λr m=>
 ob (wN h (.bool true) r) λs=>
 oR [s] m
def abN (c:CH) (q:QH) (p:List GV) (H:GH):RS:=U1 p λi=>
 K c 230 [i] H λg j=>
 iM (rG g false j (some (i,j))) λm k=>
 iM (rG g false k (iM (c 232 [m] k) GJ)) λn l=>
 ob (wN g (.bool true) n) λh=>
 iM (rG h false l (some (i,l))) λo a=>
 iM (rG h false a (ob (Di y .eql 5 o (.int .u8 (.ofNat 95))) λb=>some (b,a))) λe d=>
 ob (wN h (.bool true) e) λf=>
 oR [f] d
def abO (c:CH) (k:QH) (j:List GV) (H:GH):RS:=U1 j λd=>
 bn .geq 5 d (.int .u8 (.ofNat 48)) λa=>
 iM (rG a true H (some (d,H))) λg b=>
 iM (rG a true b (ob (Di y .leq 5 g (.int .u8 (.ofNat 57))) λe=>some (e,b))) λh f=>
 ob (wN a h (.bool false)) λi=>
 oR [i] f
def abP (c:CH) (m:QH) (q:List GV) (H:GH):RS:=U1 q λr=>
 iM (zG y 127 9 [(0,(.str 11822 2)),(1,(.str 15917 2)),(2,(.str 15674 2)),(3,(.str 9766 2)),(4,(.str 31868 2)),(5,(.str 15677 2)),(6,(.str 15649 2)),(7,(.str 15676 2)),(8,(.str 15678 2))] H) λh k=>
 ln 127 h λn=>
 jn (nB 0 (m 46 [r,h,n,(i 0)] k)) λg l=>U1 g λj=>ob (vAt y 9 j (i 0)) λo=>
 K c 253 [(.str 172099982263598878148345807877454395 15),o] l λp a=>
 bn .geq 3 p (i 0) λf=>
 ob (GV.asB f) λe=>jn (bC e (oN [] a) (oR [(i 1)] a)) λb d=>U0 b (oR [(i 0)] d)
def L46 (c:CH) (G:QH) (I:List GV) (H:GH):RS:=U4 I λa n b d=>jn (bn .lss 3 d b λB=>
 ob (GV.asB B) λz=>jn (bC z (oX 0 [a] H) (oN [a,n,b,d] H)) λk h=>U4 k λe f o g=>jn (nB 1 (ix 127 f g λC=>
 ld 9 C h λD=>
 K c 252 [e,D] h λE j=>
 ob (GV.asB E) λA=>jn (bC A (oN [e,f,o,g] j) (oR [(i 2)] j)) λl x=>U4 l λp q r s=>oN [p,q,r,s] x)) λm y=>U4 m λt u v w=>bn .add 3 w (i 1) λF=>
 oN [t,u,v,F] y) (G 46)
def abQ (c:CH) (n:QH) (l:List GV) (H:GH):RS:=U2 l λe m=>
 K c 236 [e] H λj d=>
 bn .neq 9 j m λk=>
 ob (GV.asB k) λh=>jn (bC h (oN [e] d) (oR [(.bool false)] d)) λb g=>U1 b λf=>K c 239 [f] g λi a=>
 oR [(.bool true)] a
def abR (c:CH) (E:QH) (D:List GV) (H:GH):RS:=U1 D λv=>
 ob (GV.nilck v) λx=>
 fd 129 1 x λz=>
 ld 123 z H λA=>
 ln 123 A λB=>
 bn .eql 3 B (i 0) λC=>
 ob (GV.asB C) λw=>jn (bC w (oN [v] H) (oR [(.str 0 0)] H)) λu b=>U1 u λa=>ob (GV.nilck a) λd=>
 fd 129 0 d λe=>
 ld 9 e b λf=>
 ob (GV.nilck a) λg=>
 fd 129 1 g λh=>
 ld 123 h b λj=>
 ix 123 j (i 0) λk=>
 fd 178 1 k λl=>
 ld 3 l b λm=>
 ob (GV.nilck a) λn=>
 fd 129 1 n λo=>
 ld 123 o b λp=>
 ix 123 p (i 0) λq=>
 fd 178 2 q λr=>
 ld 3 r b λs=>
 ob (AV y 9 f (some m) (some s) b) λt=>
 oR [t] b
def abS (c:CH) (R:QH) (Q:List GV) (H:GH):RS:=U1 Q λl=>
 iM (sC y 178 H) λD o=>
 ob (GV.nilck l) λL=>
 fd 129 1 L λM=>
 ld 123 M o λN=>
 ln 123 N λO=>
 bn .eql 3 O (i 0) λP=>
 ob (GV.asB P) λE=>jn (bC E (oN [l,D] o) (K c 181 [l,(i 4)] o λF m=>
 oN [l,D] m)) λj b=>U2 j λa e=>ob (GV.nilck a) λq=>
 fd 129 1 q λr=>
 ld 123 r b λs=>
 ix 123 s (i 0) λt=>
 ld 178 t b λu=>
 iM (sC y 178 b) λh n=>
 iM (rC y 178 h u n) λG d=>
 ob (GV.nilck a) λv=>
 fd 129 1 v λw=>
 ld 123 w d λx=>
 ob (AV y 123 x (some (i 1)) none d) λz=>
 ob (GV.nilck a) λA=>
 fd 129 1 A λB=>
 iM (rC y 123 B z d) λI f=>
 ld 178 h f λC=>
 iM (rC y 178 e C f) λJ g=>
 ob (ob (wM y 178 e g) λp=>some [p]) λk=>oR k g
def abT (c:CH) (g:QH) (d:List GV) (H:GH):RS:=U2 d λe f=>
 K c 265 [e,f] H λb a=>
 oR [b] a
def abU (c:CH) (q:QH) (t:List GV) (H:GH):RS:=U2 t λl m=>
 bn .eql 3 m (i 6) λr=>
 ob (GV.asB r) λp=>jn (bC p (oN [l,m] H) (K c 268 [l] H λs n=>
 oR [s] n)) λj o=>U2 j λk a=>bn .add 3 a (i 1) λg=>
 K c 256 [k,g] o λh e=>
 jn (nB 0 (q 50 [k,a,h] e)) λb f=>U1 b λd=>oR [d] f
def L50 (c:CH) (Y:QH) (us:List GV) (H:GH):RS:=U3 us λf g h=>jn (jn (nB 1 (K c 236 [f] H λO D=>
 K c 269 [O] D λe j=>
 bn .eql 3 e (i 0) λa=>
 iM (rG a false j (some (e,j))) λP k=>
 iM (rG a false k (iM (c 270 [P] k) GJ)) λQ l=>
 iM (rG a false l (some (g,l))) λR m=>
 iM (rG a false m (ob (Di y .neq 3 Q R) λC=>some (C,m))) λS n=>
 ob (wN a (.bool true) S) λT=>
 ob (GV.asB T) λM=>jn (bC M (oN [f,g,h,e] n) (oR [h] n)) λq E=>U4 q λb d t u=>K c 239 [b] E λaa F=>
 bn .add 3 d (i 1) λU=>
 K c 256 [b,U] F λV G=>
 iM (zG y 257 2 [(0,t),(1,V)] G) λW I=>
 K c 257 [u,W] I λp o=>
 bn .eql 3 d (i 3) λX=>
 ob (GV.asB X) λN=>jn (bC N (oN [b,d,p] o) (oR [p] o)) λr J=>U3 r λv w x=>oN [v,w,x] J)) λs L=>U3 s λz A B=>oN [z,A,B] L) (Y 50)
def abV (c:CH) (g:QH) (k:List GV) (H:GH):RS:=U2 k λl b=>
 K c 271 [l,(i 0)] H λh e=>
 ln 257 b λj=>
 jn (nB 0 (g 51 [h,b,j,(i 0)] e)) λa f=>U1 a λd=>oR [d] f
def L51 (c:CH) (A:QH) (B:List GV) (H:GH):RS:=U4 B λz j a b=>jn (bn .lss 3 b a λt=>
 ob (GV.asB t) λs=>jn (bC s (oX 0 [z] H) (oN [z,j,a,b] H)) λg f=>U4 g λk d l e=>jn (nB 1 (ix 257 d e λu=>
 ld 191 u f λv=>
 iM (PW y 191 191 k v f) λw q=>
 oN [w,d,l,e] q)) λh r=>U4 h λm n o p=>bn .add 3 p (i 1) λx=>
 oN [m,n,o,x] r) (A 51)
def abW (c:CH) (u:QH) (z:List GV) (H:GH):RS:=U2 z λs p=>
 bn .lss 3 p (i 0) λd=>
 iM (rG d false H (some (p,H))) λv q=>
 iM (rG d false q (some (s,q))) λw r=>
 iM (rG d false r (ob (PZ y 191 w) λt=>some (t,r))) λx a=>
 iM (rG d false a (ob (Di y .geq 3 v x) λj=>some (j,a))) λn b=>
 ob (wN d (.bool true) n) λo=>
 ob (GV.asB o) λm=>jn (bC m (oN [s,p] b) (oR [(.int .i64 (.negSucc 0))] b)) λe k=>U2 e λg h=>jn (nB 0 (u 53 [g,h,(i 1)] k)) λf l=>U0 f (oR [(.int .i64 (.negSucc 0))] l)
def L53 (c:CH) (S:QH) (T:List GV) (H:GH):RS:=U3 T λa b q=>jn (ln 191 a λG=>
 bn .lss 3 b G λI=>
 ob (GV.asB I) λD=>jn (bC D (oX 0 [] H) (oN [a,b,q] H)) λm g=>U3 m λd e r=>jn (nB 1 (ix 191 d e λJ=>
 fd 248 0 J λL=>
 ld 3 L g λM=>
 K c 272 [M] g λk h=>
 bn .lss 3 k (i 0) λN=>
 ob (GV.asB N) λE=>jn (bC E (oN [d,e,r,k] h) (oR [(.int .i64 (.negSucc 0))] h)) λn j=>U4 n λs f t u=>bn .sub 3 u (i 1) λO=>
 bn .add 3 t O λl=>
 bn .eql 3 l (i 0) λP=>
 ob (GV.asB P) λF=>jn (bC F (oN [s,f,l] j) (bn .add 3 f (i 1) λQ=>
 oR [Q] j)) λo B=>U3 o λv w x=>oN [v,w,x] B)) λp C=>U3 p λy z A=>bn .add 3 z (i 1) λR=>
 oN [y,R,A] C) (S 53)
def abX (c:CH) (x:QH) (w:List GV) (H:GH):RS:=U2 w λr o=>
 ln 9 r λs=>
 ln 9 o λt=>
 bn .geq 3 s t λb=>
 iM (rG b true H (some (r,H))) λu p=>
 iM (rG b true p (some (o,p))) λv q=>
 iM (rG b true q (ob (PZ y 9 v) λf=>some (f,q))) λj a=>
 iM (rG b true a (ob (AV y 9 u none (some j) a) λg=>some (g,a))) λk d=>
 iM (rG b true d (some (o,d))) λl e=>
 iM (rG b true e (ob (Di y .eql 9 k l) λh=>some (h,e))) λm i=>
 ob (wN b m (.bool false)) λn=>
 oR [n] i
def abY (c:CH) (h:QH) (f:List GV) (H:GH):RS:=U1 f λg=>
 K c 287 [] H λd a=>
 K c 286 [g,(i 30),d] a λe b=>
 oR [e] b
def abZ (c:CH) (D:QH) (C:List GV) (H:GH):RS:=U1 C λh=>
 jn (nB 0 (bn .lss 3 h (i 1) λu=>
 iM (rG u false H (some (h,H))) λz v=>
 iM (rG u false v (ob (Di y .gtr 3 z (i 43)) λw=>some (w,v))) λA a=>
 ob (wN u (.bool true) A) λB=>
 ob (GV.asB B) λx=>jn (bC x (bn .leq 3 h (i 17) λr=>
 ob (GV.asB r) λo=>jn (bC o (bn .leq 3 h (i 29) λs=>
 ob (GV.asB s) λp=>jn (bC p (bn .leq 3 h (i 42) λt=>
 ob (GV.asB t) λq=>jn (bC q (oN [] a) (oR [(i 2)] a)) λb j=>U0 b (oN [] j)) (oR [(i 1)] a)) λd k=>U0 d (oN [] k)) (oR [(i 0)] a)) λe l=>U0 e (oN [] l)) (oR [(.int .i64 (.negSucc 0))] a)) λf m=>U0 f (oN [] m))) λg n=>U0 g (oR [(i 3)] n)
def ab_ (c:CH) (q:QH) (u:List GV) (H:GH):RS:=U2 u λm v=>
 K c 259 [m,(i 0)] H λr n=>
 ln 191 m λs=>
 bn .neq 3 r s λt=>
 ob (GV.asB t) λp=>jn (bC p (oN [m,v] n) (oR [(i 0),(.bool false)] n)) λl o=>U2 l λa e=>ln 191 a λg=>
 bn .sub 3 g (i 1) λh=>
 jn (nB 0 (q 55 [a,e,.snil,h] o)) λd b=>U1 d λf=>ix 22 f (i 0) λj=>
 ld 3 j b λk=>
 oR [k,(.bool true)] b
def L55 (c:CH) (ql:QH) (us:List GV) (H:GH):RS:=U4 us λt u e f=>jn (bn .geq 3 f (i 0) λL=>
 ob (GV.asB L) λJ=>jn (bC J (oX 0 [e] H) (oN [t,u,e,f] H)) λq m=>U4 q λg v a h=>jn (nB 1 (ln 22 a λM=>
 ix 191 g h λN=>
 fd 248 0 N λO=>
 ld 3 O m λP=>
 K c 272 [P] m λQ n=>
 bn .sub 3 M Q λo=>
 ob (AV y 22 a (some o) none n) λp=>
 ln 22 p λR=>
 jn (nB 2 (ql 56 [g,v,a,h,o,(i 0),p,R,(i 0)] n)) λr b=>U6 r λj k w l x z=>ob (AV y 22 w none (some x) b) λS=>
 ix 191 j l λT=>
 fd 248 0 T λU=>
 ld 3 U b λV=>
 ob (GV.asF k) λd=>iM (c d.1 (d.2.1++[V,z]++d.2.2) b) λW E=>
 iM (zG y 22 1 [(0,W)] E) λX F=>
 iM (PW y 22 22 S X F) λY G=>
 oN [j,k,Y,l] G)) λs I=>U4 s λA B C D=>bn .sub 3 D (i 1) λaa=>
 oN [A,B,C,aa] I) (ql 55)
def L56 (c:CH) (O:QH) (P:List GV) (H:GH):RS:=U9 P λd e f g h j s k l=>jn (bn .lss 3 l k λK=>
 ob (GV.asB K) λJ=>jn (bC J (oX 2 [d,e,f,g,h,j] H) (oN [d,e,f,g,h,j,s,k,l] H)) λq o=>U9 q λt u v w x y m z n=>jn (nB 3 (ix 22 m n λL=>
 ld 3 L o λM=>
 ob (Wj y M) λN=>
 oN [t,u,v,w,x,N,m,z,n] o)) λr I=>U9 r λA B C D E F G a b=>bn .add 3 b (i 1) λp=>
 oN [A,B,C,D,E,F,G,a,p] I) (O 56)
def aca (c:CH) (e:QH) (b:List GV) (H:GH):RS:=U2 b λf d=>
 bn .add 3 d (i 1) λa=>
 oR [a] H
def acb (c:CH) (m:QH) (k:List GV) (H:GH):RS:=U2 k λl d=>
 K c 276 [l] H λh b=>
 ob (GV.asB h) λg=>jn (bC g (oN [d] b) (bn .add 3 d (i 1) λj=>
 oR [j] b)) λa f=>U1 a λe=>oR [e] f
def acd (c:CH) (l:QH) (k:List GV) (H:GH):RS:=U1 k λd=>
 bn .geq 3 d (i 20) λa=>
 iM (rG a true H (some (d,H))) λg b=>
 iM (rG a true b (ob (Di y .leq 3 g (i 29)) λe=>some (e,b))) λh f=>
 ob (wN a h (.bool false)) λj=>
 oR [j] f
def ace (c:CH) (m:QH) (o:List GV) (H:GH):RS:=U3 o λg p q=>
 bn .eql 9 g (.str 0 0) λn=>
 ob (GV.asB n) λl=>jn (bC l (oN [g,p,q] H) (oR [(i 0)] H)) λf k=>U3 f λh j a=>ln 127 a λe=>
 jn (nB 0 (m 58 [h,j,a,e,(i 0)] k)) λb d=>U0 b (oR [(i 0)] d)
def L58 (c:CH) (L:QH) (M:List GV) (H:GH):RS:=U5 M λm n o d e=>jn (bn .lss 3 e d λE=>
 ob (GV.asB E) λC=>jn (bC C (oX 0 [] H) (oN [m,n,o,d,e] H)) λj b=>U5 j λf g h p a=>jn (nB 1 (ix 127 h a λF=>
 ld 9 F b λG=>
 bn .eql 9 G f λI=>
 ob (GV.asB I) λD=>jn (bC D (oN [f,g,h,p,a] b) (bn .add 3 g a λJ=>
 oR [J] b)) λk A=>U5 k λq r s t u=>oN [q,r,s,t,u] A)) λl B=>U5 l λv w x y z=>bn .add 3 z (i 1) λK=>
 oN [v,w,x,y,K] B) (L 58)
def acf (c:CH) (ql:QH) (us:List GV) (H:GH):RS:=U2 us λb a=>
 jn (nB 0 (bn .eql 3 b (i 20) λt3=>
 ob (GV.asB t3) λq4=>jn (bC q4 (bn .eql 3 b (i 21) λao=>
 ob (GV.asB ao) λaf=>jn (bC af (bn .eql 3 b (i 22) λau=>
 ob (GV.asB au) λag=>jn (bC ag (bn .eql 3 b (i 23) λaw=>
 ob (GV.asB aw) λah=>jn (bC ah (bn .eql 3 b (i 24) λay=>
 ob (GV.asB ay) λai=>jn (bC ai (bn .eql 3 b (i 25) λaA=>
 ob (GV.asB aA) λaj=>jn (bC aj (bn .eql 3 b (i 26) λaC=>
 ob (GV.asB aC) λak=>jn (bC ak (bn .eql 3 b (i 27) λaF=>
 ob (GV.asB aF) λal=>jn (bC al (bn .eql 3 b (i 28) λaH=>
 ob (GV.asB aH) λam=>jn (bC am (oN [a] H) (K c 301 [a] H λh U=>
 ex 0 h λaO=>
 ex 1 h λaI=>
 oR [aI] U)) λl V=>U1 l λy=>oN [y] V) (K c 302 [a] H λaG T=>
 oR [aG] T)) λm W=>U1 m λz=>oN [z] W) (ln 22 a λaD=>
 jn (nB 3 (ql 60 [(i 0),a,aD,(i 0)] H)) λk R=>U1 k λx=>K c 292 [x] R λaE S=>
 oR [aE] S)) λn X=>U1 n λA=>oN [A] X) (K c 301 [a] H λg Q=>
 ex 0 g λaB=>
 ex 1 g λaN=>
 oR [aB] Q)) λo Y=>U1 o λB=>oN [B] Y) (ln 22 a λaz=>
 jn (nB 1 (ql 59 [(i 1073741824),a,az,(i 0)] H)) λj P=>U1 j λw=>oR [w] P)) λp aa=>U1 p λC=>oN [C] aa) (K c 299 [a,(.fn 300 [] [])] H λax O=>
 oR [ax] O)) λq ab=>U1 q λD=>oN [D] ab) (K c 298 [a] H λav N=>
 oR [av] N)) λr ac=>U1 r λE=>oN [E] ac) (K c 298 [a] H λap L=>
 bn .gtr 3 ap (i 0) λaq=>
 K c 290 [aq] L λar M=>
 oR [ar] M)) λs ad=>U1 s λF=>oN [F] ad) (K c 298 [a] H λt5 h6=>
 ln 22 a λt7=>
 bn .eql 3 t5 t7 λt8=>
 K c 290 [t8] h6 λt9 J=>
 oR [t9] J)) λt ae=>U1 t λG=>oN [G] ae)) λu e=>U1 u λd=>ln 22 d λaJ=>
 bn .eql 3 aJ (i 0) λaK=>
 ob (GV.asB aK) λan=>jn (bC an (oN [d] e) (oR [(i 0)] e)) λv f=>U1 v λI=>ix 22 I (i 0) λaL=>
 ld 3 aL f λaM=>
 oR [aM] f
def L59 (c:CH) (y:QH) (z:List GV) (H:GH):RS:=U4 z λn v o p=>jn (bn .lss 3 p o λx=>
 ob (GV.asB x) λw=>jn (bC w (oX 1 [n] H) (oN [n,v,o,p] H)) λe d=>U4 e λg a h b=>jn (nB 2 (ix 22 a b λr=>
 ld 3 r d λs=>
 ob (Wk g s) λt=>
 oN [t,a,h,b] d)) λf q=>U4 f λj k l m=>bn .add 3 m (i 1) λu=>
 oN [j,k,l,u] q) (y 59)
def L60 (c:CH) (y:QH) (z:List GV) (H:GH):RS:=U4 z λa k b d=>jn (bn .lss 3 d b λt=>
 ob (GV.asB t) λs=>jn (bC s (oX 3 [a] H) (oN [a,k,b,d] H)) λh g=>U4 h λl e m f=>jn (nB 4 (ix 22 e f λu=>
 ld 3 u g λv=>
 bn .add 3 l v λw=>
 oN [w,e,m,f] g)) λj r=>U4 j λn o p q=>bn .add 3 q (i 1) λx=>
 oN [n,o,p,x] r) (y 60)
def d0:(Code×Cx)×fM:=gD1 (cF Tryz.f36 [1,1,0,1,0,0],iJ Tryz.f36 [(0,0)]) 1 0 1
def d1:(Code×Cx)×fM:=gD (cF Tryz.f36 [1,1,0,1,0,0,1,1,0,0,1,1,1,0,0],iJ Tryz.f36 [(2,3670028),(1,3670028),(0,0)]) 1
def d2:(Code×Cx)×fM:=gD (cF Tryz.f37 [1,1,1,0,1,0,0],iJ Tryz.f37 [(0,8)]) 2
def d3:(Code×Cx)×fM:=gD (cF Tryz.f40 [1,0,1,0,0],iJ Tryz.f40 [(0,0)]) 3
def d4:(Code×Cx)×fM:=gD (cF Tryz.f42 [1,1,0,1,0,0],iJ Tryz.f42 [(0,0)]) 4
def d5:(Code×Cx)×fM:=gD (cF Tryz.f43 [1,1,0,1,0,0],iJ Tryz.f43 [(0,0)]) 5
def d6:(Code×Cx)×fM:=gD (cF Tryz.f53 [1,1,1,0,1,0,0],iJ Tryz.f53 [(0,0)]) 6
def d7:(Code×Cx)×fM:=gD1 (cF Tryz.f97 [1,1,0,1,0,0],iJ Tryz.f97 [(0,32)]) 1 7 8
def d8:(Code×Cx)×fM:=gD (cF Tryz.f97 [1,1,0,1,0,0,1,1,0,0,1,1,1,0,0],iJ Tryz.f97 [(2,49196),(1,49196),(0,32)]) 8
def d9:(Code×Cx)×fM:=gD (cF Tryz.f98 [1,1,0,1,0,0],iJ Tryz.f98 [(0,8)]) 9
def d10:(Code×Cx)×fM:=gD1 (cF Tryz.f104 [1,1,0,1,0,0],iJ Tryz.f104 [(0,8)]) 1 10 11
def d11:(Code×Cx)×fM:=gD (cF Tryz.f104 [1,1,0,1,0,0,1,1,0,0,1,1,0,0],iJ Tryz.f104 [(2,57352),(1,57352),(0,8)]) 11
def d12:(Code×Cx)×fM:=gD (cF Tryz.f106 [1,1,1,1,1,1,1,0,1,0,0],iJ Tryz.f106 [(0,5378)]) 12
def d13:(Code×Cx)×fM:=((cF Tryz.f109 [1,1,1,0,1,0,0],iJ Tryz.f109 [(0,32)]),L13)
def d14:(Code×Cx)×fM:=((cF Tryz.f112 [1,1,1,0,1,0,0],iJ Tryz.f112 [(0,2)]),L14)
def d15:(Code×Cx)×fM:=((cF Tryz.f112 [1,1,1,1,0,1,0,0],iJ Tryz.f112 [(2,2)]),L15)
def d16:(Code×Cx)×fM:=((cF Tryz.f112 [1,1,1,1,1,1,0,1,0,0],iJ Tryz.f112 [(4,0)]),L16)
def d17:(Code×Cx)×fM:=gD (cF Tryz.f113 [1,0,1,0,0],iJ Tryz.f113 [(0,0)]) 17
def d18:(Code×Cx)×fM:=((cF Tryz.f115 [1,1,0,1,0,0],iJ Tryz.f115 [(0,38)]),L18)
def d19:(Code×Cx)×fM:=((cF Tryz.f115 [1,1,1,1,1,0,0,0],iJ Tryz.f115 [(2,32)]),L19)
def d20:(Code×Cx)×fM:=((cF Tryz.f115 [1,1,1,1,1,0,0,0,1,0,1,1,1,0,0],iJ Tryz.f115 [(4,164),(3,164),(2,32)]),L20)
def d21:(Code×Cx)×fM:=gD (cF Tryz.f160 [1,1,1,0,1,0,0],iJ Tryz.f160 [(0,0)]) 21
def d22:(Code×Cx)×fM:=gD (cF Tryz.f161 [1,1,0,1,0,0],iJ Tryz.f161 [(0,0)]) 22
def d23:(Code×Cx)×fM:=gD (cF Tryz.f162 [1,1,0,1,0,0],iJ Tryz.f162 [(0,0)]) 23
def d24:(Code×Cx)×fM:=gD1 (cF Tryz.f164 [1,1,0,1,0,0],iJ Tryz.f164 [(0,32)]) 1 24 25
def d25:(Code×Cx)×fM:=gD (cF Tryz.f164 [1,1,0,1,0,0,1,1,0,0,1,1,1,0,0],iJ Tryz.f164 [(2,3670056),(1,3670056),(0,32)]) 25
def d26:(Code×Cx)×fM:=gD (cF Tryz.f168 [1,1,0,1,0,0],iJ Tryz.f168 [(0,128)]) 26
def d27:(Code×Cx)×fM:=((cF Tryz.f171 [1,0,0,0],iJ Tryz.f171 [(0,2)]),L27)
def d28:(Code×Cx)×fM:=((cF Tryz.f171 [1,0,0,0,1,0,1,0,1,1,1,0,0,0],iJ Tryz.f171 [(3,3),(2,3),(1,3),(0,2)]),L28)
def d29:(Code×Cx)×fM:=gD (cF Tryz.f176 [1,1,1,0,1,0,0],iJ Tryz.f176 [(0,33)]) 29
def d30:(Code×Cx)×fM:=gD (cF Tryz.f177 [1,0,0],iJ Tryz.f177 [(0,0)]) 30
def d31:(Code×Cx)×fM:=gD (cF Tryz.f179 [1,1,1,1,1,0,0,0],iJ Tryz.f179 [(0,5)]) 31
def d32:(Code×Cx)×fM:=((cF Tryz.f182 [1,1,1,0,1,0,0],iJ Tryz.f182 [(0,2)]),L32)
def d33:(Code×Cx)×fM:=((cF Tryz.f182 [1,1,1,1,1,0,1,0,0],iJ Tryz.f182 [(2,0)]),L33)
def d34:(Code×Cx)×fM:=gD (cF Tryz.f184 [1,1,1,0,1,0,0],iJ Tryz.f184 [(0,0)]) 34
def d35:(Code×Cx)×fM:=gD (cF Tryz.f185 [1,1,0,1,0,0],iJ Tryz.f185 [(0,8)]) 35
def d36:(Code×Cx)×fM:=gD (cF Tryz.f186 [1,1,0,1,0,0],iJ Tryz.f186 [(0,0)]) 36
def d37:(Code×Cx)×fM:=gD (cF Tryz.f197 [1,0,1,0,0],iJ Tryz.f197 [(0,0)]) 37
def d38:(Code×Cx)×fM:=gD (cF Tryz.f199 [1,1,0,1,0,0],iJ Tryz.f199 [(0,8)]) 38
def d39:(Code×Cx)×fM:=gD (cF Tryz.f216 [1,1,0,1,0,0],iJ Tryz.f216 [(0,0)]) 39
def d40:(Code×Cx)×fM:=gD (cF Tryz.f220 [1,1,0,1,0,0],iJ Tryz.f220 [(0,32)]) 40
def d41:(Code×Cx)×fM:=gD (cF Tryz.f222 [1,0,1,0,0],iJ Tryz.f222 [(0,0)]) 41
def d42:(Code×Cx)×fM:=gD (cF Tryz.f224 [1,1,0,1,0,0],iJ Tryz.f224 [(0,512)]) 42
def d43:(Code×Cx)×fM:=gD (cF Tryz.f226 [1,0,1,0,0],iJ Tryz.f226 [(0,0)]) 43
def d44:(Code×Cx)×fM:=((cF Tryz.f229 [1,1,0,0,0],iJ Tryz.f229 [(0,32)]),L44)
def d45:(Code×Cx)×fM:=gD (cF Tryz.f233 [1,1,1,0,1,0,0],iJ Tryz.f233 [(0,16)]) 45
def d46:(Code×Cx)×fM:=((cF Tryz.f234 [1,0,1,0,0],iJ Tryz.f234 [(0,1)]),L46)
def d47:(Code×Cx)×fM:=gD (cF Tryz.f238 [1,1,0,1,0,0],iJ Tryz.f238 [(0,1)]) 47
def d48:(Code×Cx)×fM:=gD (cF Tryz.f246 [1,1,0,1,0,0],iJ Tryz.f246 [(0,1)]) 48
def d49:(Code×Cx)×fM:=gD (cF Tryz.f247 [1,1,0,1,0,0],iJ Tryz.f247 [(0,7)]) 49
def d50:(Code×Cx)×fM:=((cF Tryz.f256 [1,1,1,0,0],iJ Tryz.f256 [(0,16)]),L50)
def d51:(Code×Cx)×fM:=((cF Tryz.f257 [1,1,0,1,0,0],iJ Tryz.f257 [(0,32)]),L51)
def d52:(Code×Cx)×fM:=gD (cF Tryz.f258 [1,0,1,0,0],iJ Tryz.f258 [(0,0)]) 52
def d53:(Code×Cx)×fM:=((cF Tryz.f259 [1,1,0,1,0,0],iJ Tryz.f259 [(0,0)]),L53)
def d54:(Code×Cx)×fM:=gD (cF Tryz.f263 [1,1,1,1,1,1,0,1,0,0],iJ Tryz.f263 [(0,1408)]) 54
def d55:(Code×Cx)×fM:=((cF Tryz.f273 [1,1,1,0,1,0,0],iJ Tryz.f273 [(0,64)]),L55)
def d56:(Code×Cx)×fM:=((cF Tryz.f273 [1,1,1,0,1,0,0,1,0,0,1,1,0,1,0,0],iJ Tryz.f273 [(2,963),(1,195),(0,64)]),L56)
def d57:(Code×Cx)×fM:=gD (cF Tryz.f282 [1,1,1,0,1,0,0],iJ Tryz.f282 [(0,903)]) 57
def d58:(Code×Cx)×fM:=((cF Tryz.f286 [1,1,0,1,0,0],iJ Tryz.f286 [(0,0)]),L58)
def d59:(Code×Cx)×fM:=((cF Tryz.f291 [1,0,1,0,1,1,1,1,1,1,1,1,1,0,1,0,1,0,0],iJ Tryz.f291 [(1,32),(0,2)]),L59)
def d60:(Code×Cx)×fM:=((cF Tryz.f291 [1,0,1,0,1,1,1,1,1,1,1,1,1,1,1,1,1,0,1,0,1,0,0],iJ Tryz.f291 [(3,1024),(0,2)]),L60)
def d61:(Code×Cx)×fM:=gD (cF Tryz.f298 [1,1,0,1,0,0],iJ Tryz.f298 [(0,8)]) 61
def d62:(Code×Cx)×fM:=gD (cF Tryz.f299 [1,0,1,0,0],iJ Tryz.f299 [(0,0)]) 62
def d63:(Code×Cx)×fM:=gD (cF Tryz.f301 [1,1,0,1,0,0],iJ Tryz.f301 [(0,12)]) 63
def d64:(Code×Cx)×fM:=gD (cF Tryz.f302 [1,1,0,0,0],iJ Tryz.f302 [(0,8)]) 64
def Rm (f:Nat):Option (Func×fM):=(tN f 230 (tN f 160 (tN f 97 (tN f 37 (tN f 28 (tN f 16 (tN f 7 (tL f 6 (Tryz.f6,(gB Tryz.f6))) (tL f 7 (Tryz.f7,(gB Tryz.f7)))) (tN f 27 (tL f 16 (Tryz.f16,(gB Tryz.f16))) (tL f 27 (Tryz.f27,(gB Tryz.f27))))) (tN f 30 (tN f 29 (tL f 28 (Tryz.f28,(gB Tryz.f28))) (tL f 29 (Tryz.f29,(gB Tryz.f29)))) (tN f 31 (tL f 30 (Tryz.f30,(gB Tryz.f30))) (tN f 36 (tL f 31 (Tryz.f31,(gB Tryz.f31))) (tL f 36 (Tryz.f36,(qB Tryz.f36 0))))))) (tN f 43 (tN f 40 (tN f 39 (tL f 37 (Tryz.f37,(qB Tryz.f37 2))) (tL f 39 (Tryz.f39,(gB Tryz.f39)))) (tN f 42 (tL f 40 (Tryz.f40,(qB Tryz.f40 3))) (tL f 42 (Tryz.f42,(qB Tryz.f42 4))))) (tN f 53 (tN f 52 (tL f 43 (Tryz.f43,(qB Tryz.f43 5))) (tL f 52 (Tryz.f52,(gB Tryz.f52)))) (tN f 54 (tL f 53 (Tryz.f53,(qB Tryz.f53 6))) (tN f 96 (tL f 54 (Tryz.f54,(gB Tryz.f54))) (tL f 96 (Tryz.f96,(gB Tryz.f96)))))))) (tN f 109 (tN f 103 (tN f 99 (tN f 98 (tL f 97 (Tryz.f97,(qB Tryz.f97 7))) (tL f 98 (Tryz.f98,(qB Tryz.f98 9)))) (tN f 102 (tL f 99 (Tryz.f99,(gB Tryz.f99))) (tL f 102 (Tryz.f102,(gB Tryz.f102))))) (tN f 105 (tN f 104 (tL f 103 (Tryz.f103,(gB Tryz.f103))) (tL f 104 (Tryz.f104,(qB Tryz.f104 10)))) (tN f 106 (tL f 105 (Tryz.f105,(gB Tryz.f105))) (tN f 107 (tL f 106 (Tryz.f106,(qB Tryz.f106 12))) (tL f 107 (Tryz.f107,(gB Tryz.f107))))))) (tN f 123 (tN f 112 (tN f 111 (tL f 109 (Tryz.f109,abG)) (tL f 111 (Tryz.f111,(gB Tryz.f111)))) (tN f 113 (tL f 112 (Tryz.f112,abH)) (tN f 115 (tL f 113 (Tryz.f113,(qB Tryz.f113 17))) (tL f 115 (Tryz.f115,abI))))) (tN f 125 (tN f 124 (tL f 123 (Tryz.f123,(gB Tryz.f123))) (tL f 124 (Tryz.f124,(gB Tryz.f124)))) (tN f 126 (tL f 125 (Tryz.f125,(gB Tryz.f125))) (tN f 140 (tL f 126 (Tryz.f126,(gB Tryz.f126))) (tL f 140 (Tryz.f140,(gB Tryz.f140))))))))) (tN f 183 (tN f 172 (tN f 165 (tN f 162 (tN f 161 (tL f 160 (Tryz.f160,(qB Tryz.f160 21))) (tL f 161 (Tryz.f161,(qB Tryz.f161 22)))) (tN f 164 (tL f 162 (Tryz.f162,(qB Tryz.f162 23))) (tL f 164 (Tryz.f164,(qB Tryz.f164 24))))) (tN f 168 (tN f 166 (tL f 165 (Tryz.f165,(gB Tryz.f165))) (tL f 166 (Tryz.f166,(gB Tryz.f166)))) (tN f 169 (tL f 168 (Tryz.f168,(qB Tryz.f168 26))) (tN f 171 (tL f 169 (Tryz.f169,(gB Tryz.f169))) (tL f 171 (Tryz.f171,abJ)))))) (tN f 178 (tN f 176 (tN f 175 (tL f 172 (Tryz.f172,(gB Tryz.f172))) (tL f 175 (Tryz.f175,(gB Tryz.f175)))) (tN f 177 (tL f 176 (Tryz.f176,(qB Tryz.f176 29))) (tL f 177 (Tryz.f177,(qB Tryz.f177 30))))) (tN f 180 (tN f 179 (tL f 178 (Tryz.f178,(gB Tryz.f178))) (tL f 179 (Tryz.f179,(qB Tryz.f179 31)))) (tN f 181 (tL f 180 (Tryz.f180,(gB Tryz.f180))) (tN f 182 (tL f 181 (Tryz.f181,(gB Tryz.f181))) (tL f 182 (Tryz.f182,abK))))))) (tN f 217 (tN f 197 (tN f 185 (tN f 184 (tL f 183 (Tryz.f183,(gB Tryz.f183))) (tL f 184 (Tryz.f184,(qB Tryz.f184 34)))) (tN f 186 (tL f 185 (Tryz.f185,(qB Tryz.f185 35))) (tL f 186 (Tryz.f186,(qB Tryz.f186 36))))) (tN f 199 (tN f 198 (tL f 197 (Tryz.f197,(qB Tryz.f197 37))) (tL f 198 (Tryz.f198,(gB Tryz.f198)))) (tN f 215 (tL f 199 (Tryz.f199,(qB Tryz.f199 38))) (tN f 216 (tL f 215 (Tryz.f215,(gB Tryz.f215))) (tL f 216 (Tryz.f216,(qB Tryz.f216 39))))))) (tN f 222 (tN f 219 (tN f 218 (tL f 217 (Tryz.f217,(gB Tryz.f217))) (tL f 218 (Tryz.f218,(gB Tryz.f218)))) (tN f 220 (tL f 219 (Tryz.f219,(gB Tryz.f219))) (tN f 221 (tL f 220 (Tryz.f220,(qB Tryz.f220 40))) (tL f 221 (Tryz.f221,(gB Tryz.f221)))))) (tN f 225 (tN f 224 (tL f 222 (Tryz.f222,(qB Tryz.f222 41))) (tL f 224 (Tryz.f224,(qB Tryz.f224 42)))) (tN f 226 (tL f 225 (Tryz.f225,(gB Tryz.f225))) (tN f 229 (tL f 226 (Tryz.f226,(qB Tryz.f226 43))) (tL f 229 (Tryz.f229,abL))))))))) (tN f 269 (tN f 250 (tN f 239 (tN f 234 (tN f 232 (tN f 231 (tL f 230 (Tryz.f230,abM)) (tL f 231 (Tryz.f231,abN))) (tN f 233 (tL f 232 (Tryz.f232,abO)) (tL f 233 (Tryz.f233,(qB Tryz.f233 45))))) (tN f 236 (tN f 235 (tL f 234 (Tryz.f234,abP)) (tL f 235 (Tryz.f235,abQ))) (tN f 237 (tL f 236 (Tryz.f236,abR)) (tN f 238 (tL f 237 (Tryz.f237,(gB Tryz.f237))) (tL f 238 (Tryz.f238,(qB Tryz.f238 47))))))) (tN f 243 (tN f 241 (tN f 240 (tL f 239 (Tryz.f239,abS)) (tL f 240 (Tryz.f240,(gB Tryz.f240)))) (tN f 242 (tL f 241 (Tryz.f241,(gB Tryz.f241))) (tL f 242 (Tryz.f242,(gB Tryz.f242))))) (tN f 245 (tN f 244 (tL f 243 (Tryz.f243,(gB Tryz.f243))) (tL f 244 (Tryz.f244,(gB Tryz.f244)))) (tN f 246 (tL f 245 (Tryz.f245,(gB Tryz.f245))) (tN f 247 (tL f 246 (Tryz.f246,(qB Tryz.f246 48))) (tL f 247 (Tryz.f247,(qB Tryz.f247 49)))))))) (tN f 259 (tN f 254 (tN f 252 (tN f 251 (tL f 250 (Tryz.f250,(gB Tryz.f250))) (tL f 251 (Tryz.f251,(gB Tryz.f251)))) (tN f 253 (tL f 252 (Tryz.f252,abT)) (tL f 253 (Tryz.f253,(gB Tryz.f253))))) (tN f 256 (tN f 255 (tL f 254 (Tryz.f254,(gB Tryz.f254))) (tL f 255 (Tryz.f255,(gB Tryz.f255)))) (tN f 257 (tL f 256 (Tryz.f256,abU)) (tN f 258 (tL f 257 (Tryz.f257,abV)) (tL f 258 (Tryz.f258,(qB Tryz.f258 52))))))) (tN f 264 (tN f 261 (tN f 260 (tL f 259 (Tryz.f259,abW)) (tL f 260 (Tryz.f260,(gB Tryz.f260)))) (tN f 262 (tL f 261 (Tryz.f261,(gB Tryz.f261))) (tN f 263 (tL f 262 (Tryz.f262,(gB Tryz.f262))) (tL f 263 (Tryz.f263,(qB Tryz.f263 54)))))) (tN f 266 (tN f 265 (tL f 264 (Tryz.f264,(gB Tryz.f264))) (tL f 265 (Tryz.f265,abX))) (tN f 267 (tL f 266 (Tryz.f266,(gB Tryz.f266))) (tN f 268 (tL f 267 (Tryz.f267,(gB Tryz.f267))) (tL f 268 (Tryz.f268,(gB Tryz.f268))))))))) (tN f 289 (tN f 278 (tN f 273 (tN f 271 (tN f 270 (tL f 269 (Tryz.f269,abY)) (tL f 270 (Tryz.f270,(gB Tryz.f270)))) (tN f 272 (tL f 271 (Tryz.f271,(gB Tryz.f271))) (tL f 272 (Tryz.f272,abZ)))) (tN f 275 (tN f 274 (tL f 273 (Tryz.f273,ab_)) (tL f 274 (Tryz.f274,aca))) (tN f 276 (tL f 275 (Tryz.f275,acb)) (tN f 277 (tL f 276 (Tryz.f276,acd)) (tL f 277 (Tryz.f277,(gB Tryz.f277))))))) (tN f 283 (tN f 280 (tN f 279 (tL f 278 (Tryz.f278,(gB Tryz.f278))) (tL f 279 (Tryz.f279,(gB Tryz.f279)))) (tN f 281 (tL f 280 (Tryz.f280,(gB Tryz.f280))) (tN f 282 (tL f 281 (Tryz.f281,(gB Tryz.f281))) (tL f 282 (Tryz.f282,(qB Tryz.f282 57)))))) (tN f 286 (tN f 285 (tL f 283 (Tryz.f283,(gB Tryz.f283))) (tL f 285 (Tryz.f285,(gB Tryz.f285)))) (tN f 287 (tL f 286 (Tryz.f286,ace)) (tN f 288 (tL f 287 (Tryz.f287,(gB Tryz.f287))) (tL f 288 (Tryz.f288,(gB Tryz.f288)))))))) (tN f 298 (tN f 293 (tN f 291 (tN f 290 (tL f 289 (Tryz.f289,(gB Tryz.f289))) (tL f 290 (Tryz.f290,(gB Tryz.f290)))) (tN f 292 (tL f 291 (Tryz.f291,acf)) (tL f 292 (Tryz.f292,(gB Tryz.f292))))) (tN f 295 (tN f 294 (tL f 293 (Tryz.f293,(gB Tryz.f293))) (tL f 294 (Tryz.f294,(gB Tryz.f294)))) (tN f 296 (tL f 295 (Tryz.f295,(gB Tryz.f295))) (tN f 297 (tL f 296 (Tryz.f296,(gB Tryz.f296))) (tL f 297 (Tryz.f297,(gB Tryz.f297))))))) (tN f 303 (tN f 300 (tN f 299 (tL f 298 (Tryz.f298,(qB Tryz.f298 61))) (tL f 299 (Tryz.f299,(qB Tryz.f299 62)))) (tN f 301 (tL f 300 (Tryz.f300,(gB Tryz.f300))) (tN f 302 (tL f 301 (Tryz.f301,(qB Tryz.f301 63))) (tL f 302 (Tryz.f302,(qB Tryz.f302 64)))))) (tN f 305 (tN f 304 (tL f 303 (Tryz.f303,(gB Tryz.f303))) (tL f 304 (Tryz.f304,(gB Tryz.f304)))) (tN f 306 (tL f 305 (Tryz.f305,(gB Tryz.f305))) (tN f 307 (tL f 306 (Tryz.f306,(gB Tryz.f306))) (tL f 307 (Tryz.f307,(gB Tryz.f307)))))))))))
def Zr (f:Nat):Option ((Code×Cx)×fM):=(tN f 32 (tN f 16 (tN f 8 (tN f 4 (tN f 2 (tN f 1 (tL f 0 d0) (tL f 1 d1)) (tN f 3 (tL f 2 d2) (tL f 3 d3))) (tN f 6 (tN f 5 (tL f 4 d4) (tL f 5 d5)) (tN f 7 (tL f 6 d6) (tL f 7 d7)))) (tN f 12 (tN f 10 (tN f 9 (tL f 8 d8) (tL f 9 d9)) (tN f 11 (tL f 10 d10) (tL f 11 d11))) (tN f 14 (tN f 13 (tL f 12 d12) (tL f 13 d13)) (tN f 15 (tL f 14 d14) (tL f 15 d15))))) (tN f 24 (tN f 20 (tN f 18 (tN f 17 (tL f 16 d16) (tL f 17 d17)) (tN f 19 (tL f 18 d18) (tL f 19 d19))) (tN f 22 (tN f 21 (tL f 20 d20) (tL f 21 d21)) (tN f 23 (tL f 22 d22) (tL f 23 d23)))) (tN f 28 (tN f 26 (tN f 25 (tL f 24 d24) (tL f 25 d25)) (tN f 27 (tL f 26 d26) (tL f 27 d27))) (tN f 30 (tN f 29 (tL f 28 d28) (tL f 29 d29)) (tN f 31 (tL f 30 d30) (tL f 31 d31)))))) (tN f 48 (tN f 40 (tN f 36 (tN f 34 (tN f 33 (tL f 32 d32) (tL f 33 d33)) (tN f 35 (tL f 34 d34) (tL f 35 d35))) (tN f 38 (tN f 37 (tL f 36 d36) (tL f 37 d37)) (tN f 39 (tL f 38 d38) (tL f 39 d39)))) (tN f 44 (tN f 42 (tN f 41 (tL f 40 d40) (tL f 41 d41)) (tN f 43 (tL f 42 d42) (tL f 43 d43))) (tN f 46 (tN f 45 (tL f 44 d44) (tL f 45 d45)) (tN f 47 (tL f 46 d46) (tL f 47 d47))))) (tN f 56 (tN f 52 (tN f 50 (tN f 49 (tL f 48 d48) (tL f 49 d49)) (tN f 51 (tL f 50 d50) (tL f 51 d51))) (tN f 54 (tN f 53 (tL f 52 d52) (tL f 53 d53)) (tN f 55 (tL f 54 d54) (tL f 55 d55)))) (tN f 60 (tN f 58 (tN f 57 (tL f 56 d56) (tL f 57 d57)) (tN f 59 (tL f 58 d58) (tL f 59 d59))) (tN f 62 (tN f 61 (tL f 60 d60) (tL f 61 d61)) (tN f 63 (tL f 62 d62) (tN f 64 (tL f 63 d63) (tL f 64 d64))))))))
def DU:Fb:=⟨Rm,Zr⟩
def FO (f:Nat) (e:Func×fM):Prop:=(∀(c:CH) (a:LH) us H,e.2 c (DU.loop a) us H=UJ tR c a e.1 us H)∧Tryz.prog.funcs[f]? = some e.1∧aR Tryz.prog f∧okF y e.1=true
def LO (e:(Code×Cx)×fM):Prop:=∀(c:CH) (a:LH) us H,e.2 c (DU.loop a) us H=evL tR c a e.1.1 e.1.2 us H
theorem e6:FO 6 (Tryz.f6,(gB Tryz.f6)):=⟨λ_ _ _ _=>by kernel_rfl,Tryz.func6,Tryz.call6,by kernel_rfl⟩
theorem e7:FO 7 (Tryz.f7,(gB Tryz.f7)):=⟨λ_ _ _ _=>by kernel_rfl,Tryz.func7,Tryz.call7,by kernel_rfl⟩
theorem e16:FO 16 (Tryz.f16,(gB Tryz.f16)):=⟨λ_ _ _ _=>by kernel_rfl,Tryz.func16,Tryz.call16,by kernel_rfl⟩
theorem e27:FO 27 (Tryz.f27,(gB Tryz.f27)):=⟨λ_ _ _ _=>by kernel_rfl,Tryz.func27,Tryz.call27,by kernel_rfl⟩
theorem e28:FO 28 (Tryz.f28,(gB Tryz.f28)):=⟨λ_ _ _ _=>by kernel_rfl,Tryz.func28,Tryz.call28,by kernel_rfl⟩
theorem e29:FO 29 (Tryz.f29,(gB Tryz.f29)):=⟨λ_ _ _ _=>by kernel_rfl,Tryz.func29,Tryz.call29,by kernel_rfl⟩
theorem e30:FO 30 (Tryz.f30,(gB Tryz.f30)):=⟨λ_ _ _ _=>by kernel_rfl,Tryz.func30,Tryz.call30,by kernel_rfl⟩
theorem e31:FO 31 (Tryz.f31,(gB Tryz.f31)):=⟨λ_ _ _ _=>by kernel_rfl,Tryz.func31,Tryz.call31,by kernel_rfl⟩
theorem e36:FO 36 (Tryz.f36,(qB Tryz.f36 0)):=⟨λ_ _ _ _=>by kernel_rfl,Tryz.func36,Tryz.call36,by kernel_rfl⟩
theorem e37:FO 37 (Tryz.f37,(qB Tryz.f37 2)):=⟨λ_ _ _ _=>by kernel_rfl,Tryz.func37,Tryz.call37,by kernel_rfl⟩
theorem e39:FO 39 (Tryz.f39,(gB Tryz.f39)):=⟨λ_ _ _ _=>by kernel_rfl,Tryz.func39,Tryz.call39,by kernel_rfl⟩
theorem e40:FO 40 (Tryz.f40,(qB Tryz.f40 3)):=⟨λ_ _ _ _=>by kernel_rfl,Tryz.func40,Tryz.call40,by kernel_rfl⟩
theorem e42:FO 42 (Tryz.f42,(qB Tryz.f42 4)):=⟨λ_ _ _ _=>by kernel_rfl,Tryz.func42,Tryz.call42,by kernel_rfl⟩
theorem e43:FO 43 (Tryz.f43,(qB Tryz.f43 5)):=⟨λ_ _ _ _=>by kernel_rfl,Tryz.func43,Tryz.call43,by kernel_rfl⟩
theorem e52:FO 52 (Tryz.f52,(gB Tryz.f52)):=⟨λ_ _ _ _=>by kernel_rfl,Tryz.func52,Tryz.call52,by kernel_rfl⟩
theorem e53:FO 53 (Tryz.f53,(qB Tryz.f53 6)):=⟨λ_ _ _ _=>by kernel_rfl,Tryz.func53,Tryz.call53,by kernel_rfl⟩
theorem e54:FO 54 (Tryz.f54,(gB Tryz.f54)):=⟨λ_ _ _ _=>by kernel_rfl,Tryz.func54,Tryz.call54,by kernel_rfl⟩
theorem e96:FO 96 (Tryz.f96,(gB Tryz.f96)):=⟨λ_ _ _ _=>by kernel_rfl,Tryz.func96,Tryz.call96,by kernel_rfl⟩
theorem e97:FO 97 (Tryz.f97,(qB Tryz.f97 7)):=⟨λ_ _ _ _=>by kernel_rfl,Tryz.func97,Tryz.call97,by kernel_rfl⟩
theorem e98:FO 98 (Tryz.f98,(qB Tryz.f98 9)):=⟨λ_ _ _ _=>by kernel_rfl,Tryz.func98,Tryz.call98,by kernel_rfl⟩
theorem e99:FO 99 (Tryz.f99,(gB Tryz.f99)):=⟨λ_ _ _ _=>by kernel_rfl,Tryz.func99,Tryz.call99,by kernel_rfl⟩
theorem adS:FO 102 (Tryz.f102,(gB Tryz.f102)):=⟨λ_ _ _ _=>by kernel_rfl,Tryz.func102,Tryz.call102,by kernel_rfl⟩
theorem adT:FO 103 (Tryz.f103,(gB Tryz.f103)):=⟨λ_ _ _ _=>by kernel_rfl,Tryz.func103,Tryz.call103,by kernel_rfl⟩
theorem adU:FO 104 (Tryz.f104,(qB Tryz.f104 10)):=⟨λ_ _ _ _=>by kernel_rfl,Tryz.func104,Tryz.call104,by kernel_rfl⟩
theorem adV:FO 105 (Tryz.f105,(gB Tryz.f105)):=⟨λ_ _ _ _=>by kernel_rfl,Tryz.func105,Tryz.call105,by kernel_rfl⟩
theorem adW:FO 106 (Tryz.f106,(qB Tryz.f106 12)):=⟨λ_ _ _ _=>by kernel_rfl,Tryz.func106,Tryz.call106,by kernel_rfl⟩
theorem adX:FO 107 (Tryz.f107,(gB Tryz.f107)):=⟨λ_ _ _ _=>by kernel_rfl,Tryz.func107,Tryz.call107,by kernel_rfl⟩
theorem adY:FO 109 (Tryz.f109,abG):=⟨λ_ _ _ _=>by kernel_rfl,Tryz.func109,Tryz.call109,by kernel_rfl⟩
theorem adZ:FO 111 (Tryz.f111,(gB Tryz.f111)):=⟨λ_ _ _ _=>by kernel_rfl,Tryz.func111,Tryz.call111,by kernel_rfl⟩
theorem ad_:FO 112 (Tryz.f112,abH):=⟨λ_ _ _ _=>by kernel_rfl,Tryz.func112,Tryz.call112,by kernel_rfl⟩
theorem aea:FO 113 (Tryz.f113,(qB Tryz.f113 17)):=⟨λ_ _ _ _=>by kernel_rfl,Tryz.func113,Tryz.call113,by kernel_rfl⟩
theorem aeb:FO 115 (Tryz.f115,abI):=⟨λ_ _ _ _=>by kernel_rfl,Tryz.func115,Tryz.call115,by kernel_rfl⟩
theorem aec:FO 123 (Tryz.f123,(gB Tryz.f123)):=⟨λ_ _ _ _=>by kernel_rfl,Tryz.func123,Tryz.call123,by kernel_rfl⟩
theorem aed:FO 124 (Tryz.f124,(gB Tryz.f124)):=⟨λ_ _ _ _=>by kernel_rfl,Tryz.func124,Tryz.call124,by kernel_rfl⟩
theorem aee:FO 125 (Tryz.f125,(gB Tryz.f125)):=⟨λ_ _ _ _=>by kernel_rfl,Tryz.func125,Tryz.call125,by kernel_rfl⟩
theorem aef:FO 126 (Tryz.f126,(gB Tryz.f126)):=⟨λ_ _ _ _=>by kernel_rfl,Tryz.func126,Tryz.call126,by kernel_rfl⟩
theorem aeg:FO 140 (Tryz.f140,(gB Tryz.f140)):=⟨λ_ _ _ _=>by kernel_rfl,Tryz.func140,Tryz.call140,by kernel_rfl⟩
theorem aeh:FO 160 (Tryz.f160,(qB Tryz.f160 21)):=⟨λ_ _ _ _=>by kernel_rfl,Tryz.func160,Tryz.call160,by kernel_rfl⟩
theorem aei:FO 161 (Tryz.f161,(qB Tryz.f161 22)):=⟨λ_ _ _ _=>by kernel_rfl,Tryz.func161,Tryz.call161,by kernel_rfl⟩
theorem aej:FO 162 (Tryz.f162,(qB Tryz.f162 23)):=⟨λ_ _ _ _=>by kernel_rfl,Tryz.func162,Tryz.call162,by kernel_rfl⟩
theorem aek:FO 164 (Tryz.f164,(qB Tryz.f164 24)):=⟨λ_ _ _ _=>by kernel_rfl,Tryz.func164,Tryz.call164,by kernel_rfl⟩
theorem ael:FO 165 (Tryz.f165,(gB Tryz.f165)):=⟨λ_ _ _ _=>by kernel_rfl,Tryz.func165,Tryz.call165,by kernel_rfl⟩
theorem aem:FO 166 (Tryz.f166,(gB Tryz.f166)):=⟨λ_ _ _ _=>by kernel_rfl,Tryz.func166,Tryz.call166,by kernel_rfl⟩
theorem aen:FO 168 (Tryz.f168,(qB Tryz.f168 26)):=⟨λ_ _ _ _=>by kernel_rfl,Tryz.func168,Tryz.call168,by kernel_rfl⟩
theorem aeo:FO 169 (Tryz.f169,(gB Tryz.f169)):=⟨λ_ _ _ _=>by kernel_rfl,Tryz.func169,Tryz.call169,by kernel_rfl⟩
theorem aep:FO 171 (Tryz.f171,abJ):=⟨λ_ _ _ _=>by kernel_rfl,Tryz.func171,Tryz.call171,by kernel_rfl⟩
theorem aeq:FO 172 (Tryz.f172,(gB Tryz.f172)):=⟨λ_ _ _ _=>by kernel_rfl,Tryz.func172,Tryz.call172,by kernel_rfl⟩
theorem aer:FO 175 (Tryz.f175,(gB Tryz.f175)):=⟨λ_ _ _ _=>by kernel_rfl,Tryz.func175,Tryz.call175,by kernel_rfl⟩
theorem aes:FO 176 (Tryz.f176,(qB Tryz.f176 29)):=⟨λ_ _ _ _=>by kernel_rfl,Tryz.func176,Tryz.call176,by kernel_rfl⟩
theorem aet:FO 177 (Tryz.f177,(qB Tryz.f177 30)):=⟨λ_ _ _ _=>by kernel_rfl,Tryz.func177,Tryz.call177,by kernel_rfl⟩
theorem aeu:FO 178 (Tryz.f178,(gB Tryz.f178)):=⟨λ_ _ _ _=>by kernel_rfl,Tryz.func178,Tryz.call178,by kernel_rfl⟩
theorem aev:FO 179 (Tryz.f179,(qB Tryz.f179 31)):=⟨λ_ _ _ _=>by kernel_rfl,Tryz.func179,Tryz.call179,by kernel_rfl⟩
theorem aew:FO 180 (Tryz.f180,(gB Tryz.f180)):=⟨λ_ _ _ _=>by kernel_rfl,Tryz.func180,Tryz.call180,by kernel_rfl⟩
theorem aex:FO 181 (Tryz.f181,(gB Tryz.f181)):=⟨λ_ _ _ _=>by kernel_rfl,Tryz.func181,Tryz.call181,by kernel_rfl⟩
theorem aey:FO 182 (Tryz.f182,abK):=⟨λ_ _ _ _=>by kernel_rfl,Tryz.func182,Tryz.call182,by kernel_rfl⟩
theorem aez:FO 183 (Tryz.f183,(gB Tryz.f183)):=⟨λ_ _ _ _=>by kernel_rfl,Tryz.func183,Tryz.call183,by kernel_rfl⟩
theorem aeA:FO 184 (Tryz.f184,(qB Tryz.f184 34)):=⟨λ_ _ _ _=>by kernel_rfl,Tryz.func184,Tryz.call184,by kernel_rfl⟩
theorem aeB:FO 185 (Tryz.f185,(qB Tryz.f185 35)):=⟨λ_ _ _ _=>by kernel_rfl,Tryz.func185,Tryz.call185,by kernel_rfl⟩
theorem aeC:FO 186 (Tryz.f186,(qB Tryz.f186 36)):=⟨λ_ _ _ _=>by kernel_rfl,Tryz.func186,Tryz.call186,by kernel_rfl⟩
theorem aeD:FO 197 (Tryz.f197,(qB Tryz.f197 37)):=⟨λ_ _ _ _=>by kernel_rfl,Tryz.func197,Tryz.call197,by kernel_rfl⟩
theorem aeE:FO 198 (Tryz.f198,(gB Tryz.f198)):=⟨λ_ _ _ _=>by kernel_rfl,Tryz.func198,Tryz.call198,by kernel_rfl⟩
theorem aeF:FO 199 (Tryz.f199,(qB Tryz.f199 38)):=⟨λ_ _ _ _=>by kernel_rfl,Tryz.func199,Tryz.call199,by kernel_rfl⟩
theorem aeG:FO 215 (Tryz.f215,(gB Tryz.f215)):=⟨λ_ _ _ _=>by kernel_rfl,Tryz.func215,Tryz.call215,by kernel_rfl⟩
theorem aeH:FO 216 (Tryz.f216,(qB Tryz.f216 39)):=⟨λ_ _ _ _=>by kernel_rfl,Tryz.func216,Tryz.call216,by kernel_rfl⟩
theorem aeI:FO 217 (Tryz.f217,(gB Tryz.f217)):=⟨λ_ _ _ _=>by kernel_rfl,Tryz.func217,Tryz.call217,by kernel_rfl⟩
theorem aeJ:FO 218 (Tryz.f218,(gB Tryz.f218)):=⟨λ_ _ _ _=>by kernel_rfl,Tryz.func218,Tryz.call218,by kernel_rfl⟩
theorem aeK:FO 219 (Tryz.f219,(gB Tryz.f219)):=⟨λ_ _ _ _=>by kernel_rfl,Tryz.func219,Tryz.call219,by kernel_rfl⟩
theorem aeL:FO 220 (Tryz.f220,(qB Tryz.f220 40)):=⟨λ_ _ _ _=>by kernel_rfl,Tryz.func220,Tryz.call220,by kernel_rfl⟩
theorem aeM:FO 221 (Tryz.f221,(gB Tryz.f221)):=⟨λ_ _ _ _=>by kernel_rfl,Tryz.func221,Tryz.call221,by kernel_rfl⟩
theorem aeN:FO 222 (Tryz.f222,(qB Tryz.f222 41)):=⟨λ_ _ _ _=>by kernel_rfl,Tryz.func222,Tryz.call222,by kernel_rfl⟩
theorem aeO:FO 224 (Tryz.f224,(qB Tryz.f224 42)):=⟨λ_ _ _ _=>by kernel_rfl,Tryz.func224,Tryz.call224,by kernel_rfl⟩
theorem aeP:FO 225 (Tryz.f225,(gB Tryz.f225)):=⟨λ_ _ _ _=>by kernel_rfl,Tryz.func225,Tryz.call225,by kernel_rfl⟩
theorem aeQ:FO 226 (Tryz.f226,(qB Tryz.f226 43)):=⟨λ_ _ _ _=>by kernel_rfl,Tryz.func226,Tryz.call226,by kernel_rfl⟩
theorem aeR:FO 229 (Tryz.f229,abL):=⟨λ_ _ _ _=>by kernel_rfl,Tryz.func229,Tryz.call229,by kernel_rfl⟩
theorem aeS:FO 230 (Tryz.f230,abM):=⟨λ_ _ _ _=>by kernel_rfl,Tryz.func230,Tryz.call230,by kernel_rfl⟩
theorem aeT:FO 231 (Tryz.f231,abN):=⟨λ_ _ _ _=>by kernel_rfl,Tryz.func231,Tryz.call231,by kernel_rfl⟩
theorem aeU:FO 232 (Tryz.f232,abO):=⟨λ_ _ _ _=>by kernel_rfl,Tryz.func232,Tryz.call232,by kernel_rfl⟩
theorem aeV:FO 233 (Tryz.f233,(qB Tryz.f233 45)):=⟨λ_ _ _ _=>by kernel_rfl,Tryz.func233,Tryz.call233,by kernel_rfl⟩
theorem aeW:FO 234 (Tryz.f234,abP):=⟨λ_ _ _ _=>by kernel_rfl,Tryz.func234,Tryz.call234,by kernel_rfl⟩
theorem aeX:FO 235 (Tryz.f235,abQ):=⟨λ_ _ _ _=>by kernel_rfl,Tryz.func235,Tryz.call235,by kernel_rfl⟩
theorem aeY:FO 236 (Tryz.f236,abR):=⟨λ_ _ _ _=>by kernel_rfl,Tryz.func236,Tryz.call236,by kernel_rfl⟩
theorem aeZ:FO 237 (Tryz.f237,(gB Tryz.f237)):=⟨λ_ _ _ _=>by kernel_rfl,Tryz.func237,Tryz.call237,by kernel_rfl⟩
theorem ae_:FO 238 (Tryz.f238,(qB Tryz.f238 47)):=⟨λ_ _ _ _=>by kernel_rfl,Tryz.func238,Tryz.call238,by kernel_rfl⟩
theorem afa:FO 239 (Tryz.f239,abS):=⟨λ_ _ _ _=>by kernel_rfl,Tryz.func239,Tryz.call239,by kernel_rfl⟩
theorem afb:FO 240 (Tryz.f240,(gB Tryz.f240)):=⟨λ_ _ _ _=>by kernel_rfl,Tryz.func240,Tryz.call240,by kernel_rfl⟩
theorem afc:FO 241 (Tryz.f241,(gB Tryz.f241)):=⟨λ_ _ _ _=>by kernel_rfl,Tryz.func241,Tryz.call241,by kernel_rfl⟩
theorem afd:FO 242 (Tryz.f242,(gB Tryz.f242)):=⟨λ_ _ _ _=>by kernel_rfl,Tryz.func242,Tryz.call242,by kernel_rfl⟩
theorem afe:FO 243 (Tryz.f243,(gB Tryz.f243)):=⟨λ_ _ _ _=>by kernel_rfl,Tryz.func243,Tryz.call243,by kernel_rfl⟩
theorem aff:FO 244 (Tryz.f244,(gB Tryz.f244)):=⟨λ_ _ _ _=>by kernel_rfl,Tryz.func244,Tryz.call244,by kernel_rfl⟩
theorem afg:FO 245 (Tryz.f245,(gB Tryz.f245)):=⟨λ_ _ _ _=>by kernel_rfl,Tryz.func245,Tryz.call245,by kernel_rfl⟩
theorem afh:FO 246 (Tryz.f246,(qB Tryz.f246 48)):=⟨λ_ _ _ _=>by kernel_rfl,Tryz.func246,Tryz.call246,by kernel_rfl⟩
theorem afi:FO 247 (Tryz.f247,(qB Tryz.f247 49)):=⟨λ_ _ _ _=>by kernel_rfl,Tryz.func247,Tryz.call247,by kernel_rfl⟩
theorem afj:FO 250 (Tryz.f250,(gB Tryz.f250)):=⟨λ_ _ _ _=>by kernel_rfl,Tryz.func250,Tryz.call250,by kernel_rfl⟩
theorem afk:FO 251 (Tryz.f251,(gB Tryz.f251)):=⟨λ_ _ _ _=>by kernel_rfl,Tryz.func251,Tryz.call251,by kernel_rfl⟩
theorem afl:FO 252 (Tryz.f252,abT):=⟨λ_ _ _ _=>by kernel_rfl,Tryz.func252,Tryz.call252,by kernel_rfl⟩
theorem afm:FO 253 (Tryz.f253,(gB Tryz.f253)):=⟨λ_ _ _ _=>by kernel_rfl,Tryz.func253,Tryz.call253,by kernel_rfl⟩
theorem afn:FO 254 (Tryz.f254,(gB Tryz.f254)):=⟨λ_ _ _ _=>by kernel_rfl,Tryz.func254,Tryz.call254,by kernel_rfl⟩
theorem afo:FO 255 (Tryz.f255,(gB Tryz.f255)):=⟨λ_ _ _ _=>by kernel_rfl,Tryz.func255,Tryz.call255,by kernel_rfl⟩
theorem afp:FO 256 (Tryz.f256,abU):=⟨λ_ _ _ _=>by kernel_rfl,Tryz.func256,Tryz.call256,by kernel_rfl⟩
theorem afq:FO 257 (Tryz.f257,abV):=⟨λ_ _ _ _=>by kernel_rfl,Tryz.func257,Tryz.call257,by kernel_rfl⟩
theorem afr:FO 258 (Tryz.f258,(qB Tryz.f258 52)):=⟨λ_ _ _ _=>by kernel_rfl,Tryz.func258,Tryz.call258,by kernel_rfl⟩
theorem afs:FO 259 (Tryz.f259,abW):=⟨λ_ _ _ _=>by kernel_rfl,Tryz.func259,Tryz.call259,by kernel_rfl⟩
theorem afu:FO 260 (Tryz.f260,(gB Tryz.f260)):=⟨λ_ _ _ _=>by kernel_rfl,Tryz.func260,Tryz.call260,by kernel_rfl⟩
theorem afv:FO 261 (Tryz.f261,(gB Tryz.f261)):=⟨λ_ _ _ _=>by kernel_rfl,Tryz.func261,Tryz.call261,by kernel_rfl⟩
theorem afw:FO 262 (Tryz.f262,(gB Tryz.f262)):=⟨λ_ _ _ _=>by kernel_rfl,Tryz.func262,Tryz.call262,by kernel_rfl⟩
theorem afx:FO 263 (Tryz.f263,(qB Tryz.f263 54)):=⟨λ_ _ _ _=>by kernel_rfl,Tryz.func263,Tryz.call263,by kernel_rfl⟩
theorem afy:FO 264 (Tryz.f264,(gB Tryz.f264)):=⟨λ_ _ _ _=>by kernel_rfl,Tryz.func264,Tryz.call264,by kernel_rfl⟩
theorem afz:FO 265 (Tryz.f265,abX):=⟨λ_ _ _ _=>by kernel_rfl,Tryz.func265,Tryz.call265,by kernel_rfl⟩
theorem afA:FO 266 (Tryz.f266,(gB Tryz.f266)):=⟨λ_ _ _ _=>by kernel_rfl,Tryz.func266,Tryz.call266,by kernel_rfl⟩
theorem afB:FO 267 (Tryz.f267,(gB Tryz.f267)):=⟨λ_ _ _ _=>by kernel_rfl,Tryz.func267,Tryz.call267,by kernel_rfl⟩
theorem afC:FO 268 (Tryz.f268,(gB Tryz.f268)):=⟨λ_ _ _ _=>by kernel_rfl,Tryz.func268,Tryz.call268,by kernel_rfl⟩
theorem afD:FO 269 (Tryz.f269,abY):=⟨λ_ _ _ _=>by kernel_rfl,Tryz.func269,Tryz.call269,by kernel_rfl⟩
theorem afE:FO 270 (Tryz.f270,(gB Tryz.f270)):=⟨λ_ _ _ _=>by kernel_rfl,Tryz.func270,Tryz.call270,by kernel_rfl⟩
theorem afF:FO 271 (Tryz.f271,(gB Tryz.f271)):=⟨λ_ _ _ _=>by kernel_rfl,Tryz.func271,Tryz.call271,by kernel_rfl⟩
theorem afG:FO 272 (Tryz.f272,abZ):=⟨λ_ _ _ _=>by kernel_rfl,Tryz.func272,Tryz.call272,by kernel_rfl⟩
theorem afH:FO 273 (Tryz.f273,ab_):=⟨λ_ _ _ _=>by kernel_rfl,Tryz.func273,Tryz.call273,by kernel_rfl⟩
theorem afI:FO 274 (Tryz.f274,aca):=⟨λ_ _ _ _=>by kernel_rfl,Tryz.func274,Tryz.call274,by kernel_rfl⟩
theorem afJ:FO 275 (Tryz.f275,acb):=⟨λ_ _ _ _=>by kernel_rfl,Tryz.func275,Tryz.call275,by kernel_rfl⟩
theorem afK:FO 276 (Tryz.f276,acd):=⟨λ_ _ _ _=>by kernel_rfl,Tryz.func276,Tryz.call276,by kernel_rfl⟩
theorem afL:FO 277 (Tryz.f277,(gB Tryz.f277)):=⟨λ_ _ _ _=>by kernel_rfl,Tryz.func277,Tryz.call277,by kernel_rfl⟩
theorem afM:FO 278 (Tryz.f278,(gB Tryz.f278)):=⟨λ_ _ _ _=>by kernel_rfl,Tryz.func278,Tryz.call278,by kernel_rfl⟩
theorem afN:FO 279 (Tryz.f279,(gB Tryz.f279)):=⟨λ_ _ _ _=>by kernel_rfl,Tryz.func279,Tryz.call279,by kernel_rfl⟩
theorem afO:FO 280 (Tryz.f280,(gB Tryz.f280)):=⟨λ_ _ _ _=>by kernel_rfl,Tryz.func280,Tryz.call280,by kernel_rfl⟩
theorem afP:FO 281 (Tryz.f281,(gB Tryz.f281)):=⟨λ_ _ _ _=>by kernel_rfl,Tryz.func281,Tryz.call281,by kernel_rfl⟩
theorem afQ:FO 282 (Tryz.f282,(qB Tryz.f282 57)):=⟨λ_ _ _ _=>by kernel_rfl,Tryz.func282,Tryz.call282,by kernel_rfl⟩
theorem afR:FO 283 (Tryz.f283,(gB Tryz.f283)):=⟨λ_ _ _ _=>by kernel_rfl,Tryz.func283,Tryz.call283,by kernel_rfl⟩
theorem afS:FO 285 (Tryz.f285,(gB Tryz.f285)):=⟨λ_ _ _ _=>by kernel_rfl,Tryz.func285,Tryz.call285,by kernel_rfl⟩
theorem afT:FO 286 (Tryz.f286,ace):=⟨λ_ _ _ _=>by kernel_rfl,Tryz.func286,Tryz.call286,by kernel_rfl⟩
theorem afU:FO 287 (Tryz.f287,(gB Tryz.f287)):=⟨λ_ _ _ _=>by kernel_rfl,Tryz.func287,Tryz.call287,by kernel_rfl⟩
theorem afV:FO 288 (Tryz.f288,(gB Tryz.f288)):=⟨λ_ _ _ _=>by kernel_rfl,Tryz.func288,Tryz.call288,by kernel_rfl⟩
theorem afW:FO 289 (Tryz.f289,(gB Tryz.f289)):=⟨λ_ _ _ _=>by kernel_rfl,Tryz.func289,Tryz.call289,by kernel_rfl⟩
theorem afX:FO 290 (Tryz.f290,(gB Tryz.f290)):=⟨λ_ _ _ _=>by kernel_rfl,Tryz.func290,Tryz.call290,by kernel_rfl⟩
theorem afY:FO 291 (Tryz.f291,acf):=⟨λ_ _ _ _=>by kernel_rfl,Tryz.func291,Tryz.call291,by kernel_rfl⟩
theorem afZ:FO 292 (Tryz.f292,(gB Tryz.f292)):=⟨λ_ _ _ _=>by kernel_rfl,Tryz.func292,Tryz.call292,by kernel_rfl⟩
theorem af_:FO 293 (Tryz.f293,(gB Tryz.f293)):=⟨λ_ _ _ _=>by kernel_rfl,Tryz.func293,Tryz.call293,by kernel_rfl⟩
theorem aga:FO 294 (Tryz.f294,(gB Tryz.f294)):=⟨λ_ _ _ _=>by kernel_rfl,Tryz.func294,Tryz.call294,by kernel_rfl⟩
theorem agb:FO 295 (Tryz.f295,(gB Tryz.f295)):=⟨λ_ _ _ _=>by kernel_rfl,Tryz.func295,Tryz.call295,by kernel_rfl⟩
theorem agc:FO 296 (Tryz.f296,(gB Tryz.f296)):=⟨λ_ _ _ _=>by kernel_rfl,Tryz.func296,Tryz.call296,by kernel_rfl⟩
theorem agd:FO 297 (Tryz.f297,(gB Tryz.f297)):=⟨λ_ _ _ _=>by kernel_rfl,Tryz.func297,Tryz.call297,by kernel_rfl⟩
theorem age:FO 298 (Tryz.f298,(qB Tryz.f298 61)):=⟨λ_ _ _ _=>by kernel_rfl,Tryz.func298,Tryz.call298,by kernel_rfl⟩
theorem agf:FO 299 (Tryz.f299,(qB Tryz.f299 62)):=⟨λ_ _ _ _=>by kernel_rfl,Tryz.func299,Tryz.call299,by kernel_rfl⟩
theorem agh:FO 300 (Tryz.f300,(gB Tryz.f300)):=⟨λ_ _ _ _=>by kernel_rfl,Tryz.func300,Tryz.call300,by kernel_rfl⟩
theorem agi:FO 301 (Tryz.f301,(qB Tryz.f301 63)):=⟨λ_ _ _ _=>by kernel_rfl,Tryz.func301,Tryz.call301,by kernel_rfl⟩
theorem agj:FO 302 (Tryz.f302,(qB Tryz.f302 64)):=⟨λ_ _ _ _=>by kernel_rfl,Tryz.func302,Tryz.call302,by kernel_rfl⟩
theorem agk:FO 303 (Tryz.f303,(gB Tryz.f303)):=⟨λ_ _ _ _=>by kernel_rfl,Tryz.func303,Tryz.call303,by kernel_rfl⟩
theorem agl:FO 304 (Tryz.f304,(gB Tryz.f304)):=⟨λ_ _ _ _=>by kernel_rfl,Tryz.func304,Tryz.call304,by kernel_rfl⟩
theorem agm:FO 305 (Tryz.f305,(gB Tryz.f305)):=⟨λ_ _ _ _=>by kernel_rfl,Tryz.func305,Tryz.call305,by kernel_rfl⟩
theorem agn:FO 306 (Tryz.f306,(gB Tryz.f306)):=⟨λ_ _ _ _=>by kernel_rfl,Tryz.func306,Tryz.call306,by kernel_rfl⟩
theorem ago:FO 307 (Tryz.f307,(gB Tryz.f307)):=⟨λ_ _ _ _=>by kernel_rfl,Tryz.func307,Tryz.call307,by kernel_rfl⟩
theorem l0:LO d0:=λ_ _ _ _=>by kernel_rfl
theorem l1:LO d1:=λ_ _ _ _=>by kernel_rfl
theorem l2:LO d2:=λ_ _ _ _=>by kernel_rfl
theorem l3:LO d3:=λ_ _ _ _=>by kernel_rfl
theorem l4:LO d4:=λ_ _ _ _=>by kernel_rfl
theorem l5:LO d5:=λ_ _ _ _=>by kernel_rfl
theorem l6:LO d6:=λ_ _ _ _=>by kernel_rfl
theorem l7:LO d7:=λ_ _ _ _=>by kernel_rfl
theorem l8:LO d8:=λ_ _ _ _=>by kernel_rfl
theorem l9:LO d9:=λ_ _ _ _=>by kernel_rfl
theorem l10:LO d10:=λ_ _ _ _=>by kernel_rfl
theorem l11:LO d11:=λ_ _ _ _=>by kernel_rfl
theorem l12:LO d12:=λ_ _ _ _=>by kernel_rfl
theorem Wq:LO d13:=λ_ _ _ _=>by kernel_rfl
theorem l14:LO d14:=λ_ _ _ _=>by kernel_rfl
theorem l15:LO d15:=λ_ _ _ _=>by kernel_rfl
theorem l16:LO d16:=λ_ _ _ _=>by kernel_rfl
theorem l17:LO d17:=λ_ _ _ _=>by kernel_rfl
theorem l18:LO d18:=λ_ _ _ _=>by kernel_rfl
theorem l19:LO d19:=λ_ _ _ _=>by kernel_rfl
theorem l20:LO d20:=λ_ _ _ _=>by kernel_rfl
theorem l21:LO d21:=λ_ _ _ _=>by kernel_rfl
theorem l22:LO d22:=λ_ _ _ _=>by kernel_rfl
theorem l23:LO d23:=λ_ _ _ _=>by kernel_rfl
theorem l24:LO d24:=λ_ _ _ _=>by kernel_rfl
theorem l25:LO d25:=λ_ _ _ _=>by kernel_rfl
theorem l26:LO d26:=λ_ _ _ _=>by kernel_rfl
theorem l27:LO d27:=λ_ _ _ _=>by kernel_rfl
theorem l28:LO d28:=λ_ _ _ _=>by kernel_rfl
theorem l29:LO d29:=λ_ _ _ _=>by kernel_rfl
theorem l30:LO d30:=λ_ _ _ _=>by kernel_rfl
theorem l31:LO d31:=λ_ _ _ _=>by kernel_rfl
theorem l32:LO d32:=λ_ _ _ _=>by kernel_rfl
theorem l33:LO d33:=λ_ _ _ _=>by kernel_rfl
theorem l34:LO d34:=λ_ _ _ _=>by kernel_rfl
theorem l35:LO d35:=λ_ _ _ _=>by kernel_rfl
theorem l36:LO d36:=λ_ _ _ _=>by kernel_rfl
theorem l37:LO d37:=λ_ _ _ _=>by kernel_rfl
theorem l38:LO d38:=λ_ _ _ _=>by kernel_rfl
theorem l39:LO d39:=λ_ _ _ _=>by kernel_rfl
theorem l40:LO d40:=λ_ _ _ _=>by kernel_rfl
theorem l41:LO d41:=λ_ _ _ _=>by kernel_rfl
theorem l42:LO d42:=λ_ _ _ _=>by kernel_rfl
theorem l43:LO d43:=λ_ _ _ _=>by kernel_rfl
theorem l44:LO d44:=λ_ _ _ _=>by kernel_rfl
theorem l45:LO d45:=λ_ _ _ _=>by kernel_rfl
theorem l46:LO d46:=λ_ _ _ _=>by kernel_rfl
theorem l47:LO d47:=λ_ _ _ _=>by kernel_rfl
theorem l48:LO d48:=λ_ _ _ _=>by kernel_rfl
theorem l49:LO d49:=λ_ _ _ _=>by kernel_rfl
theorem l50:LO d50:=λ_ _ _ _=>by kernel_rfl
theorem l51:LO d51:=λ_ _ _ _=>by kernel_rfl
theorem l52:LO d52:=λ_ _ _ _=>by kernel_rfl
theorem l53:LO d53:=λ_ _ _ _=>by kernel_rfl
theorem l54:LO d54:=λ_ _ _ _=>by kernel_rfl
theorem l55:LO d55:=λ_ _ _ _=>by kernel_rfl
theorem l56:LO d56:=λ_ _ _ _=>by kernel_rfl
theorem l57:LO d57:=λ_ _ _ _=>by kernel_rfl
theorem l58:LO d58:=λ_ _ _ _=>by kernel_rfl
theorem l59:LO d59:=λ_ _ _ _=>by kernel_rfl
theorem l60:LO d60:=λ_ _ _ _=>by kernel_rfl
theorem l61:LO d61:=λ_ _ _ _=>by kernel_rfl
theorem l62:LO d62:=λ_ _ _ _=>by kernel_rfl
theorem l63:LO d63:=λ_ _ _ _=>by kernel_rfl
theorem l64:LO d64:=λ_ _ _ _=>by kernel_rfl
theorem KG {f:Nat} {e:Func×fM}:Rm f=some e->FO f e:=(rN (rN (rN (rN (rN (rN (rN (rL e6) (rL e7)) (rN (rL e16) (rL e27))) (rN (rN (rL e28) (rL e29)) (rN (rL e30) (rN (rL e31) (rL e36))))) (rN (rN (rN (rL e37) (rL e39)) (rN (rL e40) (rL e42))) (rN (rN (rL e43) (rL e52)) (rN (rL e53) (rN (rL e54) (rL e96)))))) (rN (rN (rN (rN (rL e97) (rL e98)) (rN (rL e99) (rL adS))) (rN (rN (rL adT) (rL adU)) (rN (rL adV) (rN (rL adW) (rL adX))))) (rN (rN (rN (rL adY) (rL adZ)) (rN (rL ad_) (rN (rL aea) (rL aeb)))) (rN (rN (rL aec) (rL aed)) (rN (rL aee) (rN (rL aef) (rL aeg))))))) (rN (rN (rN (rN (rN (rL aeh) (rL aei)) (rN (rL aej) (rL aek))) (rN (rN (rL ael) (rL aem)) (rN (rL aen) (rN (rL aeo) (rL aep))))) (rN (rN (rN (rL aeq) (rL aer)) (rN (rL aes) (rL aet))) (rN (rN (rL aeu) (rL aev)) (rN (rL aew) (rN (rL aex) (rL aey)))))) (rN (rN (rN (rN (rL aez) (rL aeA)) (rN (rL aeB) (rL aeC))) (rN (rN (rL aeD) (rL aeE)) (rN (rL aeF) (rN (rL aeG) (rL aeH))))) (rN (rN (rN (rL aeI) (rL aeJ)) (rN (rL aeK) (rN (rL aeL) (rL aeM)))) (rN (rN (rL aeN) (rL aeO)) (rN (rL aeP) (rN (rL aeQ) (rL aeR)))))))) (rN (rN (rN (rN (rN (rN (rL aeS) (rL aeT)) (rN (rL aeU) (rL aeV))) (rN (rN (rL aeW) (rL aeX)) (rN (rL aeY) (rN (rL aeZ) (rL ae_))))) (rN (rN (rN (rL afa) (rL afb)) (rN (rL afc) (rL afd))) (rN (rN (rL afe) (rL aff)) (rN (rL afg) (rN (rL afh) (rL afi)))))) (rN (rN (rN (rN (rL afj) (rL afk)) (rN (rL afl) (rL afm))) (rN (rN (rL afn) (rL afo)) (rN (rL afp) (rN (rL afq) (rL afr))))) (rN (rN (rN (rL afs) (rL afu)) (rN (rL afv) (rN (rL afw) (rL afx)))) (rN (rN (rL afy) (rL afz)) (rN (rL afA) (rN (rL afB) (rL afC))))))) (rN (rN (rN (rN (rN (rL afD) (rL afE)) (rN (rL afF) (rL afG))) (rN (rN (rL afH) (rL afI)) (rN (rL afJ) (rN (rL afK) (rL afL))))) (rN (rN (rN (rL afM) (rL afN)) (rN (rL afO) (rN (rL afP) (rL afQ)))) (rN (rN (rL afR) (rL afS)) (rN (rL afT) (rN (rL afU) (rL afV)))))) (rN (rN (rN (rN (rL afW) (rL afX)) (rN (rL afY) (rL afZ))) (rN (rN (rL af_) (rL aga)) (rN (rL agb) (rN (rL agc) (rL agd))))) (rN (rN (rN (rL age) (rL agf)) (rN (rL agh) (rN (rL agi) (rL agj)))) (rN (rN (rL agk) (rL agl)) (rN (rL agm) (rN (rL agn) (rL ago)))))))))
theorem VN {f:Nat} {e:(Code×Cx)×fM}:Zr f=some e->LO e:=(rN (rN (rN (rN (rN (rN (rL (R:=λ_=>LO) l0) (rL (R:=λ_=>LO) l1)) (rN (rL (R:=λ_=>LO) l2) (rL (R:=λ_=>LO) l3))) (rN (rN (rL (R:=λ_=>LO) l4) (rL (R:=λ_=>LO) l5)) (rN (rL (R:=λ_=>LO) l6) (rL (R:=λ_=>LO) l7)))) (rN (rN (rN (rL (R:=λ_=>LO) l8) (rL (R:=λ_=>LO) l9)) (rN (rL (R:=λ_=>LO) l10) (rL (R:=λ_=>LO) l11))) (rN (rN (rL (R:=λ_=>LO) l12) (rL (R:=λ_=>LO) Wq)) (rN (rL (R:=λ_=>LO) l14) (rL (R:=λ_=>LO) l15))))) (rN (rN (rN (rN (rL (R:=λ_=>LO) l16) (rL (R:=λ_=>LO) l17)) (rN (rL (R:=λ_=>LO) l18) (rL (R:=λ_=>LO) l19))) (rN (rN (rL (R:=λ_=>LO) l20) (rL (R:=λ_=>LO) l21)) (rN (rL (R:=λ_=>LO) l22) (rL (R:=λ_=>LO) l23)))) (rN (rN (rN (rL (R:=λ_=>LO) l24) (rL (R:=λ_=>LO) l25)) (rN (rL (R:=λ_=>LO) l26) (rL (R:=λ_=>LO) l27))) (rN (rN (rL (R:=λ_=>LO) l28) (rL (R:=λ_=>LO) l29)) (rN (rL (R:=λ_=>LO) l30) (rL (R:=λ_=>LO) l31)))))) (rN (rN (rN (rN (rN (rL (R:=λ_=>LO) l32) (rL (R:=λ_=>LO) l33)) (rN (rL (R:=λ_=>LO) l34) (rL (R:=λ_=>LO) l35))) (rN (rN (rL (R:=λ_=>LO) l36) (rL (R:=λ_=>LO) l37)) (rN (rL (R:=λ_=>LO) l38) (rL (R:=λ_=>LO) l39)))) (rN (rN (rN (rL (R:=λ_=>LO) l40) (rL (R:=λ_=>LO) l41)) (rN (rL (R:=λ_=>LO) l42) (rL (R:=λ_=>LO) l43))) (rN (rN (rL (R:=λ_=>LO) l44) (rL (R:=λ_=>LO) l45)) (rN (rL (R:=λ_=>LO) l46) (rL (R:=λ_=>LO) l47))))) (rN (rN (rN (rN (rL (R:=λ_=>LO) l48) (rL (R:=λ_=>LO) l49)) (rN (rL (R:=λ_=>LO) l50) (rL (R:=λ_=>LO) l51))) (rN (rN (rL (R:=λ_=>LO) l52) (rL (R:=λ_=>LO) l53)) (rN (rL (R:=λ_=>LO) l54) (rL (R:=λ_=>LO) l55)))) (rN (rN (rN (rL (R:=λ_=>LO) l56) (rL (R:=λ_=>LO) l57)) (rN (rL (R:=λ_=>LO) l58) (rL (R:=λ_=>LO) l59))) (rN (rN (rL (R:=λ_=>LO) l60) (rL (R:=λ_=>LO) l61)) (rN (rL (R:=λ_=>LO) l62) (rN (rL (R:=λ_=>LO) l63) (rL (R:=λ_=>LO) l64))))))))
theorem AC:Ip DU tR:=⟨λh=>(KG h).1,VN⟩
theorem VL {f:Nat} {e:Func×fM} (h:Rm f=some e):Tryz.prog.funcs[f]? = some e.1∧aR Tryz.prog f∧okF y e.1=true:=(KG h).2
end
end Go.Gx
end
namespace Go.Gx
open Go Go.Sx
section
variable {P:Program} {gs:xS} {w0:eD gs} {tb:TB}
theorem Na:rK P w0 (λ_ _ _=>none):=λf b H g a h=>by cases h
theorem Ho:Ge P w0 tb (λ_ _ _ _=>none):=λb c d H a h=>by cases h
theorem XX {C:CH} {G:LH} (y:eQ P tb) (Q:P.follows .mixedOrders=true) (k:∀w0:eD gs,rK P w0 C) (l:Ge P w0 tb G) {f:Nat} {d:Func} {J:List GV} {H:GH} {c:MD} (L:P.funcs[f]? = some d) (A:okF tb d=true) (h:UJ tb C G d J H=some c) (O:c.e = .ret) {t:dH} {w:World} {s:List Value} (R:eX w0 t H w) (E:oY t J s):
  Calls P f s.toArray w λe u=>∃v a,e = .returned v∧t.le a∧eX w0 a c.H u∧Rl a (SX c.vs) v:=by
 obtain⟨M,N⟩:=NA A;obtain⟨i,D,h⟩:=aB.1 (show ob d.body _=some c from h);obtain⟨K,m,h⟩:=qH h;rw[List.range_eq_range']at m;have r:=Is m;have S:s.length<=d.ntmps:=by rw[<-E.len,r];exact N
 refine sG L D ?_;have F:kX t d.ntmps K {tmps:=s.toArray++Array.replicate (d.ntmps - s.toArray.size) undef,defers:=[]}:=by
  refine Lj Z (by simp;omega) E (λj v p=> ?_) m;have z:=bB p;rw[Nat.zero_add,Array.getElem?_append_left (by simpa using z)];simpa using p
 refine BI y Q k l i _ _ _ ⟨K,H⟩ c t _ w _ (M i D) h F R ⟨λI a B u q b n o=> ?_,λid I a B u q b n o=> ?_,λI a B u q b n o=> ?_⟩
 ·obtain⟨x,v,p,g⟩:=FE (fn:=d) y Z n o q;exact Sx.body_end (.inr Z) n.defers g ⟨v,a,rfl,b,by rw[x];exact o,p⟩
 ·have:=zI q;rw[O]at this;cases this
 ·obtain⟨x,v,p,g⟩:=FE (fn:=d) y Z n o q;exact Sx.body_end (.inl Z) n.defers g ⟨v,a,rfl,b,by rw[x];exact o,p⟩
noncomputable def Kh (tb:TB) (f:Nat) (a:Func):CH:=λg b H=>bif Nat.beq g f then KF (UJ tb (λ_ _ _=>none) (λ_ _ _ _=>none) a b H)else none
theorem Uq (m:eQ P tb) (p:P.follows .mixedOrders=true) {f:Nat} {c:Func} (k:P.funcs[f]? = some c) (n:aR P f) (i:okF tb c=true):rK P w0 (Kh tb f c):=λg r H x j h t w s R q=>by
 unfold Kh at h;cases b:Nat.beq g f with
 |false=>rw[b]at h;cases h
 |true=>
 rw[b]at h;have b:=Nat.eq_of_beq_eq_true b;subst b;replace h:KF (UJ tb (λ_ _ _=>none) (λ_ _ _ _=>none) c r H)=some (x,j):=h;unfold KF at h;obtain⟨o,l,a⟩:=aB.1 h;cases d:o.e with
 |normal=>rw[d]at a;cases a
 |exit id=>rw[d]at a;cases a
 |ret=>
  rw[d]at a;cases a;exact .inr ⟨n _ w,XX m p (λ_=>Na) Ho k i l d R q⟩
theorem Tk {id:Nat} {o:Oper} {l:List Oper} {Q:Exit->Act->List Frame->World->Prop} {a:Act} {d:List Frame} {w:World} (x:l.all jG=true) (C:o.guard=none) (r:(execOp a.eval o).run P w = .ok .recover w)
  (q:recoverD d=none) (h:Sx.wpList P (o::l).toArray (λe g t=>Q e g d t) l (a.put o.dst .nilIface) w):(Code.region id (o::l).toArray false).wpSIn (FR none) 0 P Q a d w:=by
 intro b k B f u c;have y:(o::l).toArray[0]? = some o:=by simp
 obtain⟨e,g,t,E,i⟩:=wp_opsIn (F:=FR none) (n:=0) (Q:=λe g t=>Q e g d t) (ops:=(o::l).toArray) (List.range' 1 l.length) (a.put o.dst .nilIface) w
  (by rw[wpOpsIn_eq_wpListIn l 1 (by intro j;simp[Nat.add_comm 1 j])];exact Sx.wpList_in l _ w x h) b k d f u c
 have H:Region.wanted o (yielded (o::l).toArray a.tmps)=true:=by simp[Region.wanted,C]
 have A:(lone (b.atR a (.inRegion (o::l).toArray (0::List.range' 1 l.length)::k)) d w).fenced P (FR none):=fenced_oper u c y (λ_ _=>trivial);have p:=stepGR_op (P:=P) (b:=b) (k:=k) (cs:=d) (w:=w) (rest:=List.range' 1 l.length) y H;rw[f,Oper.semAt_none]at p;have m:∀v,(b.atR a (.inRegion (o::l).toArray (0::List.range' 1 l.length)::k)).finish v=b.atR (a.put o.dst v) (.inRegion (o::l).toArray (List.range' 1 l.length)::k):=by
  intro v;rw[Frame.finish_atR,y];rfl
 have D:(b.atR a (.inRegion (o::l).toArray (0::List.range' 1 l.length)::k)).kind = .deferred:=B;have s:=tryRecover_deferred D d;have G:List.range (o::l).toArray.size=0::List.range' 1 l.length:=by simp[List.range_eq_range',List.range'_succ]
 have z:=stepR_region (P:=P) (b:=b) (a:=a) (k:=k) (cs:=d) (w:=w) (id:=id) (ops:=(o::l).toArray);rw[G]at z;refine⟨e,g,d,t,rfl,E,.of_steps (.head (fenced_calm u c Z) z (.one A (step_lone_go ?_))) i⟩
 rw[p,<-m];simp only[Frame.atR,f]at s ⊢;simp[stepG.apply,r,s,q]
theorem Sq {ch:CH} {lp:LH} (I:eQ P tb) (hm:P.follows .mixedOrders=true) {f:Nat} {i:Func} {id m d:Nat} {o:Oper} {l:List Oper} {b:Code} {U:Cx} {q:MD} {a:Array Value} {w:World}
  (c:∀w0:eD noG,rK P w0 ch) (p:Ge P (eD.one w) tb lp) (X:P.funcs[f]? = some i) (V:i.body=some (.seq (.region id (o::l).toArray false) b)) (B:o.guard=none) (W:o.dst=some d) (A:d<i.ntmps)
  (u:∀ρ w,(execOp ρ o).run P w = .ok .recover w) (K:l.all (GI i.ntmps)=true) (hr:Ga tb i.ntmps b=true) (s:i.results = #[]) (aa:a.size<=i.ntmps)
  (h:Ed tb ch (o::l) (XW tb ch lp b m U (FD [])) l ⟨[(d,.inil)],H0⟩=some q) (J:q.e = .normal):
  CallsDIn (FR none) 0 P f a .returning w λe u' E=>∃v,e = .returned v∧u' = .returning∧KW w E:=by
 have D:l.all jG=true:=List.all_eq_true.2 λo C=>(sQ (List.all_eq_true.1 K o C)).1;refine callsDIn_of_wpSIn X V trivial λk T M=> ?_;have r:recoverD (k::T)=none:=by simp[recoverD,M]
 refine wpSIn_seq (Tk D B (u _ _) r ?_);have F:kX (λ_=>none) i.ntmps [(d,.inil)] (({tmps:=a++Array.replicate (i.ntmps - a.size) undef,defers:=[]}:Act).put o.dst .nilIface):=by
  rw[W];refine kX.put ⟨rfl,by simp;omega,λt g B=>(by cases B)⟩ A ?_;exact .inil
 refine Fu I (c (eD.one w)) l ⟨[(d,.inil)],H0⟩ _ _ w K F (eX.start (eD.one w) Z) h λs' G S E Y L Q R=> ?_;refine wpSIn_of_wpIn Z ?_;refine BI I hm c p b _ _ _ s' q G S E _ hr Y Q R ⟨λN x H O j n y z=> ?_,λid N x H O j n y z=> ?_,λN x H O j n y z=> ?_⟩
 ·refine⟨y.defers,k.mode,rfl,.tuple #[],?_,_,rfl,M,z.ext.ext⟩
  simp[results,s]
 ·have:=zI j;rw[J]at this;cases this
 ·have:=LU j;rw[J]at this;cases this
theorem If {o:Oper} {l:List Oper} {b:Array Oper} {Q:Exit->Act->World->Prop} {a:Act} {w w':World} {v:Value} (c:o.guard=none) (d:(execOp a.eval o).run P w = .ok (.value v) w') (h:Sx.wpList P b Q l (a.put o.dst v) w'):Sx.wpList P b Q (o::l) a w:=by
 unfold Sx.wpList;rw[if_pos (by simp[Region.wanted,c])];exact .inl (by simp only[Oper.wp,d,Oper.upon];exact h)
theorem On {o:Oper} {l:List Oper} {b:Array Oper} {Q:Exit->Act->World->Prop} {a:Act} {w w':World} (c:o.guard=none) (d:(execOp a.eval o).run P w = .ok .skip w') (h:Sx.wpList P b Q l (a.put o.dst undef) w'):Sx.wpList P b Q (o::l) a w:=by
 unfold Sx.wpList;rw[if_pos (by simp[Region.wanted,c])];exact .inl (by simp only[Oper.wp,d,Oper.upon];exact h)
theorem Tl {o:Oper} {l:List Oper} {b:Array Oper} {Q:Exit->Act->World->Prop} {a:Act} {w:World} {f:Nat} {args:Array Value} {S:Value->World->Prop} (d:o.guard=none) (g:(execOp a.eval o).run P w = .ok (.enter f args) w)
  (c:Calls P f args w λe w'=>∃v,e = .returned v∧S v w') (h:∀v w',S v w'->Sx.wpList P b Q l (a.put o.dst v) w'):Sx.wpList P b Q (o::l) a w:=by
 unfold Sx.wpList;rw[if_pos (by simp[Region.wanted,d])];refine .inl ?_;simp only[Oper.wp,g,Oper.upon];refine c.mono ?_;rintro e w' ⟨v,rfl,i⟩;exact h v w' i
theorem aam (M:eQ P tb) {c cc T1 T2 i0 i1 i2 i3 y0 y1 y2 y3 y4 y5 y6 y7:Nat} {p0 p1 p2 p3 p4 p5 p6 p7:String} {e0 e1 e2 e3 e4 e5 e6 e7:Array Edge} {z:Func} (hf:P.funcs[c]? = some z) (ag:aR P c) (ah:aR P cc)
  (hb:z.body=some (.seq (.region i0 #[⟨some 2,.alloc T1,y0,p0,e0,none⟩,⟨some 3,.alloc T2,y1,p1,e1,none⟩] false)
   (.seq (.region i1 #[⟨some 4,.makeFunc (.func cc) #[] #[.tmp 2,.tmp 3],y2,p2,e2,none⟩,⟨none,.defer ⟨.value (.tmp 4),#[],#[]⟩,y3,p3,e3,none⟩] false)
   (.seq (.region i2 #[⟨some 5,.move (.tmp 0),y4,p4,e4,none⟩,⟨some 6,.call ⟨.value (.tmp 5),#[],#[]⟩,y5,p5,e5,none⟩] false)
   (.seq (.region i3 #[⟨none,.store T1 (.tmp 2) (.const (.int .i64 0)),y6,p6,e6,none⟩,⟨none,.store T2 (.tmp 3) (.const (.int .i64 0)),y7,p7,e7,none⟩] false) .ret)))))
  (hn:z.ntmps=7) (Q:z.results = #[.cell 2 T1,.cell 3 T2])
  (aa:∀H,sC tb T1 H=some (.ptr H.n 0,H.new (.cells [wE]))) (ab:∀H,sC tb T2 H=some (.ptr H.n 0,H.new (.cells [wE])))
  (ae:∀H h c,GH.cells H h=some [c]->rC tb T1 (.ptr h 0) wE H=some (.un,H.set h (.cells [wE]))) (af:∀H h c,GH.cells H h=some [c]->rC tb T2 (.ptr h 0) wE H=some (.un,H.set h (.cells [wE])))
  (ac:∀H h,GH.cells H h=some [wE]->wM tb T1 (.ptr h 0) H=some wE) (ad:∀H h,GH.cells H h=some [wE]->wM tb T2 (.ptr h 0) H=some wE)
  (N:∀o w,o.size=2->CallsDIn (FR none) 0 P cc o .returning w λe u' l=>∃v,e = .returned v∧u' = .returning∧KW w l)
  {G:dH} {g:Nat} {k j:List Value} {w:World} {H s:GH} {c1 c2:GV} (R:eX w0 G H w) (hc:∀i l,G.le i->eX w0 i ((H.new (.cells [wE])).new (.cells [wE])) l->∃x,kF P w0 i g (k++j) l x s) (h1:s.cells H.n=some [c1]) (J:s.cells (H.n+1)=some [c2]):
  kF P w0 G c [.func (.func g) k.toArray j.toArray] w (.tup [wE,wE]) ((((s.set H.n (.cells [wE])).set (H.n+1) (.cells [wE])).del H.n).del (H.n+1)):=by
 refine .inr ⟨ag _ w,?_⟩;refine Nb (r:=none) (n:=0) (callsIn_of_wp_defers hf hb trivial ?_);rw[hn];obtain⟨b,w1,ap,aj,C,R1,U⟩:=Ha (P:=P) M R (aa H);obtain⟨d,y,I,ak,p,R2,V⟩:=Ha (P:=P) M R1 (ab _);obtain⟨x,hx⟩:=hc I y (dH.le_trans C p) R2;refine wpIn_seq (sD Z ?_);refine If Z (v:=b) (w':=w1) (by simp[execOp,aj]) ?_;refine If Z (v:=d) (w':=y) (by simp[execOp,ak]) ?_;show Code.wpIn (FR none) 0 P _ _ (⟨#[.func (.func g) k.toArray j.toArray,undef,b,d,undef,undef,undef],[]⟩:Act) y;refine wpIn_seq (wpIn_region_lit ?_);refine wpListIn_plain Z λK hK=>⟨λ_ _=>trivial,?_⟩
 have hm:(Oper.semAt (FR none).round (⟨#[.func (.func g) k.toArray j.toArray,undef,b,d,undef,undef,undef],[]⟩:Act).eval ⟨some 4,.makeFunc (.func cc) #[] #[.tmp 2,.tmp 3],y2,p2,e2,none⟩).run P y = .ok (.value (.func (.func cc) #[] #[b,d])) y:=by
  rw[show(FR none).round=none from rfl,Oper.semAt_none];simp[execOp,Instr.makeFunc,Act.eval]
 rw[hm];refine hK _ _ ?_;show wpListIn _ _ _ _ _ _ (⟨#[.func (.func g) k.toArray j.toArray,undef,b,d,.func (.func cc) #[] #[b,d],undef,undef],[]⟩:Act) y;refine wpListIn_plain Z λK hK=>⟨λ_ _=>trivial,?_⟩
 have hm:(Oper.semAt (FR none).round (⟨#[.func (.func g) k.toArray j.toArray,undef,b,d,.func (.func cc) #[] #[b,d],undef,undef],[]⟩:Act).eval ⟨none,.defer ⟨.value (.tmp 4),#[],#[]⟩,y3,p3,e3,none⟩).run P y = .ok (.defer ⟨.fn (.func cc) #[b,d],#[]⟩) y:=by
  rw[show(FR none).round=none from rfl,Oper.semAt_none];simp[execOp,resolve,Act.eval,Deferred.ofValue]
 rw[hm];refine hK _ _ ?_;show Code.wpIn (FR none) 0 P _ _ (⟨#[.func (.func g) k.toArray j.toArray,undef,b,d,.func (.func cc) #[] #[b,d],undef,undef],[⟨.fn (.func cc) #[b,d],#[]⟩]⟩:Act) y;refine wpIn_seq (sD Z ?_);refine If Z (v:= .func (.func g) k.toArray j.toArray) (w':=y) (by simp[execOp,Act.eval]) ?_;show Sx.wpList _ _ _ _ (⟨#[.func (.func g) k.toArray j.toArray,undef,b,d,.func (.func cc) #[] #[b,d],.func (.func g) k.toArray j.toArray,undef],[⟨.fn (.func cc) #[b,d],#[]⟩]⟩:Act) y;have go:∀v D m,I.le m->eX w0 m s D->Code.wpIn (FR none) 0 P (.seq (.region i3 #[⟨none,.store T1 (.tmp 2) (.const (.int .i64 0)),y6,p6,e6,none⟩,⟨none,.store T2 (.tmp 3) (.const (.int .i64 0)),y7,p7,e7,none⟩] false) .ret) (bodyPostDIn (FR none) 0 P z λe l=>∃v i,e = .returned v∧G.le i∧eX w0 i ((((s.set H.n (.cells [wE])).set (H.n+1) (.cells [wE])).del H.n).del (H.n+1)) l∧Rl i (.tup [wE,wE]) v) (⟨#[.func (.func g) k.toArray j.toArray,undef,b,d,.func (.func cc) #[] #[b,d],.func (.func g) k.toArray j.toArray,v],[⟨.fn (.func cc) #[b,d],#[]⟩]⟩:Act) D:=by
  intro v D m a L;have hz:∀G,Rl G wE (.int .i64 0):=λG=> .int _ _;obtain⟨_,w4,aq,al,q,R4⟩:=Hb (P:=P) (T:=T1) M L ((U.le p).le a) (hz _) (ae _ _ _ h1);have Y:(s.set H.n (.cells [wE])).cells (H.n+1)=some [c2]:=by
   rw[h_]at J ⊢;rw[rM,if_neg (by omega)];exact J
  obtain⟨_,X,W,am,u,R5⟩:=Hb (P:=P) (T:=T2) M R4 ((V.le a).le q) (hz _) (af _ _ _ Y);refine wpIn_seq (sD Z ?_);refine On Z (w':=w4) (by simp[execOp,Act.eval,al]) ?_;refine On Z (w':=X) (by simp[execOp,Act.eval,Act.put,am]) ?_;refine wpIn_ret ?_;show LeavesIn (FR none) 0 P z #[.func (.func g) k.toArray j.toArray,undef,b,d,.func (.func cc) #[] #[b,d],.func (.func g) k.toArray j.toArray,v] _ [⟨.fn (.func cc) #[b,d],#[]⟩] .returning X;refine leavesIn_cons (f:=cc) (args:= #[b,d]) (by simp) (by simp[FR,Fence.wide]) (by simp[invoke,ah _ X]) (λ_ _=>trivial) ?_;refine(N #[b,d] X Z).mono ?_;rintro e u' w6 ⟨x6,rfl,rfl,O⟩;have R6:=R5.ext' O;have F:kX W 7 [(2,.ptr H.n 0),(3,.ptr (H.n+1) 0)] (⟨#[.func (.func g) k.toArray j.toArray,undef,b,d,.func (.func cc) #[] #[b,d],.func (.func g) k.toArray j.toArray,v],[]⟩:Act):=by
   refine⟨rfl,rfl,λt g B=> ?_⟩
   rw[zS]at B;by_cases J:t=2
   ·rw[if_pos J]at B;cases B;rw[J];exact(((U.le p).le a).le q).le u
   ·rw[if_neg J,zS]at B;by_cases h3:t=3
    ·rw[if_pos h3]at B;cases B;rw[h3];exact((V.le a).le q).le u
    ·rw[if_neg h3]at B;cases B
  have E:PM tb ⟨z.results.toList,0,[]⟩ ⟨[(2,.ptr H.n 0),(3,.ptr (H.n+1) 0)],(s.set H.n (.cells [wE])).set (H.n+1) (.cells [wE])⟩=some ⟨.ret,[wE,wE],(s.set H.n (.cells [wE])).set (H.n+1) (.cells [wE])⟩:=by
   rw[Q];have q1:wM tb T1 (.ptr H.n 0) ((s.set H.n (.cells [wE])).set (H.n+1) (.cells [wE]))=some wE:=ac _ _ (by rw[h_,rM,if_neg (by omega),rM,if_pos Z]);have q2:wM tb T2 (.ptr (H.n+1) 0) ((s.set H.n (.cells [wE])).set (H.n+1) (.cells [wE]))=some wE:=ad _ _ (by rw[h_,rM,if_pos Z]);show ob (ob (wM tb T1 (.ptr H.n 0) _) λv=>ob (ob (wM tb T2 (.ptr (H.n+1) 0) _) λv=>ob (some []) λvs=>some (v::vs)) λvs=>some (v::vs)) _=_;rw[q1,q2];rfl
  obtain⟨_,v6,ao,an⟩:=FE (fn:=z) (P:=P) M Z F R6 E;exact⟨v6,an,v6,W,rfl,dH.le_trans C (dH.le_trans p (dH.le_trans a (dH.le_trans q u))),(R6.del _).del _,ao⟩
 rcases hx with⟨v,D,m,hr,a,L,_⟩|⟨hr,A⟩
 ·refine If Z (v:=v) (w':=D) (by simpa [execOp,resolve,Act.eval,Deferred.ofValue,invoke]using hr) ?_;exact go v D m a L
 ·refine Tl Z (f:=g) (args:=(k++j).toArray) (S:=λv l=>∃i,I.le i∧eX w0 i s l) (by simpa [execOp,resolve,Act.eval,Deferred.ofValue,invoke]using hr) (A.mono ?_) λv D ⟨m,a,L⟩=>go v D m a L;rintro e l ⟨v,i,rfl,ai,R',_⟩;exact⟨v,rfl,i,ai,R'⟩
end
noncomputable section
def Pt (n c:Nat) (a:Nat):Nat->Option Nat:=Nat.rec (motive:=λ_=>Nat->Option Nat) (λ_=>none) (λ_ b i=>Bool.casesOn (motive:=λ_=>Option Nat) (Nat.beq (Nat.mod (Nat.shiftRight n (Nat.mul 8 i)) 256) c) (b (Nat.succ i)) (some i)) a
def agu (k:IntKind):Bool:=match k with
 | .u8=>true
 |_=>false
def UU (b:Nat) (f:Nat) (d:List GV):Option GV:=bif Nat.beq f b then List.casesOn (motive:=λ_=>Option GV) d none (λa r=>List.casesOn (motive:=λ_=>Option GV) r none λc r=>List.casesOn (motive:=λ_=>Option GV) r (ob a.asStr λs=>ob c.asI λp=>ob (ZQ p.2) λk=>
 bif agu p.1 then(bif Nat.blt k 256 then Option.casesOn (motive:=λ_=>Option GV) (Pt s.1 k s.2 0) (some (.int .i64 (.negSucc 0))) (λi=>some (.int .i64 (.ofNat i)))else none)else none) λ_ _=>none)else none
theorem QO (x:List UInt8) (c:Nat) (m:c<256):∀k i,i+k=x.length->(match Pt (lN x) c k i with|none=>(-1:Int)|some j=>(j:Int))=(if Lib.indexByte (x.drop i) c.toUInt8 = -1 then -1 else Lib.indexByte (x.drop i) c.toUInt8+i)
 |0,i,h=>by
  rw[List.drop_of_length_le (by omega)];simp[Pt,Lib.indexByte]
 | k + 1, i, h => by
  have o:=QO x c m k (i+1) (by omega);have g:i<x.length:=by omega
  have e:Pt (lN x) c (k+1) i=Bool.casesOn (motive:=λ_=>Option Nat) (Nat.beq (Nat.mod (Nat.shiftRight (lN x) (Nat.mul 8 i)) 256) c) (Pt (lN x) c k (i+1)) (some i):=rfl;rw[e,QF x i g,List.drop_eq_getElem_cons g];have a:(x[i]).toNat=c↔x[i]=c.toUInt8:=by
   rw[<-UInt8.toNat_inj];have:c.toUInt8.toNat=c:=by simp[Nat.toUInt8];omega
   rw[this]
  unfold Lib.indexByte;cases d:Nat.beq (x[i]).toNat c with
  |true=>
   have:=a.1 (Nat.eq_of_beq_eq_true d);simp[this]
  | false =>
   have f:¬x[i]=c.toUInt8:=λl=>by
    have:=a.2 l;rw[this]at d;simp at d
   have n:=Lib.indexByte_ge (x.drop (i+1)) c.toUInt8;simp only[beq_iff_eq,f,if_false];rw[o];by_cases b:Lib.indexByte (x.drop (i+1)) c.toUInt8 = -1
   ·simp[b]
   ·rw[if_neg b,if_neg b,if_neg (by omega)]
    push_cast;omega
section
variable {P:Program} {gs:xS} {w0:eD gs}
theorem Yc {u:Nat} {l:Func} (F:P.funcs[u]? = some l) (e:(l.name == "runtime.NumGoroutine")=false) (D:l.body.isNone=true) (I:Extern.findNext l=none) (E:Extern.find l=some Extern.BytealgIndexByte.indexByte)
  {f:Nat} {i:List GV} {g:GV} (h:UU u f i=some g) (q:dH) (w:World) (o:List Value) (H:GH) (R:eX w0 q H w) (m:oY q i o):kF P w0 q f o w g H:=by
 unfold UU at h;replace h:=bN.1 h;have C:=Nat.eq_of_beq_eq_true h.1;replace h:=h.2;subst C;cases i with
 |nil=>cases h
 |cons a i=>
 cases i with
 |nil=>cases h
 |cons c i=>
 cases i with
 |cons _ _=>cases h
 |nil=>
 obtain⟨s,L,h⟩:=aB.1 (show ob a.asStr _=some g from h);obtain⟨p,J,h⟩:=aB.1 h;obtain⟨k,G,h⟩:=aB.1 h;obtain⟨x,h⟩:=bN.1 h;obtain⟨d,h⟩:=bN.1 h;obtain⟨v,o,rfl,y,m⟩:=m.of_cons;obtain⟨N,o,rfl,b,m⟩:=m.of_cons;rw[m.of_nil];rw[pL L]at y;rw[nY J]at b;obtain⟨S,rfl,A,M⟩:=y.str_inv;have b:=b.int_inv;subst b;have t:p.1 = .u8:=by cases K:p.1<;>rw[K]at x<;>first|rfl|cases x
 have r:p.2=(k:Int):=Gi G;have d:k<256:=by simpa using d
 refine .inl ⟨.int .i64 (Lib.indexByte S.data.toList p.2.toNat.toUInt8),w,q,?_,dH.le_refl _,R,?_⟩
 ·rw[run_callFunc_extern F e D I E,t,Lib.run_indexByteString];rfl
 ·have n:=QO (bH S) k d s.2 0 (by omega);rw[A]at h;rw[List.drop_zero]at n;have B:Lib.indexByte S.data.toList p.2.toNat.toUInt8=(match Pt (lN (bH S)) k s.2 0 with|none=>(-1:Int)|some j=>(j:Int)):=by
   rw[n,r];have:bH S=S.data.toList:=rfl;rw[this];simp only[Int.toNat_natCast];split
   ·assumption
   ·omega
  rw[B];cases z:Pt (lN (bH S)) k s.2 0 with
  |none=>rw[z]at h;cases h;exact .int _ _
  |some j=>rw[z]at h;cases h;exact .int _ _
end
end
noncomputable section
def aas {a:Type} (c:Nat) (d:List GV->Option a) (n:Nat):List GV->Option (List a):=Nat.rec (motive:=λ_=>List GV->Option (List a)) (λ_=>some []) (λ_ e b=>ob (d (b.take c)) λy=>ob (e (b.drop c)) λf=>some (y::f)) n
def JI {b:Type} (H:GH) (a:Nat) (d:List GV->Option b) (v:GV):Option (List b):=ob (sH H a v) λp=>bif Nat.ble p.1 1099511627776 then aas a d p.1 p.2 else none
def dI (k:IntKind) (a:List GV):Option Int:=List.casesOn (motive:=λ_=>Option Int) a none λc r=>List.casesOn (motive:=λ_=>Option Int) r (ob c.asI λp=>bif decide (p.1=k)then some p.2 else none) λ_ _=>none
def dP {b c:Type} (n:Nat) (d:List GV->Option b) (e:List GV->Option c) (a:List GV):Option (b×c):=ob (d (a.take n)) λx=>ob (e (a.drop n)) λy=>some (x,y)
def dS {a:Type} (H:GH) (e:Nat) (d:List GV->Option a) (b:List GV):Option (List a):=List.casesOn (motive:=λ_=>Option (List a)) b none λc r=>List.casesOn (motive:=λ_=>Option (List a)) r (JI H e d c) λ_ _=>none
end
section
variable {P:Program} {gs:xS} {w0:eD gs} {w:World} {ρ:dH} {H:GH} {S:Nat->Prop}
def All (_:Nat):Prop:=True
def dB {b c:Type} (S:Nat->Prop) (ρ:dH) (w:World) (d:List GV->Option c) (r:eG b) (e:b->c):Prop:=∀gs a y,oY ρ gs a->d gs=some y->gs.length=r.sz->∃z,e z=y∧r.R w S a z
theorem dB.int (k:IntKind):dB S ρ w (dI k) (eG.int k) id:=λgs f y b h _=>by
 cases gs with
 |nil=>cases h
 |cons c gs=>
 cases gs with
 |cons _ _=>cases h
 |nil=>
 obtain⟨p,e,h⟩:=aB.1 (show ob c.asI _=some y from h);obtain⟨a,h⟩:=bN.1 h;cases h;obtain⟨v,f,rfl,d,b⟩:=b.of_cons;rw[b.of_nil];rw[nY e]at d;rw[d.int_inv];have a:=of_decide_eq_true a;exact⟨p.2,rfl,by rw[a];rfl⟩
theorem dB.pair {q t b c:Type} {d:List GV->Option b} {e:List GV->Option c} {r:eG q} {s:eG t} {m:q->b} {n:t->c} (u:dB S ρ w d r m) (A:dB S ρ w e s n):dB S ρ w (dP r.sz d e) (eG.pair r s) (λz=>(m z.1,n z.2)):=λgs l y f h p=>by
 obtain⟨x,B,h⟩:=aB.1 (show ob (d (gs.take r.sz)) _=some y from h);obtain⟨F,j,h⟩:=aB.1 h;cases h;have p:gs.length=r.sz+s.sz:=p;have E:=f.len;obtain⟨z,rfl,C⟩:=u _ (l.take r.sz) _ (by simpa using f.sub 0 r.sz) B (by simp;omega);obtain⟨D,rfl,k⟩:=A _ (l.drop r.sz) _ ⟨by simp;omega,λi g v o a=>by rw[List.getElem?_drop]at o a;exact f.at' _ _ _ o a⟩ j (by simp;omega);exact⟨(z,D),rfl,_,_,(List.take_append_drop r.sz l).symm,C,k⟩
theorem QE {C D:Type} {d:List GV->Option D} {r:eG C} {E:C->D} (F:dB S ρ w d r E) (b:Nat):∀(n:Nat) (f:List GV) (m:List Value) (a:Nat) (l:List D),aas r.sz d n f=some l->oY ρ f m->f.length=n*r.sz->(∀(j:Nat) x,m[j]? = some x->w.cell? ⟨b,a+j,none⟩=some x)->
  ∃p:List C,p.map E=l∧p.length=n∧∀(i:Nat) z,p[i]? = some z->∃q,(∀(j:Nat) e,q[j]? = some e->w.cell? ⟨b,a+(i*r.sz+j),none⟩=some e)∧r.R w S q z
 |0,f,m,a,l,h,hr,hl,hc=>by
  cases h;exact⟨[],rfl,rfl,λi z t=>by simp at t⟩
 | n + 1, f, m, a, l, h, hr, hl, hc => by
  obtain⟨y,M,h⟩:=aB.1 (show ob (d (f.take r.sz)) (λy=>ob (aas r.sz d n (f.drop r.sz)) λl=>some (y::l))=some l from h);obtain⟨B,s,h⟩:=aB.1 h;cases h;rw[Nat.succ_mul]at hl;have O:=hr.len;obtain⟨z,rfl,t⟩:=F _ (m.take r.sz) _ (by simpa using hr.sub 0 r.sz) M (by simp;omega);obtain⟨p,rfl,u,A⟩:=QE F b n (f.drop r.sz) (m.drop r.sz) (a+r.sz) B s ⟨by simp;omega,λi g v G o=>by rw[List.getElem?_drop]at G o;exact hr.at' _ _ _ G o⟩ (by simp;omega) (λj x J=>by
   rw[List.getElem?_drop]at J;rw[Nat.add_assoc];exact hc _ _ J)
  refine⟨z::p,rfl,by simp[u],λi N c=> ?_⟩
  cases i with
  | zero =>
   simp at c;subst c;refine⟨_,λj e k=> ?_,t⟩
   rw[List.getElem?_take]at k;by_cases I:j<r.sz
   ·rw[if_pos I]at k;have:=hc j e k;simpa using this
   ·rw[if_neg I]at k;cases k
  |succ i=>
   simp at c;obtain⟨q,K,L⟩:=A i N c;refine⟨q,λj e k=> ?_,L⟩
   have:=K j e k;rw[Nat.succ_mul];rw[show a+(i*r.sz+r.sz+j)=a+r.sz+(i*r.sz+j) by omega];exact this
theorem Nh (R:eX w0 ρ H w) {v:GV} {V:Value} {B:Nat} {p:Nat×List GV} (t:Rl ρ v V) (h:sH H B v=some p):
  p.2.length=p.1*B∧∃a c,V = .slice a p.1 c∧p.1<=c∧(p.1=0∨∃b i o,a=some ⟨b,i,none⟩∧w0.mine b∧oY ρ p.2 o∧∀(j:Nat) x,o[j]? = some x->w.cell? ⟨b,i+j,none⟩=some x):=by
 obtain⟨o,C⟩:=BH R t h;refine⟨by rw[C.rel.len,C.len],?_⟩
 obtain⟨f,c,y,D,F⟩:=C.val;refine⟨f,c,y,D,?_⟩
 rcases F with⟨_,m,_⟩|⟨A,rfl,d⟩
 ·exact .inl m
 ·by_cases m:p.1=0
  ·exact .inl m
  ·refine .inr ?_;unfold sH at h;cases z:v.isSnil with
   |true=>rw[z]at h;cases h;exact absurd Z m
   | false =>
    rw[z]at h;obtain⟨s,I,h⟩:=aB.1 (show ob v.asS _=some p from h);rw[AK I,y]at t;obtain⟨l,u,K,G,e,E,n⟩:=t.sl_inv;injection e with k M N;injection k with k;rcases n with n|⟨n,_⟩
    ·omega
    ·rw[n]at k;subst k;have r:w0.mine l.b:=by
      obtain⟨_,h⟩:=bN.1 h;obtain⟨L,q,_⟩:=aB.1 h;obtain⟨O,g,r,_⟩:=R.live _ _ (h_.1 q);rw[G]at g;cases g;exact r
     exact⟨l.b,l.off+s.2.1,o,rfl,r,C.rel,λj x J=>by have:=d j x J;rwa[eO]at this⟩
theorem Av {m n:Type} {d:List GV->Option n} {r:eG m} {o:m->n} (R:eX w0 ρ H w) (t:∀k,w0.mine k->S k) (u:dB S ρ w d r o) {v:GV} {V:Value} {j:List n} (B:Rl ρ v V) (h:JI H r.sz d v=some j):∃l:List m,l.map o=j∧Ld r w S V l:=by
 obtain⟨p,z,h⟩:=aB.1 (show ob (sH H r.sz v) _=some j from h);obtain⟨g,h⟩:=bN.1 h;have g:p.1<=1099511627776:=by simpa using g
 obtain⟨i,a,f,rfl,E,x⟩:=Nh R B z;rcases x with q|⟨b,e,D,rfl,y,A,c⟩
 ·rw[q]at h;cases h;exact⟨[],rfl,a,f,by rw[q];rfl,by simp,.inl Z⟩
 ·obtain⟨l,rfl,s,C⟩:=QE u b p.1 p.2 D e j h A i c;exact⟨l,rfl,some ⟨b,e,none⟩,f,by rw[s],by rw[s];omega,.inr ⟨b,e,rfl,t b y,C⟩⟩
theorem dB.sl {e f:Type} {d:List GV->Option f} {r:eG e} {b:e->f} (R:eX w0 ρ H w) (g:∀k,w0.mine k->S k) (i:dB S ρ w d r b):dB S ρ w (dS H r.sz d) (eG.sl r) (λz=>z.2.map b):=λgs vs y a h n=>by
 cases gs with
 |nil=>cases h
 |cons c gs=>
 cases gs with
 |cons _ _=>cases h
 |nil=>
 have h:JI H r.sz d c=some y:=h;obtain⟨v,vs,rfl,j,a⟩:=a.of_cons;rw[a.of_nil];obtain⟨m,rfl,l⟩:=Av R g i j h;exact⟨(v,m),rfl,rfl,l⟩
end
noncomputable section
def uA {c:Type} (e:Nat) (g:c->List GV) (a:List (List c)):GH->List GV×GH:=List.rec (motive:=λ_=>GH->List GV×GH) (λH=>([],H)) (λb _ d H=>let r:=d (H.new (.cells (b.flatMap g)));(.sl H.n 0 b.length e::r.1,r.2)) a
end
section
variable {P:Program} {gs:xS} {w0:eD gs} {w:World} {ρ:dH} {H:GH}
def DZ (ρ:dH) (H:GH) (B:Nat->Prop):Prop:=∀h o l,H.get h=some o->ρ h=some l->¬B l.b
theorem DZ.mono {B b:Nat->Prop} (h:DZ ρ H B) (f:∀k,b k->B k):DZ ρ H b:=λa o l c d e=>h a o l c d (f _ e)
theorem DZ.start (R:eX w0 ρ H w):DZ ρ H (λk=>w.heap.size<=k):=λh o l b c e=>by
 obtain⟨f,a,_,d⟩:=R.live h o b;rw[c]at a;cases a;have:=d.lt;omega
theorem GA {N:Type} {e:dD N} {d:List N} {cs:List GV} {v:Value} {B F:Nat->Prop} (R:eX w0 ρ H w) (A:DZ ρ H B) (U:∀k,B k->w0.mine k) (s:∀k,F k->B k) (V:Dl e w F v d) (E:d≠[]) (t:oY ρ cs (cellsOf e d)):
  ∃f,ρ.le f∧eX w0 f (H.new (.cells cs)) w∧Rl f (.sl H.n 0 d.length e.sz) v∧DZ f (H.new (.cells cs)) (λk=>B k∧¬F k):=by
 obtain⟨_,y,W⟩:=V;rcases W with⟨_,S⟩|⟨b,p,r,T,c,rfl,C,I,D,G,a⟩
 ·exact absurd S E
 have M:(cellsOf e d).length=d.length*e.sz:=by
  rw[<-a];simp;have:d.length*e.sz<=r*e.sz:=Nat.mul_le_mul_right _ D;omega
 have u:ρ.le (ρ.upd H.n ⟨b,p,c.size,.cells c T (0,0),.cells cs⟩):=wQ (R.fresh _ (Nat.le_refl _));have J:d.length*e.sz<=r*e.sz:=Nat.mul_le_mul_right _ D;obtain⟨_,O⟩:=R.new (o:= .cells cs) (l:=⟨b,p,c.size,.cells c T (0,0),.cells cs⟩) R.ext (λh o' Y j m=>⟨rfl,λQ=>A h o' Y j m (by rw[Q];exact s _ C)⟩) (U _ (s _ C)) ⟨c,T,I,rfl,by
   show p+cs.length<=c.size;have:=t.len;omega,λi g j=>by
   obtain⟨x,q,X⟩:=t.get j;refine⟨x,?_,X.le u,List.all_eq_true.1 y x (List.mem_of_getElem? q)⟩
   rw[<-a,List.getElem?_take]at q;by_cases K:i<d.length*e.sz
   ·rw[if_pos K,List.getElem?_drop,Array.getElem?_toList]at q;exact q
   ·rw[if_neg K]at q;cases q⟩ I
 refine⟨_,u,O,.sl (by simp[dH.upd];rfl) D (.inr ⟨rfl,G⟩),λh o l j m L=> ?_⟩
 rw[qD]at j;by_cases z:h=H.n
 ·rw[z]at m;simp[dH.upd]at m;subst m;exact L.2 C
 ·rw[if_neg z]at j;simp only[dH.upd,if_neg z]at m;exact A h o l j m L.1
theorem Lt {b:Type} {e:dD b} {g:b->List GV} (c:∀x,oY ρ (g x) (e.enc x)):∀a:List b,oY ρ (a.flatMap g) (cellsOf e a)
 | []=> .nil
 |x::a=>(c x).append (Lt c a)
theorem IU {o:Type} {e:dD o} {g:o->List GV} (r:∀ρ x,oY ρ (g x) (e.enc x)):∀(a:List (List o)) (vs:List Value) (G:Nat->Nat->Prop) (B:Nat->Prop) (ρ:dH) (H:GH),eX w0 ρ H w->DZ ρ H B->(∀k,B k->w0.mine k)->vs.length=a.length->
  (∀xs∈a,xs≠[])->(∀i v xs,vs[i]? = some v->a[i]? = some xs->Dl e w (G i) v xs)->(∀i k,G i k->B k)->(∀i j k,G i k->G j k->i=j)->
  ∃c,ρ.le c∧eX w0 c (uA e.sz g a H).2 w∧oY c (uA e.sz g a H).1 vs∧DZ c (uA e.sz g a H).2 (λk=>B k∧∀i,¬G i k)
 | [],vs,G,B,ρ,H,R,A,hB,hl,_,h1,h2,h3=>by
  have:vs=[]:=List.eq_nil_of_length_eq_zero hl;subst this;exact⟨ρ,dH.le_refl _,R,.nil,A.mono λk b=>b.1⟩
 |xs::a,[],G,B,ρ,H,R,A,hB,hl,_,h1,h2,h3=>by simp at hl
 |xs::a,v::vs,G,B,ρ,H,R,A,hB,hl,hne,h1,h2,h3=>by
  obtain⟨p,f,u,F,s⟩:=GA R A hB (h2 0) (h1 0 v xs Z Z) (hne xs (by simp)) (Lt (r ρ) xs);obtain⟨q,d,z,l,t⟩:=IU r a vs (λi=>G (i+1)) _ p _ u s (λk b=>hB k b.1) (by simpa using hl) (λy I=>hne y (by simp[I])) (λi J n h m=>h1 (i+1) J n (by simpa using h) (by simpa using m)) (λi k b=>⟨h2 _ k b,λC=>by have:=h3 _ _ k b C;omega⟩) (λi j k D E=>by have:=h3 _ _ k D E;omega);refine⟨q,dH.le_trans f d,z,.cons (F.le d) l,t.mono λk b=>⟨⟨b.1,b.2 0⟩,λi=>b.2 (i+1)⟩⟩
theorem KE:∀vs:List Value,cellsOf dD.raw vs=vs
 | []=>rfl
 |v::vs=>by show v::cellsOf dD.raw vs=_;rw[KE vs]
end
section
variable {P:Program} {gs:xS} {w0:eD gs} {w:World} {ρ:dH} {H:GH}
theorem EC {f:Nat} {a:List Value} {L:List aY} {V:Value} {g:GV} (c:aR P f) (d:aW P f a.toArray L (λ_:Unit=>V) (λ_ l=>l) (λ_ l=>l)) (R:eX w0 ρ H w) (b:∀h∈L,h.p w All) (i:∀ρ,Rl ρ g V):kF P w0 ρ f a w g H:=by
 refine .inr ⟨c _ w,(d w All b).mono ?_⟩;rintro e j ⟨_,rfl,t⟩;exact⟨V,ρ,rfl,dH.le_refl _,R.ext' t.old.ext,i _⟩
theorem Ps {V W:Type} {e:dD V} {g:V->List GV} {q:dD W} {s:W->List GV} (hg:∀ρ x,oY ρ (g x) (e.enc x)) (I:∀ρ x,oY ρ (s x) (q.enc x)) {f:Nat} {S:List Value} {L:List aY} {r:List V×List (List W)} (C:r.1≠[]) (D:r.2≠[]) (h3:∀U∈r.2,U≠[]) (hb:aR P f)
  (hm:aW P f S.toArray L (λx:Value×Value×List Value=>Value.agg #[x.1,x.2.1]) (λx l=>Ar e x.1 r.1::Ar dD.raw x.2.1 x.2.2::jH q x.2.2 r.2::l) (λ_ l=>l)) (R:eX w0 ρ H w) (hL:∀h∈L,h.p w All):
  kF P w0 ρ f S w (.agg [.sl H.n 0 r.1.length e.sz,.sl (uA q.sz s r.2 (H.new (.cells (r.1.flatMap g)))).2.n 0 r.2.length 1]) ((uA q.sz s r.2 (H.new (.cells (r.1.flatMap g)))).2.new (.cells (uA q.sz s r.2 (H.new (.cells (r.1.flatMap g)))).1)):=by
 refine .inr ⟨hb _ w,(hm w All hL).mono ?_⟩;rintro en A ⟨x,rfl,t⟩;obtain⟨F,O,_⟩:=t.own;have q0:Dl _ A (F 0) x.1 r.1:=O.res 0 _ Z;have q1:Dl dD.raw A (F 1) x.2.1 x.2.2:=O.res 1 _ Z;obtain⟨z,G,q2,Q,q4⟩:(jH q x.2.2 r.2).p A (F 2):=O.res 2 _ Z;have R':=R.ext' t.old.ext;have E:∀i k,F i k->w.heap.size<=k:=λi k c=>by
  rcases(O.rng i k c).1 with h|h
  ·exact h
  exact h.elim
 obtain⟨X,y,R1,K,A1⟩:=GA (B:=λk=>w.heap.size<=k) R' (λa o l C D=>DZ.start R a o l C D) (λk c=> .inl (Nat.le_trans R.ext.size c)) (E 0) q0 C (Lt (hg ρ) r.1);obtain⟨ad,j,R2,M,A2⟩:=IU I r.2 x.2.2 G _ X _ R1 A1 (λk c=> .inl (Nat.le_trans R.ext.size c.1)) z h3 q2 (λi k c=>⟨E _ _ (Q i k c),λu=>by have:=O.dis _ _ k (Q i k c) u;omega⟩) q4;have J:x.2.2≠[]:=λu=>by rw[u]at z;exact D (List.eq_nil_of_length_eq_zero z.symm)
 obtain⟨Y,m,R3,N,_⟩:=GA (cs:=(uA q.sz s r.2 (H.new (.cells (r.1.flatMap g)))).1) (F:=F 1) R2 A2 (λk c=> .inl (Nat.le_trans R.ext.size c.1.1)) (λk c=>⟨⟨E _ _ c,λu=>by have:=O.dis _ _ k c u;omega⟩,λi hi=>by have:=O.dis _ _ k c (Q i k hi);omega⟩) q1 J (by rw[KE];exact M);refine⟨_,Y,rfl,dH.le_trans y (dH.le_trans j m),R3,?_⟩
 refine Fa (vs:=[x.1,x.2.1]) (.cons ((K.le j).le m) (.cons (by rw[<-z];exact N) .nil)) λv hv=>?_;have d:∀{γ:Type} {e:dD γ} {F:Nat->Prop} {v:Value} {U:List γ},Dl e A F v U->one v=true:=λh=>by
  obtain⟨_,_,h⟩:=h;rcases h with⟨rfl,_⟩|⟨b,ac,aa,T,ab,rfl,_⟩<;>rfl
 simp at hv;rcases hv with rfl|rfl
 ·exact d q0
 exact d q1
end
noncomputable section
def Kj (H:GH) (v:GV):Option (List Int):=JI H 1 (dI .i64) v
def Ux (H:GH) (v:GV):Option (List (List (Int×Int))):=JI H 1 (dS H 2 (dP 1 (dI .i64) (dI .i64))) v
def Uw (H:GH) (v:GV):Option (List Int×List (List (Int×Int))):=ob v.asA λc=>List.casesOn (motive:=λ_=>Option (List Int×List (List (Int×Int)))) c none λa r=>List.casesOn (motive:=λ_=>Option (List Int×List (List (Int×Int)))) r none λb r=>List.casesOn (motive:=λ_=>Option (List Int×List (List (Int×Int)))) r (ob (Kj H a) λx=>ob (Ux H b) λy=>some (x,y)) λ_ _=>none
end
section
variable {P:Program} {gs:xS} {w0:eD gs} {w:World} {ρ:dH} {H:GH}
theorem Fp (R:eX w0 ρ H w) {v:GV} {V:Value} {a:List Int} (b:Rl ρ v V) (h:Kj H v=some a):(Sl (eG.int .i64) V a).p w All:=by
 obtain⟨d,rfl,c⟩:=Av R (λ_ _=>trivial) (dB.int .i64) b h;rw[List.map_id];exact c
theorem SA (R:eX w0 ρ H w) {v:GV} {V:Value} {b:List (List (Int×Int))} (c:Rl ρ v V) (h:Ux H v=some b):∃a,(S2 (eG.pair (eG.int .i64) (eG.int .i64)) V a b).p w All:=by
 obtain⟨a,rfl,d⟩:=Av R (λ_ _=>trivial) (dB.sl R (λ_ _=>trivial) (dB.pair (dB.int .i64) (dB.int .i64))) c h;exact⟨a,d,by simp⟩
theorem Sy (R:eX w0 ρ H w) {v:GV} {V:Value} {p:List Int×List (List (Int×Int))} (j:Rl ρ v V) (h:Uw H v=some p):∃e f i,V = .agg #[e,f]∧(Sl (eG.int .i64) e p.1).p w All∧(S2 (eG.pair (eG.int .i64) (eG.int .i64)) f i p.2).p w All:=by
 obtain⟨c,g,h⟩:=aB.1 (show ob v.asA _=some p from h);rw[Iu g]at j;obtain⟨k,rfl,d,_⟩:=j.agg_inv;cases c with
 |nil=>cases h
 |cons a c=>
 cases c with
 |nil=>cases h
 |cons b c=>
 cases c with
 |cons _ _=>cases h
 |nil=>
 obtain⟨x,n,h⟩:=aB.1 (show ob (Kj H a) _=some p from h);obtain⟨y,o,h⟩:=aB.1 h;cases h;obtain⟨e,k,rfl,l,d⟩:=d.of_cons;obtain⟨f,k,rfl,m,d⟩:=d.of_cons;rw[d.of_nil];obtain⟨i,q⟩:=SA R m o;exact⟨e,f,i,rfl,Fp R l n,q⟩
end
noncomputable section
section
variable {α R:Type}
def a0 (a:List α) (k:Option R):Option R:=List.casesOn (motive:=λ_=>Option R) a k (λ_ _=>none)
def a1 (b:List α) (k:α->Option R):Option R:=List.casesOn (motive:=λ_=>Option R) b none λa r=>a0 r (k a)
def a2 (b:List α) (k:α->α->Option R):Option R:=List.casesOn (motive:=λ_=>Option R) b none λa r=>a1 r (k a)
def a3 (b:List α) (k:α->α->α->Option R):Option R:=List.casesOn (motive:=λ_=>Option R) b none λa r=>a2 r (k a)
def a4 (b:List α) (k:α->α->α->α->Option R):Option R:=List.casesOn (motive:=λ_=>Option R) b none λa r=>a3 r (k a)
def a5 (us:List α) (k:α->α->α->α->α->Option R):Option R:=List.casesOn (motive:=λ_=>Option R) us none λa r=>a4 r (k a)
def a6 (b:List α) (k:α->α->α->α->α->α->Option R):Option R:=List.casesOn (motive:=λ_=>Option R) b none λa r=>a5 r (k a)
theorem WH {a:List α} {k:Option R} {r:R} (h:a0 a k=some r):a=[]∧k=some r:=by
 cases a with
 |nil=>exact⟨rfl,h⟩
 |cons _ _=>cases h
theorem Qi {a:List α} {k:α->Option R} {r:R} (h:a1 a k=some r):∃x,a=[x]∧k x=some r:=by
 cases a with
 |nil=>cases h
 |cons x a=>obtain⟨rfl,h⟩:=WH h;exact⟨x,rfl,h⟩
theorem Qj {a:List α} {k:α->α->Option R} {r:R} (h:a2 a k=some r):∃x y,a=[x,y]∧k x y=some r:=by
 cases a with
 |nil=>cases h
 |cons x a=>obtain⟨y,rfl,h⟩:=Qi h;exact⟨x,y,rfl,h⟩
theorem WI {a:List α} {k:α->α->α->Option R} {r:R} (h:a3 a k=some r):∃x y z,a=[x,y,z]∧k x y z=some r:=by
 cases a with
 |nil=>cases h
 |cons x a=>obtain⟨y,z,rfl,h⟩:=Qj h;exact⟨x,y,z,rfl,h⟩
theorem Lg {a:List α} {k:α->α->α->α->Option R} {r:R} (h:a4 a k=some r):∃x y z u,a=[x,y,z,u]∧k x y z u=some r:=by
 cases a with
 |nil=>cases h
 |cons x a=>obtain⟨y,z,u,rfl,h⟩:=WI h;exact⟨x,y,z,u,rfl,h⟩
theorem WJ {a:List α} {k:α->α->α->α->α->Option R} {r:R} (h:a5 a k=some r):∃x y z u v,a=[x,y,z,u,v]∧k x y z u v=some r:=by
 cases a with
 |nil=>cases h
 |cons x a=>obtain⟨y,z,u,v,rfl,h⟩:=Lg h;exact⟨x,y,z,u,v,rfl,h⟩
theorem WK {a:List α} {k:α->α->α->α->α->α->Option R} {r:R} (h:a6 a k=some r):∃x y z u v w,a=[x,y,z,u,v,w]∧k x y z u v w=some r:=by
 cases a with
 |nil=>cases h
 |cons x a=>obtain⟨y,z,u,v,w,rfl,h⟩:=WJ h;exact⟨x,y,z,u,v,w,rfl,h⟩
end
def XQ (k:IntKind) (v:GV):Option Int:=ob v.asI λp=>bif eqK p.1 k then some p.2 else none
def Uz (H:GH) (v:GV):Option (List Int):=JI H 1 (dI .u32) v
def acA (H:GH) (v:GV):Option (Int×List Int×List Int×List Int×Bool×Bool):=ob v.asA λg=>a6 g λa b c d e f=>ob (XQ .i64 a) λn=>ob (Kj H b) λx=>ob (Kj H c) λy=>ob (Kj H d) λz=>ob e.asB λp=>ob f.asB λq=>some (n,x,y,z,p,q)
def gI (n:Int):List GV:=[.int .i64 n]
def gP (p:Int×Int):List GV:=[.int .i64 p.1,.int .i64 p.2]
def fcI {R:Type} (l:List Int):(List Int->R)->R:=List.rec (motive:=λ_=>(List Int->R)->R) (λk=>k []) (λx _ a k=>fi x λx=>a λr=>k (x::r)) l
def fcP {R:Type} (l:List (Int×Int)):(List (Int×Int)->R)->R:=List.rec (motive:=λ_=>(List (Int×Int)->R)->R) (λk=>k []) (λx _ c k=>fi x.1 λa=>fi x.2 λb=>c λr=>k ((a,b)::r)) l
def fcR {R:Type} (l:List (List (Int×Int))):(List (List (Int×Int))->R)->R:=List.rec (motive:=λ_=>(List (List (Int×Int))->R)->R) (λk=>k []) (λx _ a k=>fcP x λx=>a λr=>k (x::r)) l
theorem UM {R:Type}:∀(l:List Int) (k:List Int->R),fcI l k=k l
 | [],k=>rfl
 |x::l,k=>by
  show fi x (λx=>fcI l λr=>k (x::r))=_;rw[Ko,UM l]
theorem UN {R:Type}:∀(l:List (Int×Int)) (k:List (Int×Int)->R),fcP l k=k l
 | [],k=>rfl
 |x::l,k=>by
  show fi x.1 (λa=>fi x.2 λb=>fcP l λr=>k ((a,b)::r))=_;rw[Ko,Ko,UN l]
theorem UO {R:Type}:∀(l:List (List (Int×Int))) (k:List (List (Int×Int))->R),fcR l k=k l
 | [],k=>rfl
 |x::l,k=>by
  show fcP x (λx=>fcR l λr=>k (x::r))=_;rw[UN,UO l]
def Vt (b:Bool) (H:GH):OR:=Bool.casesOn (motive:=λ_=>OR) b (some (.bool false,H)) (some (.bool true,H))
def PG (r:List Int×List (List (Int×Int))) (H:GH):OR:=fcI r.1 λx=>fcR r.2 λy=>bif Nat.beq x.length 0 then none else bif Nat.beq y.length 0 then none else bif y.any λl=>Nat.beq l.length 0 then none else
 fc (x.flatMap gI) λl=>H.newK (.cells l) λh a=>fc (uA 2 gP y a).1 λd=>sn x.length λn=>sn y.length λm=>(uA 2 gP y a).2.newK (.cells d) λc b=>some (.agg [.sl h 0 n 1,.sl c 0 m 1],b)
end
section
variable {P:Program} {gs:xS} {w0:eD gs} {w:World} {ρ:dH} {H H':GH} {g:GV}
theorem oY.one {x:GV} {vs:List Value} (h:oY ρ [x] vs):∃V,vs=[V]∧Rl ρ x V:=by
 obtain⟨v,vs,rfl,a,b⟩:=h.of_cons;rw[b.of_nil];exact⟨v,rfl,a⟩
theorem CN {k:IntKind} {v:GV} {V:Value} {n:Int} (a:Rl ρ v V) (h:XQ k v=some n):V = .int k n:=by
 obtain⟨p,c,h⟩:=aB.1 (show ob v.asI _=some n from h);obtain⟨b,h⟩:=bN.1 h;cases h;rw[nY c]at a;rw[a.int_inv,Gs b]
theorem T_ {v:GV} {V:Value} {b:Bool} (a:Rl ρ v V) (h:v.asB=some b):V = .bool b:=by
 rw[AJ h]at a;exact a.bool_inv
theorem Ni (R:eX w0 ρ H w) {v:GV} {V:Value} {a:List Int} (b:Rl ρ v V) (h:Uz H v=some a):(Sl (eG.int .u32) V a).p w All:=by
 obtain⟨d,rfl,c⟩:=Av R (λ_ _=>trivial) (dB.int .u32) b h;rw[List.map_id];exact c
theorem XP (R:eX w0 ρ H w) {v:GV} {V:Value} {p:Int×List Int×List Int×List Int×Bool×Bool} (l:Rl ρ v V) (h:acA H v=some p):
  ∃m o s,V = .agg #[.int .i64 p.1,m,o,s,.bool p.2.2.2.2.1,.bool p.2.2.2.2.2]∧(Sl (eG.int .i64) m p.2.1).p w All∧(Sl (eG.int .i64) o p.2.2.1).p w All∧(Sl (eG.int .i64) s p.2.2.2.1).p w All:=by
 obtain⟨T,k,h⟩:=aB.1 (show ob v.asA _=some p from h);obtain⟨a,b,c,d,e,f,rfl,h⟩:=WK h;obtain⟨n,I,h⟩:=aB.1 h;obtain⟨x,L,h⟩:=aB.1 h;obtain⟨y,M,h⟩:=aB.1 h;obtain⟨z,N,h⟩:=aB.1 h;obtain⟨q,J,h⟩:=aB.1 h;obtain⟨r,K,h⟩:=aB.1 h;cases h;rw[Iu k]at l;obtain⟨j,rfl,i,_⟩:=l.agg_inv;obtain⟨U,j,rfl,B,i⟩:=i.of_cons;obtain⟨O,j,rfl,C,i⟩:=i.of_cons;obtain⟨Q,j,rfl,D,i⟩:=i.of_cons;obtain⟨S,j,rfl,E,i⟩:=i.of_cons;obtain⟨W,j,rfl,F,i⟩:=i.of_cons;obtain⟨X,rfl,G⟩:=i.one;have t:=CN B I;have u:=T_ F J;have A:=T_ G K;subst t u A;exact⟨O,Q,S,rfl,Fp R C L,Fp R D M,Fp R E N⟩
theorem Je {b:Bool} (h:Vt b H=some (g,H')):g = .bool b∧H'=H:=by
 cases b<;>cases h<;>exact⟨rfl,rfl⟩
theorem Nz {r:List Int×List (List (Int×Int))} (h:PG r H=some (g,H')):r.1≠[]∧r.2≠[]∧(∀a∈r.2,a≠[])∧
  g = .agg [.sl H.n 0 r.1.length 1,.sl (uA 2 gP r.2 (H.new (.cells (r.1.flatMap gI)))).2.n 0 r.2.length 1]∧H'=(uA 2 gP r.2 (H.new (.cells (r.1.flatMap gI)))).2.new (.cells (uA 2 gP r.2 (H.new (.cells (r.1.flatMap gI)))).1):=by
 unfold PG at h;rw[UM,UO]at h;obtain⟨b,h⟩:=kT.1 h;obtain⟨c,h⟩:=kT.1 h;obtain⟨d,h⟩:=kT.1 h;rw[QI,iQ,QI,uZ,uZ,iQ]at h;cases h;refine⟨λe=>(by rw[e]at b;cases b),λe=>(by rw[e]at c;cases c),λa f e=>?_,rfl,rfl⟩
 have:=List.any_eq_false.1 d a f;rw[e]at this;exact this Z
theorem acD (ρ:dH) (x:Int):oY ρ (gI x) [.int .i64 x]:= .cons (.int _ _) .nil
theorem acE (ρ:dH) (x:Int×Int):oY ρ (gP x) [.int .i64 x.1,.int .i64 x.2]:= .cons (.int _ _) (.cons (.int _ _) .nil)
def glb (b:Nat) (a:List Value) (T:Nat):xS:=⟨[(b,.cells a.toArray T (0,0))],[]⟩
theorem Pq {b:Nat} {a:List Value} (w:World) (S:Nat->Prop) (h:∀h∈[Gb b a],h.p w S):∃T,He (glb b a T) w λ_=>False:=by
 obtain⟨_,T,c⟩:=h _ (List.mem_singleton.2 Z);exact⟨T,λp d=>by obtain rfl:=List.mem_singleton.1 d;exact⟨c,id⟩⟩
theorem eX.glb {b:Nat} {a:List Value} {T:Nat} {c:eD (glb b a T)} {w:World} {ρ:dH} {H:GH} (R:eX c ρ H w):(Gb b a).p w All:=⟨trivial,T,(R.glo _ (List.mem_singleton.2 Z)).1⟩
theorem LE {gs:Nat->xS} {f:Nat} {V:Value} {L:List aY} (q:∀w S,(∀h∈L,h.p w S)->∃T,He (gs T) w λ_=>False) (r:aR P f) (y:∀ρ d,Rl ρ g d->d=V) (h:∀T (b:eD (gs T)),kF P b (λ_=>none) f [] b.w g H'):aW P f #[] L (λ_:Unit=>V) (λ_ l=>l) (λ_ l=>l):=by
 intro w0 o z;obtain⟨T,n⟩:=q w0 o z;rcases h T (.of w0 n)with⟨v,A,c,a,_⟩|⟨_,s⟩
 ·have x:=r #[] w0;rw[show([]:List Value).toArray = #[]from rfl]at a;rw[show(eD.of w0 n).w=w0 from rfl,x]at a;cases a
 refine s.mono ?_;rintro e A ⟨v,c,rfl,_,R,a⟩;exact⟨(),by rw[y _ _ a],R.ext,λ_ _=>False,⟨λi m u=>by simp at u,λi k h=>h.elim,λi j k h=>h.elim⟩,λf t=>by simp at t⟩
section
variable {tb:TB} {T:TypeId}
theorem Ql (h:AW tb T=some [wE]) (H:GH):sC tb T H=some (.ptr H.n 0,H.new (.cells [wE])):=by
 unfold sC;rw[h];show H.newK (.cells [wE]) (λh H'=>some (GV.ptr h 0,H'))=_;rw[iQ]
theorem Ru {t:Ty} (h:tb T=some t) (e:t.size=1) (H:GH) (k:Nat) (c:GV) (d:GH.cells H k=some [c]):rC tb T (.ptr k 0) wE H=some (.un,H.set k (.cells [wE])):=by
 show ob (H.cells k) (λb=>ob (tb T) λt=>bif Nat.beq 1 t.size then bif Nat.beq t.size 0 then none else ob (Fv [wE] 0 b) λa=>H.setK k (.cells a) λH'=>some (GV.un,H')else none)=_;rw[d,h];show(bif Nat.beq 1 t.size then bif Nat.beq t.size 0 then none else ob (Fv [wE] 0 [c]) λa=>H.setK k (.cells a) λH'=>some (GV.un,H')else none)=_;rw[e];show H.setK k (.cells [wE]) (λH'=>some (GV.un,H'))=_;rw[wO]
theorem Vh {t:Ty} (h:tb T=some t) (b:wT t.desc=false) (H:GH) (k:Nat) (c:GH.cells H k=some [wE]):wM tb T (.ptr k 0) H=some wE:=by
 show ob (H.cells k) (λa=>ob (tb T) λt=>AB t a 0)=_;rw[c,h];show AB t [wE] 0=_;unfold AB;rw[b];rfl
end
def Ln (a:Func):List Oper:=match a.body with
 |some (.seq (.region _ ops _) _)=>ops.toList
 |_=>[]
def Up (a:Func):Code:=match a.body with
 |some (.seq _ c)=>c
 |_=> .skip
def XM (a:Func):Nat:=match Ln a with
 |o::_=>o.dst.getD 0
 | []=>0
def okN (r:RS):Bool:=match r with
 |some o=>match o.e with
  | .normal=>true
  |_=>false
 |none=>false
theorem Vu {r:RS} (h:okN r=true):∃a,r=some a∧a.e = .normal:=by
 unfold okN at h;cases r with
 |none=>cases h
 |some o=>
  refine⟨o,rfl,?_⟩
  cases b:o.e<;>simp only[b]at h<;>first|rfl|cases h
def okT (r:OR):Bool:=match r with
 |some (.bool true,_)=>true
 |_=>false
theorem Vv {r:OR} (h:okT r=true):∃H',r=some (.bool true,H'):=by
 unfold okT at h;split at h
 ·exact⟨_,rfl⟩
 ·cases h
end
end Go.Gx