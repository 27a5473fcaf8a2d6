/- Models and proofs. Conditions: none. -/
import Derived.Test.YtcnnfkapmjhnaaaGreatDoorZTTr3
import Derived.Test.YtcnnfkapmjhnaaaGreatDoorZTTr1
import Derived.RecoverIn
import Derived.DefersIn
import Derived.Lib.Bytealg
import Derived.Test.YtcnnfkapmjhnaaaGreatDoorZTTr2
set_option linter.unusedVariables false
set_option linter.unusedSimpArgs false
set_option maxHeartbeats 4000000
set_option maxRecDepth 20000
namespace Go.Gx
open Go Go.Sx Go.RowKit
section
variable {R α:Type}
theorem AF (r:OR) (k:GV->GH->Option R):jF r k=jF (jF r HN) k:=by
 cases r with
 |none=>rfl
 |some p=>rfl
theorem eD (x:Option α) {f:α->Option R} {g:α->OR} {k:GV->GH->Option R} (h:∀a,f a=jF (g a) k):ob x f=jF (ob x g) k:=by
 cases x with
 |none=>rfl
 |some a=>exact h a
theorem acK {n:TB} {s:CH} {d:GF} {H:GH} (o:Op) (k:GV->GH->Option R):Ql n s o d H k=jF (Ql n s o d H HN) k:=by
 have e:∀x (f:GV->Option GV),k1 x f d H k=jF (k1 x f d H HN) k:=λx f=>eD _ λx=>eD _ λv=>eD _ λg=>rfl;have j:∀x y (f:GV->GV->Option GV),k2 x y f d H k=jF (k2 x y f d H HN) k:=λx y f=>eD _ λx=>eD _ λv=>eD _ λu=>eD _ λg=>rfl;have B:∀x y z (f:GV->GV->GV->Option GV),k3 x y z f d H k=jF (k3 x y z f d H HN) k:=λx y z f=>eD _ λx=>eD _ λv=>eD _ λu=>eD _ λt=>eD _ λg=>rfl;cases o with
 |move x=>exact eD _ λv=>rfl
 |assign x=>exact eD _ λv=>rfl
 |pick c x y=>exact B _ _ _ _
 |alloc T=>exact AF _ _
 |box T x=>exact eD _ λv=>AF _ _
 |build T G=>exact eD _ λJ=>eD _ λg=>rfl
 |buildSlice T m G=>exact eD _ λx=>AF _ _
 |load T x=>exact eD _ λv=>eD _ λg=>rfl
 |store T x y=>exact eD _ λv=>eD _ λu=>AF _ _
 |nilCheck x=>exact e _ _
 |binOp F T x y A=>exact j _ _ _
 |unOp F T x=>exact e _ _
 |convert S D x=>exact e _ _
 |makeFunc C first r=>
  cases C with
  |func f=>exact eD _ λI=>eD _ λJ=>rfl
  |_=>rfl
 |makeMap T q=>
  cases q with
  |none=>exact AF _ _
  |some x=>rfl
 |makeSlice T x y=>exact eD _ λv=>eD _ λu=>AF _ _
 |slice T x L K E=>
  cases E with
  |none=>exact eD _ λv=>eD _ λl=>eD _ λh=>eD _ λg=>rfl
  |some y=>rfl
 |fieldAddr T x f=>exact e _ _
 |field T x f=>exact e _ _
 |indexAddr T x y=>exact j _ _ _
 |index T x y=>exact j _ _ _
 |lookup T x y M=>exact eD _ λv=>eD _ λu=>eD _ λg=>rfl
 |mapUpdate T x y z=>exact eD _ λv=>eD _ λu=>eD _ λt=>AF _ _
 |extract x i=>exact e _ _
 | call c =>
  obtain⟨p,a,w⟩:=c;cases p with
  |value f=>exact eD _ λv=>eD _ λg=>eD _ λI=>AF _ _
  |invoke x m=>rfl
  | builtin b =>
   show TS n a w b d H k=jF (TS n a w b d H HN) k;obtain⟨a⟩:=a;cases b with
   |len=>
    match a with
    | []=>rfl
    | [x]=>exact eD _ λT=>eD _ λv=>eD _ λg=>rfl
    |_::_::_=>rfl
   |max=>
    match a with
    | []=>rfl
    | [x]=>rfl
    | [x,y]=>exact j _ _ _
    |_::_::_::_=>rfl
   |min=>
    match a with
    | []=>rfl
    | [x]=>rfl
    | [x,y]=>exact j _ _ _
    |_::_::_::_=>rfl
   |append=>
    match a with
    | []=>rfl
    | [x]=>rfl
    | [x,y]=>exact eD _ λT=>eD _ λA=>eD _ λv=>eD _ λu=>AF _ _
    |_::_::_::_=>rfl
   |copy=>
    match a with
    | []=>rfl
    | [x]=>rfl
    | [x,y]=>exact eD _ λT=>eD _ λv=>eD _ λu=>AF _ _
    |_::_::_::_=>rfl
   |cap=>
    match a with
    | []=>rfl
    | [x]=>exact eD _ λT=>eD _ λv=>eD _ λg=>rfl
    |_::_::_=>rfl
   |_=>rfl
 |_=>rfl
theorem Ec {b a:GF}:∀{xs:List Operand},(∀x∈xs,lG b x=lG a x)->Hs b xs=Hs a xs
 | [],_=>rfl
 |x::xs,h=>by
  show ob (lG b x) (λv=>ob (Hs b xs) λc=>some (v::c))=ob (lG a x) (λv=>ob (Hs a xs) λc=>some (v::c));rw[h x zA7,Ec λy d=>h y (zAh _ d)]
theorem Ed {b a:GF}:∀{xs:List (Nat×Operand)},(∀x∈xs,lG b x.2=lG a x.2)->wH b xs=wH a xs
 | [],_=>rfl
 |x::xs,h=>by
  show ob (lG b x.2) (λv=>ob (wH b xs) λc=>some ((x.1,v)::c))=ob (lG a x.2) (λv=>ob (wH a xs) λc=>some ((x.1,v)::c));rw[h x zA7,Ed λy d=>h y (zAh _ d)]
theorem Mh {b a:GF} {o:Option Operand} (h:∀x∈o.toArray,lG b x=lG a x):Jn b o=Jn a o:=by
 cases o with
 |none=>rfl
 |some x=>
  show ob (lG b x) (λv=>some (some v))=ob (lG a x) (λv=>some (some v));rw[h x (by simp)]
theorem WQ {n:TB} {G:CH} {j a:GF} {H:GH} {o:Op} {k:GV->GH->Option R} (h:∀x∈o.operands,lG j x=lG a x):Ql n G o j H k=Ql n G o a H k:=by
 have s:∀x (f:GV->Option GV),lG j x=lG a x->k1 x f j H k=k1 x f a H k:=λx f e=>by simp only[k1,ob,e]
 have t:∀x y (f:GV->GV->Option GV),lG j x=lG a x->lG j y=lG a y->k2 x y f j H k=k2 x y f a H k:=λx y f e w=>by simp only[k2,ob,e,w]
 have J:∀x y z (f:GV->GV->GV->Option GV),lG j x=lG a x->lG j y=lG a y->lG j z=lG a z->k3 x y z f j H k=k3 x y z f a H k:=λx y z f e w A=>by simp only[k3,ob,e,w,A]
 cases o with
 |move x=>show Kl x j H k=Kl x a H k;simp only[Kl,ob,h x (by simp[Op.operands])]
 |assign x=>show Kl x j H k=Kl x a H k;simp only[Kl,ob,h x (by simp[Op.operands])]
 |pick c x y=>exact J _ _ _ _ (h _ (by simp[Op.operands])) (h _ (by simp[Op.operands])) (h _ (by simp[Op.operands]))
 |alloc T=>rfl
 |box T x=>show acT x j H k=acT x a H k;simp only[acT,ob,h x (by simp[Op.operands])]
 | build T ps =>
  show ob (wH j ps.toList) _=ob (wH a ps.toList) _;rw[Ed λx d=>h x.2 (by
   have:x∈ps:=by simpa using d
   simp only[Op.operands,List.mem_toArray,zAn];exact⟨x,d,rfl⟩)]
 | buildSlice T m ps =>
  show ob (wH j ps.toList) _=ob (wH a ps.toList) _;rw[Ed λx d=>h x.2 (by
   simp only[Op.operands,List.mem_toArray,zAn];exact⟨x,d,rfl⟩)]
 |load T x=>show Vq n T x j H k=Vq n T x a H k;simp only[Vq,ob,h x (by simp[Op.operands])]
 |store T x y=>show PC n T x y j H k=PC n T x y a H k;simp only[PC,ob,h x (by simp[Op.operands]),h y (by simp[Op.operands])]
 |nilCheck x=>exact s _ _ (h _ (by simp[Op.operands]))
 |binOp L T x y M=>exact t _ _ _ (h _ (by simp[Op.operands])) (h _ (by simp[Op.operands]))
 |unOp L T x=>exact s _ _ (h _ (by simp[Op.operands]))
 |convert S D x=>exact s _ _ (h _ (by simp[Op.operands]))
 | makeFunc fn first caps =>
  cases fn with
  | func f =>
   show ob (Hs j first.toList) _=ob (Hs a first.toList) _;rw[Ec λx d=>h x (by simp only[Op.operands,Array.mem_append];exact .inl (by simpa using d)),
    Ec (xs:=caps.toList) λx d=>h x (by simp only[Op.operands,Array.mem_append];exact .inr (by simpa using d))]
  |_=>rfl
 |makeMap T q=>
  cases q with
  |none=>rfl
  |some x=>rfl
 |makeSlice T x y=>show Vs n T x y j H k=Vs n T x y a H k;simp only[Vs,ob,h x (by simp[Op.operands]),h y (by simp[Op.operands])]
 | slice T x lo hi mx =>
  cases mx with
  |none=>
   show ob (some x) (λx=>ob (lG j x) λv=>ob (Jn j lo) λl=>ob (Jn j hi) λh=>ob (Cs n T v l h H) λg=>k g H)=ob (some x) (λx=>ob (lG a x) λv=>ob (Jn a lo) λl=>ob (Jn a hi) λh=>ob (Cs n T v l h H) λg=>k g H);have C:Jn j lo=Jn a lo:=Mh λy F=>h y (by simp only[Op.operands,Array.mem_append];exact .inl (.inl (.inr F)));have B:Jn j hi=Jn a hi:=Mh λy F=>h y (by simp only[Op.operands,Array.mem_append];exact .inl (.inr F));have d:lG j x=lG a x:=h x (by simp only[Op.operands,Array.mem_append];exact .inl (.inl (.inl (by simp))));simp only[ob,C,B,d]
  |some y=>rfl
 |fieldAddr T x f=>exact s _ _ (h _ (by simp[Op.operands]))
 |field T x f=>exact s _ _ (h _ (by simp[Op.operands]))
 |indexAddr T x y=>exact t _ _ _ (h _ (by simp[Op.operands])) (h _ (by simp[Op.operands]))
 |index T x y=>exact t _ _ _ (h _ (by simp[Op.operands])) (h _ (by simp[Op.operands]))
 |lookup T x y I=>show Vr n T x y I j H k=Vr n T x y I a H k;simp only[Vr,ob,h x (by simp[Op.operands]),h y (by simp[Op.operands])]
 |mapUpdate T x y z=>show Pz n T x y z j H k=Pz n T x y z a H k;simp only[Pz,ob,h x (by simp[Op.operands]),h y (by simp[Op.operands]),h z (by simp[Op.operands])]
 |extract x i=>exact s _ _ (h _ (by simp[Op.operands]))
 | call c =>
  obtain⟨u,p,r⟩:=c;cases u with
  |value f=>
   have K:lG j f=lG a f:=h f (by simp[Op.operands,Call.operands]);have E:Hs j p.toList=Hs a p.toList:=Ec λx d=>h x (by simp[Op.operands,Call.operands];exact .inr (by simpa using d));show ob (lG j f) _=ob (lG a f) _;simp only[ob,K,E]
  |invoke x m=>rfl
  | builtin b =>
   show TS n p r b j H k=TS n p r b a H k;have d:∀x∈p,lG j x=lG a x:=λx d=>h x (by simp[Op.operands,Call.operands];exact d);obtain⟨p⟩:=p;cases b with
   |len=>
    match p,d with
    | [],_=>rfl
    | [x],d=>show WW n r.toList x j H k=WW n r.toList x a H k;simp only[WW,ob,d x (by simp)]
    |_::_::_,_=>rfl
   |max=>
    match p,d with
    | [],_=>rfl
    | [x],_=>rfl
    | [x,y],d=>exact t _ _ _ (d _ (by simp)) (d _ (by simp))
    |_::_::_::_,_=>rfl
   |min=>
    match p,d with
    | [],_=>rfl
    | [x],_=>rfl
    | [x,y],d=>exact t _ _ _ (d _ (by simp)) (d _ (by simp))
    |_::_::_::_,_=>rfl
   |append=>
    match p,d with
    | [],_=>rfl
    | [x],_=>rfl
    | [x,y],d=>show Zl n r.toList x y j H k=Zl n r.toList x y a H k;simp only[Zl,ob,d x (by simp),d y (by simp)]
    |_::_::_::_,_=>rfl
   |copy=>
    match p,d with
    | [],_=>rfl
    | [x],_=>rfl
    | [x,y],d=>show Rk n r.toList x y j H k=Rk n r.toList x y a H k;simp only[Rk,ob,d x (by simp),d y (by simp)]
    |_::_::_::_,_=>rfl
   |cap=>
    match p,d with
    | [],_=>rfl
    | [x],d=>show WV n r.toList x j H k=WV n r.toList x a H k;simp only[WV,ob,d x (by simp)]
    |_::_::_,_=>rfl
   |_=>rfl
 |_=>rfl
end
noncomputable def Gw (c:TB) (b:CH) (all:List Oper) (o:Oper) (a:GF) (H:GH):OR:=Option.casesOn (motive:=λ_=>OR) o.guard (Ql c b o.op a H HN) λg=>ob (I_ all g.1) λe=>ob e.dst λd=>ob (Gy a d) λv=>evG c b o ⟨a,H⟩ g.2 v
theorem acD {b:TB} {a:CH} {all:List Oper} {o:Oper} {k:GS->RS} {s:GS}:LZ b a all o k s=jF (Gw b a all o s.σ s.H) (opK o.dst s k):=by
 unfold LZ Gw;cases o.guard with
 |none=>exact acK _ _
 |some g=>exact eD _ λd=>eD _ λc=>eD _ λv=>rfl
theorem Gc {d:TB} {c:CH} {all:List Oper} {o:Oper} {k:GS->RS} {s:GS} {a:Qy} (h:LZ d c all o k s=some a):∃g b,Gw d c all o s.σ s.H=some (g,b)∧k ⟨putD o.dst g s.σ,b⟩=some a:=by
 rw[acD]at h;obtain⟨g,b,e,f⟩:=oQ h;exact⟨g,b,e,f⟩
theorem TG {c:TB} {b:CH} {all:List Oper} {o:Oper} {d a:GF} {H:GH} (h:∀t∈o.looksAt all.toArray,Gy d t=Gy a t):Gw c b all o d H=Gw c b all o a H:=by
 have e:Ql c b o.op d H HN=Ql c b o.op a H HN:=WQ λx l=>by
  cases x with
  |tmp t=>exact h t (List.mem_append_left _ (List.mem_filterMap.2 ⟨.tmp t,by simpa using l,rfl⟩))
  |_=>rfl
 unfold Gw;cases j:o.guard with
 |none=>exact e
 | some g =>
  show ob (I_ all g.1) _=ob (I_ all g.1) _;cases f:I_ all g.1 with
  |none=>rfl
  | some oj =>
   show ob oj.dst _=ob oj.dst _;cases i:oj.dst with
   |none=>rfl
   | some dj =>
    have k:dj∈o.looksAt all.toArray:=by
     rw[wK]at f;simp[Oper.looksAt,j,f,i]
    show ob (Gy d dj) (λv=>evG c b o ⟨d,H⟩ g.2 v)=ob (Gy a dj) (λv=>evG c b o ⟨a,H⟩ g.2 v);rw[h dj k];cases Gy a dj with
    |none=>rfl
    | some v =>
     show evG c b o ⟨d,H⟩ g.2 v=evG c b o ⟨a,H⟩ g.2 v;cases v with
     |bool q=>
      show Bool.casesOn (motive:=λ_=>OR) (Vk q g.2) (some (.un,H)) (Ql c b o.op d H HN)=Bool.casesOn (motive:=λ_=>OR) (Vk q g.2) (some (.un,H)) (Ql c b o.op a H HN);rw[e]
     |_=>rfl
section
variable {P:Program} {tb:TB} {gs:AP} {w0:fC gs}
theorem Ga {u:CH} {all:List Oper} {n:Nat} {o:Oper} {r:GF} {H k:GH} {g:GV} {ρ:eP} {a:Act} (F:l_ ρ n r a) (h:Gw tb u all o r H=some (g,k)):
  (Region.wanted o (yielded all.toArray a.tmps)=true∧Ql tb u o.op r H HN=some (g,k))∨(Region.wanted o (yielded all.toArray a.tmps)=false∧g = .un∧k=H):=by
 unfold Gw at h;cases l:o.guard with
 |none=>
  rw[l]at h;exact .inl ⟨by simp[Region.wanted,l],h⟩
 | some gd =>
  rw[l]at h;obtain⟨A,m,h⟩:=aF.1 (show ob (I_ all gd.1) _=some (g,k)from h);obtain⟨i,s,h⟩:=aF.1 h;obtain⟨v,y,j⟩:=aF.1 h;have e:=F.slot i v y;rw[wK]at m;have t:yielded all.toArray a.tmps gd.1=(match a.tmps[i]? with|some (.bool b)=>some b|_=>none):=by
   unfold yielded;have:(all.toArray[gd.1]?).bind (·.dst)=some i:=by simp[m,s]
   rw[this];rfl
  cases v with
  | bool q =>
   have d:=e.bool_inv;have x:a.tmps[i]? = some (.bool q):=by
    simp only[Act.eval,Array.getD_eq_getD_getElem?]at d;cases p:a.tmps[i]? with
    |none=>rw[p]at d;cases d
    |some z=>rw[p]at d;simp at d;rw[d]
   rw[x]at t;have c:Bool.casesOn (motive:=λ_=>OR) (Vk q gd.2) (some (.un,H)) (Ql tb u o.op r H HN)=some (g,k):=j;rw[Hp]at c;have w:Region.wanted o (yielded all.toArray a.tmps)=(q==gd.2):=by
    simp only[Region.wanted,l];rw[t];cases q<;>cases gd.2<;>rfl
   cases f:(q==gd.2)with
   |true=>rw[f]at c;exact .inl ⟨by rw[w,f],c⟩
   |false=>rw[f]at c;cases c;exact .inr ⟨by rw[w,f],rfl,rfl⟩
  | un =>
   have d:=e.un_inv;cases j;refine .inr ⟨?_,rfl,rfl⟩;simp only[Region.wanted,l];rw[t];have:(match a.tmps[i]? with|some (.bool b)=>some b|_=>none)=(none:Option Bool):=by
    simp only[Act.eval,Array.getD_eq_getD_getElem?]at d;cases p:a.tmps[i]? with
    |none=>rfl
    |some z=>rw[p]at d;simp at d;rw[d];rfl
   rw[this];rfl
  |_=>cases j
theorem KX {f:CH} (k:fV P tb) (c:tW P w0 f) {all:List Oper} {n:Nat} {o:Oper} {e:GF} {H b:GH} {g:GV} {d:eP} {a:Act} {w:World} (p:JB n o=true) (F:l_ d n e a) (R:gF w0 d H w) (h:Gw tb f all o e H=some (g,b)):
  (Region.wanted o (yielded all.toArray a.tmps)=true∧Dl P w0 d e a w o g H b)∨(Region.wanted o (yielded all.toArray a.tmps)=false∧g = .un∧b=H):=by
 obtain⟨_,_,j⟩:=vO p;rcases Ga F h with⟨r,l⟩|h
 ·obtain⟨s,i,m,q⟩:=TN k c F R j l;cases m;exact .inl ⟨r,q⟩
 ·exact .inr h
def aaq (tb:TB) (T:TypeId):Bool:=match tb T with
 |some t=>(match t.desc with|.array .. => false|_=>true)
 |none=>false
def pureOp (tb:TB):Op->Bool
 | .move _ | .assign _ | .pick .. | .build .. | .nilCheck _ | .binOp .. | .unOp .. | .convert .. | .makeFunc .. | .fieldAddr .. | .field .. | .indexAddr .. | .index .. | .extract .. => true
 | .slice T _ _ _ _=>aaq tb T
 | .call ⟨.builtin .len,_,_⟩ | .call ⟨.builtin .max,_,_⟩ | .call ⟨.builtin .min,_,_⟩=>true
 |_=>false
def isFloat:Op->Bool
 | .buildSlice .. | .alloc .. | .box .. => true
 |_=>false
theorem iC {b:eP} {g:GV} {s:Sem Value} {a:Act} {o:Oper} (h:DL P b s g) (c:∀w v,s.run P w = .ok v w->(execOp a.eval o).run P w = .ok (.value v) w):∃v,Rl b g v∧∀w,(execOp a.eval o).run P w = .ok (.value v) w:=
 let ⟨v,hv,hr⟩:=h;⟨v,hv,λw=>c w v (hr w)⟩
theorem Zd {ih:CH} (E:fV P tb) {ρ:eP} {n:Nat} {s:GF} {a:Act} (F:l_ ρ n s a) {o:Oper} {H r:GH} {g:GV} (R:pureOp tb o.op=true) (aa:MA o.op=true) (h:Ql tb ih o.op s H HN=some (g,r)):
  r=H∧∃v,Rl ρ g v∧∀w,(execOp a.eval o).run P w = .ok (.value v) w:=by
 obtain⟨d,W,J,ad,ac,gd⟩:=o;cases W with
 |move x=>
  obtain⟨v,q,h⟩:=aF.1 (show ob (lG s x) _=some (g,r)from h);cases h;exact⟨rfl,_,cJ F q,λw=>by simp[execOp]⟩
 |assign x=>
  obtain⟨v,q,h⟩:=aF.1 (show ob (lG s x) _=some (g,r)from h);cases h;exact⟨rfl,_,cJ F q,λw=>by simp[execOp]⟩
 |pick c x y=>
  obtain⟨v,q,h⟩:=aF.1 (show ob (lG s c) _=some (g,r)from h);obtain⟨u,C,h⟩:=aF.1 h;obtain⟨t,ht,h⟩:=aF.1 h;obtain⟨z,k,h⟩:=aF.1 h;cases h;obtain⟨b,hb,k⟩:=aF.1 (show ob v.asB _=some g from k);have Y:=cJ F q;rw[CX hb]at Y;cases b with
  |true=>cases k;exact⟨rfl,_,cJ F C,λw=>by simp[execOp,Y.bool_inv,asBool]⟩
  |false=>cases k;exact⟨rfl,_,cJ F ht,λw=>by simp[execOp,Y.bool_inv,asBool]⟩
 | build T ps =>
  obtain⟨vs,N,h⟩:=aF.1 (show ob (wH s ps.toList) _=some (g,r)from h);obtain⟨z,k,h⟩:=aF.1 h;cases h;exact⟨rfl,iC (Ou E (Dq F N) k) (λw v j=>by
   have e:(ps.toList.map λp=>(p.1,a.eval p.2)).toArray=ps.map λp=>(p.1,a.eval p.2):=by apply Array.toList_inj.1;simp
   rw[e]at j;simp[execOp,j])⟩
 |nilCheck x=>
  obtain⟨v,q,h⟩:=aF.1 (show ob (lG s x) _=some (g,r)from h);obtain⟨z,k,h⟩:=aF.1 h;cases h;obtain⟨rfl,j⟩:=Ry (P:=P) (cJ F q) k;exact⟨rfl,_,cJ F q,λw=>j _ x a.eval Z Z w⟩
 | binOp W T x y T' =>
  obtain⟨v,q,h⟩:=aF.1 (show ob (lG s x) _=some (g,r)from h);obtain⟨u,C,h⟩:=aF.1 h;obtain⟨z,k,h⟩:=aF.1 h;cases h;exact⟨rfl,iC (VV E x y (cJ F q) (cJ F C) k) (λw v j=>by
   simp only[execOp];simp at j ⊢;cases V:Sem.run P (eqGuard W T x y (a.eval x) (a.eval y)) w with
   |ok u w1=>rw[V]at j;simp at j;simp[j]
   |halt h1 w1=>rw[V]at j;cases j)⟩
 |unOp W T x=>
  obtain⟨v,q,h⟩:=aF.1 (show ob (lG s x) _=some (g,r)from h);obtain⟨z,k,h⟩:=aF.1 h;cases h;exact⟨rfl,iC (aaI (cJ F q) k) (λw v j=>by simp[execOp,j])⟩
 |convert S D x=>
  obtain⟨v,q,h⟩:=aF.1 (show ob (lG s x) _=some (g,r)from h);obtain⟨z,k,h⟩:=aF.1 h;cases h;exact⟨rfl,iC (SB E (cJ F q) k) (λw v j=>by simp[execOp,j])⟩
 | makeFunc fn first caps =>
  cases fn with
  |func f=>
   obtain⟨us,ab,h⟩:=aF.1 (show ob (Hs s first.toList) _=some (g,r)from h);obtain⟨vs,N,h⟩:=aF.1 h;cases h;refine⟨rfl,_,Rl.fn' (Gd F ab) (Gd F N),λw=> ?_⟩
   have e1:(first.toList.map a.eval).toArray=first.map a.eval:=by apply Array.toList_inj.1;simp
   have e2:(caps.toList.map a.eval).toArray=caps.map a.eval:=by apply Array.toList_inj.1;simp
   rw[e1,e2];simp[execOp,Instr.makeFunc]
  |_=>cases h
 |fieldAddr T x f=>
  obtain⟨v,q,h⟩:=aF.1 (show ob (lG s x) _=some (g,r)from h);obtain⟨z,k,h⟩:=aF.1 h;cases h;exact⟨rfl,iC (Ov E (cJ F q) k) (λw v j=>by simp[execOp,j])⟩
 |field T x f=>
  obtain⟨v,q,h⟩:=aF.1 (show ob (lG s x) _=some (g,r)from h);obtain⟨z,k,h⟩:=aF.1 h;cases h;exact⟨rfl,iC (SE E (cJ F q) k) (λw v j=>by simp[execOp,j])⟩
 |indexAddr T x y=>
  obtain⟨v,q,h⟩:=aF.1 (show ob (lG s x) _=some (g,r)from h);obtain⟨u,C,h⟩:=aF.1 h;obtain⟨z,k,h⟩:=aF.1 h;cases h;exact⟨rfl,iC (Ow E (cJ F q) (cJ F C) k) (λw v j=>by simp[execOp,j])⟩
 |index T x y=>
  obtain⟨v,q,h⟩:=aF.1 (show ob (lG s x) _=some (g,r)from h);obtain⟨u,C,h⟩:=aF.1 h;obtain⟨z,k,h⟩:=aF.1 h;cases h;exact⟨rfl,iC (aaA E (cJ F q) (cJ F C) k) (λw v j=>by simp[execOp,j])⟩
 | slice T x lo hi mx =>
  cases mx with
  | none =>
   obtain⟨v,q,h⟩:=aF.1 (show ob (lG s x) _=some (g,r)from h);obtain⟨l,hl,h⟩:=aF.1 h;obtain⟨e,he,h⟩:=aF.1 h;obtain⟨z,k,h⟩:=aF.1 h;cases h;have hA:∀t,tb T=some t->tdA t.desc=none:=λt ht=>by
    have U:aaq tb T=true:=R;unfold aaq at U;rw[ht]at U;simp only at U;cases V:t.desc<;>rw[V]at U<;>first|rfl|cases U
   exact⟨rfl,iC (Ox (gs:=noG) E (.inr hA) (cJ F q) (K_ F hl) (K_ F he) k) (λw v j=>by simp[execOp,j])⟩
  |some y=>cases h
 |extract x i=>
  obtain⟨v,q,h⟩:=aF.1 (show ob (lG s x) _=some (g,r)from h);obtain⟨z,k,h⟩:=aF.1 h;cases h;exact⟨rfl,iC (VY (cJ F q) k) (λw v j=>by simp[execOp,j])⟩
 | call c =>
  obtain⟨X,Q,B⟩:=c;cases X with
  |value f=>cases R
  |invoke x m=>cases R
  | builtin b =>
   have A:B.size=Q.size:=zA2 aa;have h:TS tb Q B b s H HN=some (g,r):=h;cases b with
   | len =>
    obtain⟨x,O,h⟩:=Eg (show Mn Q.toList (WW tb B.toList) s H HN=some (g,r)from h);obtain⟨T,M,h⟩:=aF.1 (show ob (I_ B.toList 0) _=some (g,r)from h);obtain⟨v,q,h⟩:=aF.1 h;obtain⟨z,k,h⟩:=aF.1 h;cases h;have L:=Ll O;subst L;have K:B = #[T]:=by
     rw[wK]at M;obtain⟨l⟩:=B
     match l,A with
     | [t],_=>simp at M;subst M;rfl
    subst K;exact⟨rfl,iC (VZ E (ty:=J) (cJ F q) k) (λw v j=>by simp[execOp,resolve,invoke,builtin,j])⟩
   | cap =>
    obtain⟨x,O,h⟩:=Eg (show Mn Q.toList (WV tb B.toList) s H HN=some (g,r)from h);obtain⟨T,M,h⟩:=aF.1 (show ob (I_ B.toList 0) _=some (g,r)from h);obtain⟨v,q,h⟩:=aF.1 h;obtain⟨z,k,h⟩:=aF.1 h;cases h;have L:=Ll O;subst L;have K:B = #[T]:=by
     rw[wK]at M;obtain⟨l⟩:=B
     match l,A with
     | [t],_=>simp at M;subst M;rfl
    subst K;exact⟨rfl,iC (VW E (ty:=J) (cJ F q) k) (λw v j=>by simp[execOp,resolve,invoke,builtin,j])⟩
   | max =>
    obtain⟨x,y,O,h⟩:=Ay (show Fw Q.toList (λx y=>k2 x y aaH) s H HN=some (g,r)from h);obtain⟨v,q,h⟩:=aF.1 (show ob (lG s x) _=some (g,r)from h);obtain⟨u,C,h⟩:=aF.1 h;obtain⟨z,k,h⟩:=aF.1 h;cases h;have L:=Gq O;subst L;obtain⟨G,I,K⟩:∃G I,B = #[G,I]:=by
     obtain⟨l⟩:=B
     match l,A with
     | [t,t'],_=>exact⟨t,t',rfl⟩
    subst K;exact⟨rfl,iC (V_ (t1:=G) (t2:=I) (ty:=J) (cJ F q) (cJ F C) k) (λw v j=>by simp[execOp,resolve,invoke,builtin,j])⟩
   | min =>
    obtain⟨x,y,O,h⟩:=Ay (show Fw Q.toList (λx y=>k2 x y adL) s H HN=some (g,r)from h);obtain⟨v,q,h⟩:=aF.1 (show ob (lG s x) _=some (g,r)from h);obtain⟨u,C,h⟩:=aF.1 h;obtain⟨z,k,h⟩:=aF.1 h;cases h;have L:=Gq O;subst L;obtain⟨G,I,K⟩:∃G I,B = #[G,I]:=by
     obtain⟨l⟩:=B
     match l,A with
     | [t,t'],_=>exact⟨t,t',rfl⟩
    subst K;exact⟨rfl,iC (Wa (t1:=G) (t2:=I) (ty:=J) (cJ F q) (cJ F C) k) (λw v j=>by simp[execOp,resolve,invoke,builtin,j])⟩
   |_=>cases R
 |_=>cases R
theorem SA (hG:fV P tb) {T:TypeId} {n:Nat} {l:List (Nat×GV)} {parts:List (Nat×Value)} {ρ:eP} {H H':GH} {g:GV} (hp:RlP ρ l parts) (h:CS tb T n l H=some (g,H')):
  ∃cs a' T' len sz,H'=H.new (.cells cs)∧g = .sl H.n 0 len sz∧Wn ρ cs a'∧cs.length=a'.size∧∀w:World,∃V,(Instr.buildSlice T n parts.toArray).run P w = .ok V (w.alloc (.cells a' T'))∧∀ρ':eP,ρ' H.n=some ⟨w.heap.size,0,a'.size,.cells a' T',.cells cs⟩->Rl ρ' g V:=by
 obtain⟨te,hte,h⟩:=aF.1 (show ob (BO tb T) _=some (g,H')from h);obtain⟨zc,hz,h⟩:=aF.1 h;obtain⟨hlen,h⟩:=bU.1 h;obtain⟨hbig,h⟩:=bU.1 h;obtain⟨h0,h⟩:=lR.1 h;obtain⟨cs,hfill,h⟩:=aF.1 h;rw[jU]at h;cases h;obtain⟨⟨d,hd,hde⟩,hE,htab⟩:=Av hG hte;obtain⟨dz,hdz,_,hC⟩:=yU (ρ:=ρ) hG hz;rw[htab]at hdz;cases hdz;have hlen:zc.length=te.2.size:=zA2 hlen;have h0:te.2.size≠0:=λe=>by rw[e]at h0;cases h0
 have hbig:n*te.2.size<16777216:=by simpa [zAw]using hbig
 have hrep:=Lh hC (by omega) n;rw[hlen]at hrep;obtain⟨a',f1,f2⟩:=Ge hp hrep hfill;have hsz0:cs.length=a'.size:=by have:=f2.r.len;simpa using this
 have hsz:a'.size=n*te.2.size:=by
  have e1:=f2.r.len;have:cs.length=(SS zc n).length:=Ht hfill;rw[this,IC,hlen]at e1;simp at e1;omega
 refine⟨cs,a',te.1,n,te.2.size,rfl,rfl,f2,hsz0,λw=>⟨.slice (some ⟨w.heap.size,0,none⟩) n n,?_,λρ' hρ=> .sl (l:=⟨w.heap.size,0,a'.size,.cells a' te.1,.cells cs⟩) hρ (zAe _) (.inr ⟨rfl,by simp[hsz]⟩)⟩⟩
 have hu:=hd.run_und w;rw[hde]at hu;by_cases hn:n*te.2.size=0
 ·have hz0:n=0:=by rcases Nat.mul_eq_zero.1 hn with h|h;exact h;exact absurd h h0
  subst hz0;have e0:(Array.range (0*te.2.size)).map (te.2.zero.cells[· % te.2.zero.cells.size]!)=(#[]:Array Value):=by simp
  rw[e0]at f1;have e1:(Array.range 0).map (λ_=>(default:Value)) = #[]:=by simp
  simp[Instr.buildSlice,hu,hE.run_size w,newRow];simp[e1,f1]
 ·simp[Instr.buildSlice,hu,hE.run_size w,hE.run_zero w,hn,f1,newRow,show¬(16777216<n*te.2.size) by omega]
theorem X_ {t u w:eP} (x:∀h A l,t h=some A->u h=some l->w h=some l) {g:GV} {v:Value} (C:Rl u g v):∀{r:Value},Rl t g r->Rl w g v:=by
 induction C with
 |int k n=>exact λ_=> .int k n
 |bool b=>exact λ_=> .bool b
 |str s=>exact λ_=> .str s
 |ptr y q=>exact λj=>by cases j with|ptr _ m=>exact .ptr y (x _ _ _ m q)
 |pnil=>exact λ_=> .pnil
 |sl q E D=>exact λj=>by cases j with|sl m _ _=>exact .sl (x _ _ _ m q) E D
 |snil=>exact λ_=> .snil
 |map q=>exact λj=>by cases j with|map m=>exact .map (x _ _ _ m q)
 | fn f a b c d ihb ihd =>
   intro r j;cases j with
   | fn _ z p B d0 =>
    refine .fn f a (λi g v e o=> ?_) c (λi g v e o=> ?_)
    ·have:=bJ e;exact ihb i g v e o (p i g _ e (zA0 (by omega)))
    ·have:=bJ e;exact ihd i g v e o (d0 i g _ e (zA0 (by omega)))
 |fnil=>exact λ_=> .fnil
 |inil=>exact λ_=> .inil
 | agg a b c ihb =>
   intro r j;cases j with
   |agg z p B=>
    refine .agg a (λi g v e o=> ?_) c;have:=bJ e;exact ihb i g v e o (p i g _ e (zA0 (by omega)))
 | tup a b ihb =>
   intro r j;cases j with
   |tup z p=>
    refine .tup a (λi g v e o=> ?_);have:=bJ e;exact ihb i g v e o (p i g _ e (zA0 (by omega)))
 |un=>exact λ_=> .un
 |bad v=>exact λ_=> .bad v
 | opn v h hx =>
   intro r j;obtain⟨A,a,_⟩:=j.opn_inv;exact .opn v (x _ _ _ a h) hx
structure Trc (tb:TB) (ih:CH) (all l:List Oper) (S:Nat->GF) (HH:Nat->GH) (gg:Nat->GV):Prop where
 st:∀i o,l[i]? = some o->Gw tb ih all o (S i) (HH i)=some (gg i,HH (i+1))
 up:∀i o,l[i]? = some o->S (i+1)=putD o.dst (gg i) (S i)
theorem NV {d:CH} {all:List Oper} {k:GS->RS} {b:Qy}:∀(l:List Oper) (s:GS),GT tb d all k l s=some b->∃S c e,S 0=s.σ∧c 0=s.H∧Trc tb d all l S c e∧k ⟨S l.length,c l.length⟩=some b
 | [],s,h=>⟨λ_=>s.σ,λ_=>s.H,λ_=> .un,rfl,rfl,⟨λi o a=>by simp at a,λi o a=>by simp at a⟩,h⟩
 | o :: l, s, h => by
  obtain⟨g,t,p,q⟩:=Gc (show LZ tb d all o (GT tb d all k l) s=some b from h);obtain⟨S,c,e,m,n,j,r⟩:=NV l _ q;refine⟨λi=>Nat.casesOn i s.σ S,λi=>Nat.casesOn i s.H c,λi=>Nat.casesOn i g e,rfl,rfl,⟨λi f a=> ?_,λi f a=> ?_⟩,r⟩
  ·cases i with
   |zero=>simp at a;subst a;show Gw tb d all o s.σ s.H=some (g,c 0);rw[p,n]
   |succ i=>exact j.st i f (by simpa using a)
  ·cases i with
   |zero=>simp at a;subst a;exact m
   |succ i=>exact j.up i f (by simpa using a)
theorem B_ {o:Op} (h:pM o=true):e_ o=false:=by
 cases o<;>first|rfl|cases h
structure Vrs (all l:List Oper) (m:List Nat) (i:Nat) (S:Nat->GF) (HH:Nat->GH) (pr:List (Nat×Option (Nat×Nat))) (hs:List (Nat×GH)):Prop where
 pr:∀q h v,(q,some (h,v))∈pr->∀j oj,l[j]? = some oj->e_ oj.op=true->before m (i+j) q=false->(HH (j+1)).ver h=some v
 hs:∀k ok h,l[k]? = some ok->pM ok.op=true->ldH (S k) ok.op=some h->∃v,(HH k).ver h=some v∧∀q Hq,(q,Hq)∈hs->before m (i+k) q=false->Hq.ver h=some v
 lo:∀k ok h v,l[k]? = some ok->pM ok.op=true->ldH (S k) ok.op=some h->(HH k).ver h=some v->
  (∀j oj,j<k->l[j]? = some oj->e_ oj.op=true->before m (i+k) (i+j)=false->(HH j).ver h=some v)∧(∀j oj,k<j->l[j]? = some oj->e_ oj.op=true->before m (i+j) (i+k)=false->(HH (j+1)).ver h=some v)
theorem Vrs.cons {all l:List Oper} {m:List Nat} {i:Nat} {S:Nat->GF} {B:Nat->GH} {G x:List (Nat×Option (Nat×Nat))} {F u:List (Nat×GH)} {o:Oper} {L:GF} {H:GH} (V:Vrs all l m (i+1) S B x u)
  (E:∀p∈G,p∈x) (C:∀p∈F,p∈u) (I:e_ o.op=true->(i,H)∈u∧∀p∈G,before m i p.1=false->∀d,p.2=some d->(B 0).ver d.1=some d.2)
  (J:pM o.op=true->∀h,ldH L o.op=some h->∃v,H.ver h=some v∧(i,some (h,v))∈x∧∀q y,(q,y)∈F->before m i q=false->y.ver h=some v):
  Vrs all (o::l) m i (λj=>Nat.casesOn j L S) (λj=>Nat.casesOn j H B) G F:=by
 have e:∀j,i+(j+1)=i+1+j:=λj=>by omega
 refine⟨λq h v z j w g s f=> ?_,λk A h n s t=> ?_,λk A h v n s t d=>⟨λj w D g r f=> ?_,λj w D g r f=> ?_⟩⟩
 ·cases j with
  |zero=>simp at g;subst g;exact(I s).2 _ z (by simpa using f) _ Z
  |succ j=>exact V.pr q h v (E _ z) j w (by simpa using g) s (by rw[<-e];exact f)
 ·cases k with
  |zero=>
   simp at n;subst n;obtain⟨v,a,_,c⟩:=J s h t;exact⟨v,a,λq y z f=>c q y z (by simpa using f)⟩
  |succ k=>
   obtain⟨v,a,b⟩:=V.hs k A h (by simpa using n) s t;exact⟨v,a,λq y z f=>b q y (C _ z) (by rw[<-e];exact f)⟩
 ·cases k with
  |zero=>omega
  | succ k =>
   have n:l[k]? = some A:=by simpa using n
   cases j with
   |zero=>
    simp at g;subst g;obtain⟨K,a,b⟩:=V.hs k A h n s t;have a:(B k).ver h=some K:=a;have d:(B k).ver h=some v:=d;rw[a]at d;cases d;exact b i H (I r).1 (by rw[<-e];simpa using f)
   |succ j=>exact(V.lo k A h v n s t d).1 j w (by omega) (by simpa using g) r (by rw[<-e,<-e];exact f)
 ·cases j with
  |zero=>omega
  | succ j =>
   have g:l[j]? = some w:=by simpa using g
   cases k with
   |zero=>
    simp at n;subst n;obtain⟨K,a,b,_⟩:=J s h t;have d:H.ver h=some v:=d;rw[a]at d;cases d;exact V.pr i h v b j w g r (by rw[<-e];simpa using f)
   |succ k=>exact(V.lo k A h v (by simpa using n) s t d).2 j w (by omega) g r (by rw[<-e,<-e];exact f)
theorem KY {x:CH} {all:List Oper} {m:List Nat} {k:GS->RS} {A:Qy}:∀(l:List Oper) (i:Nat) (J:List (Nat×Option (Nat×Nat))) (D:List (Nat×GH)) (s:GS),evW tb x all m k l i J D s=some A->
  ∃S a r,S 0=s.σ∧a 0=s.H∧Trc tb x all l S a r∧Vrs all l m i S a J D∧k ⟨S l.length,a l.length⟩=some A
 | [],i,J,D,s,h=>⟨λ_=>s.σ,λ_=>s.H,λ_=> .un,rfl,rfl,⟨λi o d=>by simp at d,λi o d=>by simp at d⟩,⟨λ_ _ _ _ j Y V=>by simp at V,λk X h f=>by simp at f,λk X h v f=>by simp at f⟩,h⟩
 | o :: l, i, J, D, s, h => by
  have t:YR tb x all m o (evW tb x all m k l) i J D s=some A:=h;have B:∀{g:GV} {C:GH} {S:Nat->GF} {a:Nat->GH} {r:Nat->GV},Gw tb x all o s.σ s.H=some (g,C)->S 0=putD o.dst g s.σ->a 0=C->Trc tb x all l S a r->Trc tb x all (o::l) (λj=>Nat.casesOn j s.σ S) (λj=>Nat.casesOn j s.H a) (λj=>Nat.casesOn j g r):=λ{g C S a r} z y n w=>⟨λi O d=>by
    cases i with
    |zero=>simp at d;subst d;show Gw tb x all o s.σ s.H=some (g,a 0);rw[z,n]
    |succ i=>exact w.st i O (by simpa using d),λi O d=>by
    cases i with
    |zero=>simp at d;subst d;exact y
    |succ i=>exact w.up i O (by simpa using d)⟩
  unfold YR at t;cases b:e_ o.op with
  |true=>
   rw[b]at t;obtain⟨g,C,z,E⟩:=Gc t;obtain⟨_,u,K⟩:=aF.1 E;have u:=Fo u;obtain⟨S,a,r,y,n,w,I,f⟩:=KY l _ _ _ _ K;refine⟨_,_,_,rfl,rfl,B z y n w,I.cons (λ_ h=>h) (λp G=>zAh _ G) (λ_=>⟨zA7,λp G L M U=>by rw[n];exact u p G L M U⟩) (λc=>by rw[B_ c]at b;cases b),f⟩
  | false =>
   rw[b]at t;cases c:pM o.op with
   |true=>
    simp only[c]at t;obtain⟨g,C,z,E⟩:=Gc t;obtain⟨e,u,K⟩:=aF.1 E;obtain⟨S,a,r,y,n,w,I,f⟩:=KY l _ _ _ _ K;refine⟨_,_,_,rfl,rfl,B z y n w,I.cons (λp G=>zAh _ G) (λ_ h=>h) (λh=>by rw[b]at h;cases h) (λ_ Q F=> ?_),f⟩
    rw[F]at u;obtain⟨v,N,u⟩:=aF.1 (show ob (s.H.ver Q) (λv=>LS m i Q v D)=some e from u);obtain⟨rfl,T⟩:=Fp u;exact⟨v,N,zA7,λq R W L=>T (q,R) W L⟩
   |false=>
    simp only[c]at t;obtain⟨g,C,z,E⟩:=Gc t;obtain⟨S,a,r,y,n,w,I,f⟩:=KY l _ _ _ _ E;exact⟨_,_,_,rfl,rfl,B z y n w,I.cons (λ_ h=>h) (λ_ h=>h) (λh=>by rw[b]at h;cases h) (λh=>by rw[c]at h;cases h),f⟩
theorem YQ {s:CH} (t:fV P tb) (p:tW P w0 s) {all:List Oper} {n:Nat} {o:Oper} {q:GF} {H k:GH} {g:GV} {d:eP} {a:Act} {w:World} (r:JB n o=true) (F:l_ d n q a) (R:gF w0 d H w) (h:Gw tb s all o q H=some (g,k)):
  ∃b i e,d.le b∧gF w0 b k e∧l_ b n (putD o.dst g q) i:=by
 obtain⟨_,c,_⟩:=vO r;rcases KX t p r F R h with⟨_,x⟩|⟨_,rfl,rfl⟩
 ·rcases x with⟨_,_,_,rfl,v,f,_⟩|⟨_,_,rfl,v,_,_,_,_,_,f,_⟩|⟨_,_,rfl,v,f,_⟩|⟨_,u⟩
  ·exact⟨d,_,w,eP.le_refl _,R,F.putD c f⟩
  ·exact⟨d,_,w,eP.le_refl _,R,F.putD c f⟩
  ·exact⟨d,_,w,eP.le_refl _,R,F.putD c f⟩
  ·obtain⟨i,e,b,v,j,l,m,rfl⟩:=RA (u (λi e=>∃b v,d.le b∧gF w0 b k e∧Rl b g v∧i=a.put o.dst v) λb e v j l m=>⟨b,v,j,l,m,rfl⟩);exact⟨b,_,e,j,l,(F.le j).putD c m⟩
 ·exact⟨d,_,w,eP.le_refl _,R,F.putD c .un⟩
theorem Oq {q:CH} (p:fV P tb) (f:tW P w0 q) {all:List Oper} {n:Nat} (c:all.all (JB n)=true) {S:Nat->GF} {g:Nat->GH} {u:Nat->GV} (T:Trc tb q all all S g u) {k:eP} {a:Act} {w:World} (F:l_ k n (S 0) a) (R:gF w0 k (g 0) w):
    ∀m,m<=all.length->∃b:Nat->eP,(∀i,i<=m->∃a w,gF w0 (b i) (g i) w∧l_ (b i) n (S i) a)∧∀i,i<m->(b i).le (b (i+1))
  | 0, _ => ⟨λ_ => k, λi h => by
      have : i = 0 := by omega
      subst this;exact⟨a,w,R,F⟩,λi h=>by omega⟩
  | m + 1, hm => by
    obtain⟨b,o,v⟩:=Oq p f c T F R m (by omega);obtain⟨A,B,s,r⟩:=o m (zAe _);have d:all[m]? = some all[m]:=zA0 (by omega);obtain⟨l,t,z,j,x,y⟩:=YQ p f (zA5.1 c _ (List.getElem_mem (by omega))) r s (T.st m _ d);refine⟨λi=>if i<=m then b i else l,λi h=> ?_,λi h=> ?_⟩
    · by_cases e:i<=m
      · simp only[e,if_true];exact o i e
      · have:i=m+1:=by omega
        subst this;simp only[e,if_false];exact⟨t,z,x,by rw[T.up m _ d];exact y⟩
    · by_cases e:i+1<=m
      · simp only[e,show i<=m by omega,if_true];exact v i (by omega)
      · have:i=m:=by omega
        subst this;simp only[e,zAe,if_true,if_false];exact j
theorem Sv {a:Nat->GH} {m:Nat} (b:∀i,i<m->(a i).n<=(a (i+1)).n) {i:Nat}:∀{j:Nat},i<=j->j<=m->(a i).n<=(a j).n
  | 0, h, _ => by
      have : i = 0 := by omega
      subst this;exact zAe _
  | j + 1, h, hj => by
    by_cases e:i=j+1
    · subst e;exact zAe _
    · exact zB4 (Sv b (by omega) (by omega)) (b j (by omega))
theorem M_ {w:CH} {all:List Oper} {S:Nat->GF} {u:Nat->GH} {n:Nat->GV} (T:Trc tb w all all S u n) {t:Nat} {g:GV}:∀k,k<=all.length->Gy (S k) t=some g->
  (∃i o,i<k∧all[i]? = some o∧o.dst=some t∧n i=g∧∀j a,i<j->j<k->all[j]? = some a->a.dst≠some t)∨((∀j a,j<k->all[j]? = some a->a.dst≠some t)∧Gy (S 0) t=some g)
 |0,_,h=> .inr ⟨λj a s=>by omega,h⟩
 | k + 1, hk, h => by
  have c:all[k]? = some all[k]:=zA0 (by omega);rw[T.up k _ c]at h;have m:all[k].dst≠some t->Gy (S k) t=some g->_:=λl h=>
   match M_ T k (by omega) h with
   | .inl ⟨i, o, q, p, h3, h4, h5⟩ => (.inl ⟨i, o, by omega, p, h3, h4, λj a r s b => by
     by_cases e:j=k
     ·subst e;rw[c]at b;cases b;exact l
     ·exact h5 j a r (by omega) b⟩:(∃i o,i<k+1∧all[i]? = some o∧o.dst=some t∧n i=g∧∀j a,i<j->j<k+1->all[j]? = some a->a.dst≠some t)∨((∀j a,j<k+1->all[j]? = some a->a.dst≠some t)∧Gy (S 0) t=some g))
   | .inr ⟨q, p⟩ => .inr ⟨λj a s b => by
     by_cases e:j=k
     ·subst e;rw[c]at b;cases b;exact l
     ·exact q j a (by omega) b,p⟩
  cases f:all[k].dst with
  |none=>
   rw[f]at h;exact m (by rw[f];simp) h
  | some d =>
   rw[f]at h;have h:Gy ((d,n k)::S k) t=some g:=h;rw[BP]at h;by_cases e:t=d
   ·subst e;rw[if_pos Z]at h;cases h;exact .inl ⟨k,_,by omega,c,f,rfl,λj a q p=>by omega⟩
   ·rw[if_neg e]at h;exact m (by rw[f];intro v;cases v;exact e Z) h
def sT (o:Op):Bool:=e_ o && !isFloat o
def Mq (tb:TB) (x o:Op):Bool:=pureOp tb x||pureOp tb o||isFloat o||(!e_ x && !e_ o)||(pM x&&e_ o)||(e_ x&&pM o)
def chkF (tb:TB) (l:List Oper) (m:List Nat):Bool:=
 (List.range l.length).all λi=>match l[i]? with
  |none=>false
  |some o=>
   (wA o).all (λe=>Nat.blt e i&&before m i e&&(List.range i).all (λk=> !before m e k||before m i k)) &&
   (List.range l.length).all (λk=> !before m i k||(Nat.blt k i&&(wA o).any (λe=>Nat.beq e k||before m e k))) &&
   !Dr o.op &&
   (List.range i).all (λx=>before m i x||(match l[x]? with|none=>false|some a=>a.apart l.toArray o&&Mq tb a.op o.op))
structure XC (tb:TB) (l:List Oper) (m:List Nat):Prop where
 edge:∀(i:Nat) (o:Oper),l[i]? = some o->∀e∈wA o,e<i∧before m i e=true
 trans:∀(i:Nat) (o:Oper),l[i]? = some o->∀k,before m i k=true->k<l.length->k<i∧∃e∈wA o,e=k∨before m e k=true
 ind:∀(i x:Nat) (oi ox:Oper),l[i]? = some oi->l[x]? = some ox->x<i->before m i x=false->ox.apart l.toArray oi=true∧Mq tb ox.op oi.op=true
theorem Ji {l:List Oper} {m:List Nat} (h:chkF tb l m=true):XC tb l m:=by
 have b:∀(i:Nat) (o:Oper),l[i]? = some o->
   ((wA o).all (λe=>Nat.blt e i&&before m i e&&(List.range i).all (λk=> !before m e k||before m i k))=true)∧
   ((List.range l.length).all (λk=> !before m i k||(Nat.blt k i&&(wA o).any (λe=>Nat.beq e k||before m e k)))=true)∧Dr o.op=false∧
   ((List.range i).all (λx=>before m i x||(match l[x]? with|none=>false|some g=>g.apart l.toArray o&&Mq tb g.op o.op))=true):=by
  intro i o c;have:=zA5.1 h i (zAf.2 (bJ c));simp only[c,zA4,Bool.not_eq_true']at this;exact⟨this.1.1.1,this.1.1.2,this.1.2,this.2⟩
 refine⟨?_,?_,?_⟩
 ·intro i o c e f;have:=zA5.1 (b i o c).1 e f;simp only[zA4,zAw]at this;exact⟨this.1.1,this.1.2⟩
 ·intro i o c k q a;have:=zA5.1 (b i o c).2.1 k (zAf.2 a);simp only[q,Bool.not_true,Bool.false_or,zA4,zAw,List.any_eq_true,zAx]at this;obtain⟨j,e,f,d⟩:=this;refine⟨j,e,f,?_⟩
  rcases d with d|d
  ·exact .inl (zA2 d)
  ·exact .inr d
 ·intro i x s g p r a n;have:=(b i s p).2.2.2;have:=zA5.1 this x (zAf.2 a);simp only[n,Bool.false_or,r,zA4]at this;exact this
theorem NZ {X:CH} (I:fV P tb) {all:List Oper} {n:Nat} {o:Oper} {z:GF} {H f:GH} {g:GV} {y:eP} {a:Act} (S:isFloat o.op=true) (F:l_ y n z a) (h:Gw tb X all o z H=some (g,f)):
  (Region.wanted o (yielded all.toArray a.tmps)=false∧g = .un∧f=H)∨
  (Region.wanted o (yielded all.toArray a.tmps)=true∧∃k i u,f=H.new (.cells k)∧Wn y k i∧k.length=i.size∧∀w:World,∃V,(execOp a.eval o).run P w = .ok (.value V) (w.alloc (.cells i u))∧∀c:eP,c H.n=some ⟨w.heap.size,0,i.size,.cells i u,.cells k⟩->Rl c g V):=by
 rcases Ga F h with⟨U,b⟩|h
 ·refine .inr ⟨U,?_⟩;obtain⟨d,op,ty,aa,L,gd⟩:=o;cases op with
  |buildSlice T m D=>
   obtain⟨vs,C,b⟩:=aF.1 (show ob (wH z D.toList) _=some (g,f)from b);obtain⟨E,q,b,s⟩:=oQ b;cases s;obtain⟨k,i,u,Y,sz,A,h2,M,N,O⟩:=SA (P:=P) I (Dq F C) b;refine⟨k,i,u,A,M,N,λw=> ?_⟩
   obtain⟨V,t,B⟩:=O w;refine⟨V,?_,B⟩
   have e:(D.toList.map λp=>(p.1,a.eval p.2)).toArray=D.map λp=>(p.1,a.eval p.2):=by apply Array.toList_inj.1;simp
   rw[e]at t;simp[execOp,t]
  |alloc T=>
   obtain⟨E,q,b,s⟩:=oQ (show jF (yJ tb T H) HN=some (g,f)from b);cases s;obtain⟨K,W,b⟩:=aF.1 (show ob (Dg tb T) _=some (g,f)from b);rw[jU]at b;cases b;obtain⟨d,hd,Q,G⟩:=yU (ρ:=y) I W;refine⟨K,d.zero.cells,T,rfl,G,by have:=G.r.len;simpa using this,λw=>⟨_,?_,λc j=> .ptr (l:=⟨w.heap.size,0,d.zero.cells.size,.cells d.zero.cells T,.cells K⟩) 0 j⟩⟩
   simp[execOp,JG w Q]
  |box T x=>
   obtain⟨v,B,b⟩:=aF.1 (show ob (lG z x) (λv=>jF (Ur v H) HN)=some (g,f)from b);obtain⟨E,q,b,s⟩:=oQ b;cases s;obtain⟨J,R,b⟩:=aF.1 (show ob v.cells _=some (g,f)from b);rw[jU]at b;cases b;obtain⟨vs,e,t,A⟩:=(cJ F B).cells R;refine⟨J,(a.eval x).cells,T,rfl,by rw[e];exact⟨t,A⟩,by rw[e];have:=t.len;simpa using this,λw=>⟨_,?_,λc j=> .ptr (l:=⟨w.heap.size,0,(a.eval x).cells.size,.cells (a.eval x).cells T,.cells J⟩) 0 j⟩⟩
   simp[execOp,Instr.box,newVar,newRow]
  |_=>cases S
 ·exact .inl h
end
def HM (b a:eP):eP:=λh=>match b h with
 |some l=>some l
 |none=>a h
theorem zK {a b:eP} {h:Nat} {l:NG} (e:a h=some l):HM a b h=some l:=by simp[HM,e]
theorem zJ {b a:eP} {h:Nat} (e:b h=none):HM b a h=a h:=by simp[HM,e]
theorem Ip {a b:eP}:a.le (HM a b):=λ_ _ e=>zK e
def SlD (all:List Oper) (b:GF) (c:Nat->GV) (D:Nat->Bool) (t:Nat) (g:GV):Prop:=
 (∃i o,D i=true∧all[i]? = some o∧o.dst=some t∧c i=g∧∀j a,D j=true->all[j]? = some a->a.dst=some t->j<=i)∨((∀j a,D j=true->all[j]? = some a->a.dst≠some t)∧Gy b t=some g)
def ins (D:Nat->Bool) (k:Nat):Nat->Bool:=λj=>j==k||D j
theorem BS (D:Nat->Bool) (k:Nat):ins D k k=true:=by simp[ins]
theorem Bi {D:Nat->Bool} {k j:Nat} (h:j≠k):ins D k j=D j:=by simp[ins,h]
theorem BR {D:Nat->Bool} {k j:Nat} (h:D j=true):ins D k j=true:=by simp[ins,h]
noncomputable def EE (σ:GF) (L:eT):GF:=L.filterMap λt=>(Gy σ t).map λg=>(t,g)
theorem Dp {σ:GF} {t:Nat}:∀{L:eT},Gy (EE σ L) t=if t∈L then Gy σ t else none
 | []=>rfl
 | x :: L => by
  have c:=Dp (σ:=σ) (t:=t) (L:=L);cases b:Gy σ x with
  |none=>
   have e:EE σ (x::L)=EE σ L:=by simp[EE,b]
   rw[e,c];by_cases a:t=x
   ·subst a;simp[b]
   ·simp[a]
  |some g=>
   have e:EE σ (x::L)=(x,g)::EE σ L:=by simp[EE,b]
   rw[e,BP,c];by_cases a:t=x
   ·subst a;simp[b]
   ·simp[a]
section
variable {P:Program} {tb:TB} {gs:AP} {w0:fC gs} {ih:CH} {all:List Oper} {n:Nat} {S:Nat->GF} {HH:Nat->GH} {gg:Nat->GV}
structure yD (P:Program) (tb:TB) {gs:AP} (w0:fC gs) (ih:CH) (all:List Oper) (n:Nat) (S:Nat->GF) (HH:Nat->GH) (gg:Nat->GV):Prop where
 tab:fV P tb
 call:∀w0:fC gs,tW P w0 ih
 ops:all.all (JB n)=true
 chk:XC tb all (qT all)
 trc:Trc tb ih all all S HH gg
 vrs:∀k ok h v,all[k]? = some ok->pM ok.op=true->ldH (S k) ok.op=some h->(HH k).ver h=some v->
  (∀j oj,j<k->all[j]? = some oj->e_ oj.op=true->before (qT all) k j=false->(HH j).ver h=some v)∧(∀j oj,k<j->all[j]? = some oj->e_ oj.op=true->before (qT all) j k=false->(HH (j+1)).ver h=some v)
 chain:∃ρs:Nat->eP,(∀i,i<=all.length->∃a w,gF w0 (ρs i) (HH i) w∧l_ (ρs i) n (S i) a)∧∀i,i<all.length->(ρs i).le (ρs (i+1))
theorem yD.ghost (E:yD P tb w0 ih all n S HH gg) (i:Nat) (c:i<=all.length):∃b a w,gF w0 b (HH i) w∧l_ b n (S i) a:=
 let ⟨ρs,h,_⟩:=E.chain
 ⟨ρs i,h i c⟩
theorem yD.mono (E:yD P tb w0 ih all n S HH gg) (i:Nat) (a:i<all.length):(HH i).n<=(HH (i+1)).n:=by
 obtain⟨e,h,b⟩:=E.chain;obtain⟨_,_,c,_⟩:=h i (Nat.le_of_lt a);obtain⟨_,_,d,_⟩:=h (i+1) a;exact c.mono d (b i a)
theorem QX {a:Nat->eP} {m:Nat} (h:∀i,i<m->(a i).le (a (i+1))) {i:Nat}:∀{j:Nat},i<=j->j<=m->(a i).le (a j)
  | 0, h1, _ => by
      have : i = 0 := by omega
      subst this;exact eP.le_refl _
  | j + 1, h1, hj => by
    by_cases e:i=j+1
    · subst e;exact eP.le_refl _
    · exact eP.le_trans (QX h (by omega) (by omega)) (h j (by omega))
theorem yD.same (E:yD P tb w0 ih all n S HH gg) {i j:Nat} (b:i<=j) (u:j<=all.length) {h v:Nat} (q:(HH i).ver h=some v) (r:(HH j).ver h=some v):(HH i).get h=(HH j).get h:=by
 obtain⟨J,s,e⟩:=E.chain;have A:=QX e b u;obtain⟨_,K,l,_⟩:=s i (by omega);obtain⟨_,L,m,_⟩:=s j u;have a:∀{k:Nat},(HH k).ver h=some v->∃o,(HH k).get h=some o:=λ{k} hv=>by
  obtain⟨p,B,_⟩:=aF.1 (show ob ((HH k).t.get h) _=some v from hv);exact⟨p.2,by unfold GH.get;rw[B];rfl⟩
 obtain⟨H,f⟩:=a q;obtain⟨I,g⟩:=a r;obtain⟨C,c,_⟩:=l.live h H f;obtain⟨D,d,_⟩:=m.live h I g;obtain⟨F,w,_,y⟩:=l.vers h v C q c;obtain⟨G,x,_,z⟩:=m.vers h v D r d;have:=A _ _ w;rw[x]at this;cases this;rw[y,z]
theorem yD.op (E:yD P tb w0 ih all n S HH gg) {k:Nat} {o:Oper} (a:all[k]? = some o):JB n o=true:=zA5.1 E.ops o (zAv a)
theorem yD.quiet (E:yD P tb w0 ih all n S HH gg) {k:Nat} {o:Oper} (b:all[k]? = some o) (c:e_ o.op=false):HH (k+1)=HH k:=by
 obtain⟨e,a,w,R,F⟩:=E.ghost k (Nat.le_of_lt (bJ b));rcases KX E.tab (E.call w0) (E.op b) F R (E.trc.st k o b)with⟨_,d⟩|⟨_,_,h⟩
 ·rcases d with⟨_,_,_,h,_⟩|⟨_,_,h,_⟩|⟨_,_,h,_⟩|⟨h,_⟩
  ·exact h
  ·exact h
  ·exact h
  ·rw[c]at h;cases h
 ·exact h
theorem yD.floats (E:yD P tb w0 ih all n S HH gg) {k:Nat} {o:Oper} (c:all[k]? = some o) (d:isFloat o.op=true):HH (k+1)=HH k∨∃b,HH (k+1)=(HH k).new (.cells b):=by
 obtain⟨e,a,w,R,F⟩:=E.ghost k (Nat.le_of_lt (bJ c));rcases NZ (P:=P) E.tab d F (E.trc.st k o c)with⟨_,_,h⟩|⟨_,b,_,_,h,_⟩
 ·exact .inl h
 ·exact .inr ⟨b,h⟩
theorem ZF {H:GH} {o:GO} (h:H=H.new o):False:=by
 have:H.n=H.n+1:=congrArg GH.n h;omega
theorem Xa {H:GH} {c a:List GV} (h:H.new (.cells c)=H.new (.cells a)):c=a:=by
 have b:=sC H (.cells c) H.n;have d:=sC H (.cells a) H.n;rw[if_pos Z]at b d;rw[h,d]at b;cases b;rfl
theorem yD.mono' (E:yD P tb w0 ih all n S HH gg) {i j:Nat} (h:i<=j) (a:j<=all.length):(HH i).n<=(HH j).n:=Sv E.mono h a
theorem yD.apart (E:yD P tb w0 ih all n S HH gg) {i j:Nat} {b c:List GV} (k:i<all.length) (l:j<all.length) (d:HH (i+1)=(HH i).new (.cells b)) (f:HH (j+1)=(HH j).new (.cells c)) (h:(HH i).n=(HH j).n):i=j:=by
 have e:(HH (i+1)).n=(HH i).n+1:=by rw[d];rfl
 have g:(HH (j+1)).n=(HH j).n+1:=by rw[f];rfl
 rcases zB0 i j with a|a|a
 ·have:=E.mono' (i:=i+1) (j:=j) (by omega) (by omega);omega
 ·exact a
 ·have:=E.mono' (i:=j+1) (j:=i) (by omega) (by omega);omega
structure yV {gs:AP} (w0:fC gs) (ρb:eP) (n:Nat) (all:List Oper) (S0:GF) (HH:Nat->GH) (gg:Nat->GV) (D:Nat->Bool) (a:Act) (w:World) (t:Nat) (ρ pm:eP):Prop where
 tm:t<=all.length
 lou:∀j o,all[j]? = some o->sT o.op=true->(D j=true↔j<t)
 flo:∀j o,all[j]? = some o->isFloat o.op=true->j<t->D j=true
 rel:gF w0 ρ (HH t) w
 up:ρb.le ρ
 defers:a.defers=[]
 size:a.tmps.size=n
 slot:∀s g,SlD all S0 gg D s g->Rl (HM ρ pm) g (a.eval (.tmp s))
 pend:∀i o cs,all[i]? = some o->isFloat o.op=true->HH (i+1)=(HH i).new (.cells cs)->t<=i->D i=true->∃l,pm (HH i).n=some l∧w0.mine l.b∧¬XG ρ (HH t) l.b∧w.heap[l.b]? = some l.x∧Aj (HM ρ pm) w l (.cells cs)∧l.o = .cells cs
 only:∀h l,pm h=some l->∃i o cs,all[i]? = some o∧isFloat o.op=true∧HH (i+1)=(HH i).new (.cells cs)∧t<=i∧D i=true∧h=(HH i).n
 inj:∀h h' l l',pm h=some l->pm h'=some l'->l.b=l'.b->h=h'
variable {D:Nat->Bool} {a:Act} {w:World} {t:Nat} {ρ pm ρb:eP}
theorem yV.low (E:yD P tb w0 ih all n S HH gg) (I:yV w0 ρb n all (S 0) HH gg D a w t ρ pm) {h:Nat} {l:NG} (d:pm h=some l):(HH t).n<=h:=by
 obtain⟨i,o,e,b,_,_,c,_,rfl⟩:=I.only h l d;exact E.mono' c (Nat.le_of_lt (bJ b))
theorem yV.adopt (E:yD P tb w0 ih all n S HH gg) (I:yV w0 ρb n all (S 0) HH gg D a w t ρ pm) {o:Oper} (Y:all[t]? = some o) (hl:sT o.op=false) (hf:isFloat o.op=true->D t=true):
  ∃c b,yV w0 ρb n all (S 0) HH gg D a w (t+1) c b∧HM c b=HM ρ pm:=by
 have ht:=bJ Y;have G:∀j o,all[j]? = some o->sT o.op=true->(D j=true↔j<t+1):=λj oj N Q=>by
  have q:j≠t:=λe=>by subst e;rw[Y]at N;cases N;rw[hl]at Q;cases Q
  rw[I.lou j oj N Q];omega
 have C:∀j o,all[j]? = some o->isFloat o.op=true->j<t+1->D j=true:=λj oj N ab ah=>by
  by_cases e:j=t
  ·subst e;rw[Y]at N;cases N;exact hf ab
  ·exact I.flo j oj N ab (by omega)
 -- nothing is taken up
 have H:HH (t+1)=HH t->∃c b,yV w0 ρb n all (S 0) HH gg D a w (t+1) c b∧HM c b=HM ρ pm:=λe=>
  ⟨ρ,pm,⟨ht,G,C,by rw[e];exact I.rel,I.up,I.defers,I.size,I.slot,λi W B f r y h4 K=>by rw[e];exact I.pend i W B f r y (by omega) K,λh l hp=>by
   obtain⟨i,W,B,f,r,y,h4,K,h6⟩:=I.only h l hp;refine⟨i,W,B,f,r,y,?_,K,h6⟩
   by_cases e':i=t
   ·subst e';rw[e]at y;exact(ZF y).elim
   ·omega,I.inj⟩,rfl⟩
 cases z:isFloat o.op with
 |false=>exact H (E.quiet Y (by simpa [sT,z]using hl))
 | true =>
  rcases E.floats Y z with e|⟨B,e⟩
  ·exact H e
  obtain⟨l,hp,U,M,hx,ad,ag⟩:=I.pend t o B Y z e (zAe _) (hf z);have m:ρ (HH t).n=none:=I.rel.fresh _ (zAe _);let c:=ρ.upd (HH t).n l;let b:eP:=λh=>if h=(HH t).n then none else pm h;have k:c (HH t).n=some l:=by simp[c,eP.upd]
  have u:∀h,h≠(HH t).n->c h=ρ h:=λh hh=>by simp[c,eP.upd,hh]
  have O:HM c b=HM ρ pm:=by
   funext h;by_cases d:h=(HH t).n
   ·subst d;rw[zK k,zJ m,hp]
   ·unfold HM;rw[u h d];simp[b,d]
  have hn:(HH (t+1)).n=(HH t).n+1:=by rw[e];rfl
  -- what the object holds is older
  have aa:∀{g:GV} {v v0:Value} {x:eP},(∀h l,x h=some l->h<(HH (t+1)).n)->Rl (HM ρ pm) g v->Rl x g v0->Rl c g v:=λ{g v v0 x} hlow f h0=>by
   refine X_ (λh l0 l1 e0 X=> ?_) f h0;have ah:=hlow h l0 e0;by_cases d:h=(HH t).n
   ·subst d;rw[zJ m,hp]at X;rw[k];exact X
   ·rw[u h d];cases hr:ρ h with
    |some l2=>rw[zK hr]at X;exact X
    |none=>
     rw[zJ hr]at X;have:=I.low E X;omega
  obtain⟨x,a0,wg,R0,F0⟩:=E.ghost (t+1) ht;have R:∀h l,x h=some l->h<(HH (t+1)).n:=λh l hl=>by
   rcases zAp h (HH (t+1)).n with J|J
   ·exact J
   ·rw[R0.fresh h J]at hl;cases hl
  have L:(HH (t+1)).get (HH t).n=some (.cells B):=by rw[e,sC,if_pos Z]
  obtain⟨l0,_,_,ac⟩:=R0.live _ _ L;obtain⟨ai,T0,q1,q2,q3,q4⟩:=ac;have V:Aj c w l (.cells B):=by
   obtain⟨ae,T,p1,p2,p3,p4⟩:=ad;refine⟨ae,T,p1,p2,p3,λi g F=> ?_⟩
   obtain⟨v,r1,r2,r3⟩:=p4 i g F;obtain⟨v0,_,s2,_⟩:=q4 i g F;exact⟨v,r1,aa R r2 s2,r3⟩
  obtain⟨af,R'⟩:=I.rel.new (o:= .cells B) (l:=l) I.rel.ext (λh o' l' F p=>⟨rfl,λeb=>M ⟨h,o',l',F,p,eb⟩⟩) U V hx ag;rw[<-e]at R';refine⟨c,b,⟨ht,G,C,R',eP.le_trans I.up af,I.defers,I.size,λs g hs=>by rw[O];exact I.slot s g hs,λi W ci f r y h4 K=> ?_,λh l1 A=> ?_,λh J l1 l2 f r hb=> ?_⟩,O⟩
  ·obtain⟨li,a1,a2,a3,a4,a5,a6⟩:=I.pend i W ci f r y (by omega) K;have q:(HH i).n≠(HH t).n:=λd=>by
    have:=E.apart (bJ f) ht y e d;omega
   refine⟨li,by simp[b,q,a1],a2,?_,a4,by rw[O];exact a5,a6⟩
   rintro⟨h,o',l',F,p,eb⟩;rw[e,sC]at F;by_cases d:h=(HH t).n
   ·subst d;rw[k]at p;cases p;exact q (I.inj _ _ _ _ a1 hp eb.symm)
   ·rw[if_neg d]at F;rw[u h d]at p;exact a3 ⟨h,o',l',F,p,eb⟩
  ·have q:h≠(HH t).n:=λd=>by subst d;simp[b]at A
   have A:pm h=some l1:=by simpa [b,q]using A
   obtain⟨i,W,ci,f,r,y,h4,K,h6⟩:=I.only h l1 A;refine⟨i,W,ci,f,r,y,?_,K,h6⟩
   by_cases e':i=t
   ·subst e';exact absurd h6 q
   ·omega
  ·have f:pm h=some l1:=by
    by_cases d:h=(HH t).n
    ·simp[b,d]at f
    ·simpa [b,d]using f
   have r:pm J=some l2:=by
    by_cases d:J=(HH t).n
    ·simp[b,d]at r
    ·simpa [b,d]using r
   exact I.inj h J l1 l2 f r hb
theorem yV.adoptTo (E:yD P tb w0 ih all n S HH gg):∀(d t k:Nat) (ρ pm:eP),yV w0 ρb n all (S 0) HH gg D a w t ρ pm->t+d=k->k<=all.length->(∀j o,t<=j->j<k->all[j]? = some o->sT o.op=false∧(isFloat o.op=true->D j=true))->
  ∃c b,yV w0 ρb n all (S 0) HH gg D a w k c b∧HM c b=HM ρ pm
 |0,t,k,ρ,pm,I,hd,hk,_=>by
  have:t=k:=by omega
  subst this;exact⟨ρ,pm,I,rfl⟩
 |d+1,t,k,ρ,pm,I,hd,hk,h=>by
  have p:all[t]? = some all[t]:=zA0 (by omega);obtain⟨m,e⟩:=h t _ (zAe _) (by omega) p;obtain⟨i,f,q,s⟩:=I.adopt E p m e;obtain⟨l,g,r,u⟩:=yV.adoptTo E d (t+1) k i f q (by omega) hk (λj o m e=>h j o (by omega) e);exact⟨l,g,r,by rw[u,s]⟩
def Cl (all:List Oper) (D:Nat->Bool):Prop:=∀j k,D j=true->before (qT all) j k=true->k<all.length->D k=true
structure Ti (all:List Oper) (D:Nat->Bool) (k:Nat) (o:Oper):Prop where
 get:all[k]? = some o
 undone:D k=false
 past:∀j,before (qT all) k j=true->j<all.length->D j=true
theorem Ti.behind (C:XC tb all (qT all)) (c:Cl all D) {k:Nat} {o:Oper} (e:Ti all D k o) {j:Nat} {b:Oper} (h:all[j]? = some b) (g:D j=true) (d:k<j):o.apart all.toArray b=true∧Mq tb o.op b.op=true:=by
 cases f:before (qT all) j k with
 |false=>exact C.ind j k b o h e.get d f
 |true=>
  have:=c j k g f (bJ e.get);rw[e.undone]at this;cases this
theorem Ti.ahead (C:XC tb all (qT all)) {k:Nat} {o:Oper} (f:Ti all D k o) {j:Nat} {b:Oper} (e:all[j]? = some b) (c:j<k):D j=true∨b.apart all.toArray o=true∧Mq tb b.op o.op=true:=by
 cases d:before (qT all) k j with
 |true=>exact .inl (f.past j d (bJ e))
 |false=>exact .inr (C.ind k j o b f.get e c d)
theorem Ti.look (E:yD P tb w0 ih all n S HH gg) (q:Cl all D) {k:Nat} {o:Oper} (p:Ti all D k o) {s:Nat} {g:GV} (u:s∈o.looksAt all.toArray) (y:Gy (S k) s=some g):SlD all (S 0) gg D s g:=by
 have b:∀j c,D j=true->all[j]? = some c->c.dst=some s->j<k:=λj c d f e=>by
  rcases zB0 j k with h|h|h
  ·exact h
  ·subst h;rw[p.undone]at d;cases d
  ·obtain⟨l,_⟩:=p.behind E.chk q f d h;exact absurd u ((Oper.apart_spec l).2.2 s e)
 rcases M_ E.trc k (Nat.le_of_lt (bJ p.get)) y with⟨i,z,l,m,r,v,x⟩|⟨l,m⟩
 ·refine .inl ⟨i,z,?_,m,r,v,λj c d f e=> ?_⟩
  ·rcases p.ahead E.chk m l with h|⟨h,_⟩
   ·exact h
   ·exact absurd u ((Oper.apart_spec h).1 s r)
  ·have:=b j c d f e;rcases zAp i j with h|h
   ·exact absurd e (x j c h this f)
   ·exact h
 ·exact .inr ⟨λj c d f e=>l j c (b j c d f e) f e,m⟩
theorem Ti.slot (C:XC tb all (qT all)) (F:Cl all D) {K:GF} {k:Nat} {o:Oper} (y:Ti all D k o) (x:∀d,o.dst=some d->d<n) (I:a.tmps.size=n) {z u:eP} (G:z.le u) (q:∀s g,SlD all K gg D s g->Rl z g (a.eval (.tmp s))) {v:Value} (Q:Rl u (gg k) v):
  ∀s g,SlD all K gg (ins D k) s g->Rl u g ((a.put o.dst v).eval (.tmp s)):=λs g L=>by
 have c:∀j r,D j=true->all[j]? = some r->o.dst=some s->r.dst=some s->j<k:=λj r m O f p=>by
  rcases zB0 j k with h|h|h
  ·exact h
  ·subst h;rw[y.undone]at m;cases m
  ·obtain⟨b,_⟩:=y.behind C F O m h;exact absurd p ((Oper.apart_spec b).2.1 s f)
 by_cases f:o.dst=some s
 ·have N:gg k=g:=by
   rcases L with⟨i,J,b,l,A,B,E⟩|⟨b,_⟩
   ·have R:=E k o (BS D k) y.get f;by_cases e:i=k
    ·subst e;exact B
    ·rw[Bi e]at b;have:=c i J b l f A;omega
   ·exact absurd f (b k o (BS D k) y.get)
  rw[f,<-N];have H:=x s f;have:(a.put (some s) v).eval (.tmp s)=v:=by simp[Act.put,Act.eval,I,H]
  rw[this];exact Q
 ·have M:(a.put o.dst v).eval (.tmp s)=a.eval (.tmp s):=Act.eval_put λd p e=>by cases e;exact f p
  rw[M];refine(q s g ?_).le G;rcases L with⟨i,J,b,l,A,B,E⟩|⟨b,l⟩
  ·have e:i≠k:=λe=>by subst e;rw[y.get]at l;cases l;exact f A
   rw[Bi e]at b;exact .inl ⟨i,J,b,l,A,B,λj r m=>E j r (BR m)⟩
  ·exact .inr ⟨λj r m=>b j r (BR m),l⟩
theorem Gm (a:Act) (d:Option Tmp) (v:Value):(a.put d v).defers=a.defers∧(a.put d v).tmps.size=a.tmps.size:=by
 cases d with
 |none=>exact⟨rfl,rfl⟩
 |some d=>exact⟨rfl,by simp[Act.put]⟩
theorem yV.plain (E:yD P tb w0 ih all n S HH gg) (u:Cl all D) (I:yV w0 ρb n all (S 0) HH gg D a w t ρ pm) {k:Nat} {o:Oper} (q:Ti all D k o) (F:sT o.op=false) (C:isFloat o.op=true->HH (k+1)=HH k) {v:Value} (H:Rl (HM ρ pm) (gg k) v):
  yV w0 ρb n all (S 0) HH gg (ins D k) (a.put o.dst v) w t ρ pm:=by
 obtain⟨_,f,_⟩:=vO (E.op q.get);obtain⟨J,K⟩:=Gm a o.dst v;refine⟨I.tm,λj A g b=> ?_,λj A g x y=>BR (I.flo j A g x y),I.rel,I.up,by rw[J];exact I.defers,by rw[K];exact I.size,q.slot E.chk u f I.size (eP.le_refl _) I.slot H,λi z r c m d s p=> ?_,λh l G=> ?_,I.inj⟩
 ·have e:j≠k:=λe=>by subst e;rw[q.get]at g;cases g;rw[F]at b;cases b
  rw[Bi e];exact I.lou j A g b
 ·have e:i≠k:=λe=>by
   subst e;rw[q.get]at c;cases c;rw[C m]at d;exact ZF d
  rw[Bi e]at p;exact I.pend i z r c m d s p
 ·obtain⟨i,z,r,c,m,d,s,p,B⟩:=I.only h l G;exact⟨i,z,r,c,m,d,s,BR p,B⟩
def OH (all:List Oper) (D:Nat->Bool) (t:Nat):Prop:=t=0∨∃o,all[t - 1]? = some o∧sT o.op=true∧D (t - 1)=true
theorem OH.ins {k:Nat} (h:OH all D t):OH all (ins D k) t:=by
 rcases h with h|⟨o,b,c,d⟩
 ·exact .inl h
 ·exact .inr ⟨o,b,c,BR d⟩
theorem Gl {o:Op} (h:pureOp tb o=true):e_ o=false:=by
 unfold pureOp at h;split at h<;>first|rfl|cases h
theorem Hr {o:Op} (h:isFloat o=true):e_ o=true:=by
 unfold isFloat at h;split at h<;>first|rfl|cases h
theorem Md {o:Op} (h:isFloat o=true):pureOp tb o=false:=by
 cases b:pureOp tb o with
 |false=>rfl
 |true=>have:=Gl b;rw[Hr h]at this;cases this
theorem yV.reach (E:yD P tb w0 ih all n S HH gg) (u:Cl all D) (I:yV w0 ρb n all (S 0) HH gg D a w t ρ pm) (i:OH all D t) {k:Nat} {o:Oper} (r:Ti all D k o) (z:pureOp tb o.op=false) (B:isFloat o.op=false) (m:pM o.op=false):
  ∃q p,yV w0 ρb n all (S 0) HH gg D a w k q p∧HM q p=HM ρ pm:=by
 have F:=bJ r.get;have C:t<=k:=by
  rcases i with h|⟨d,x,f,s⟩
  ·omega
  ·rcases zAp (t - 1) k with h|h
   ·omega
   ·exfalso;by_cases e:t - 1=k
    ·rw[e,r.undone]at s;cases s
    ·obtain⟨_,A⟩:=r.behind E.chk u x s (by omega);simp only[sT,zA4,Bool.not_eq_true']at f;have:pureOp tb d.op=false:=by
      cases v:pureOp tb d.op with
      |false=>rfl
      |true=>have:=Gl v;rw[f.1]at this;cases this
     have c:pM d.op=false:=by
      cases v:pM d.op with
      |false=>rfl
      |true=>rw[B_ v]at f;cases f.1
     simp[Mq,z,this,f.1,f.2,m,c]at A
 refine I.adoptTo E (k - t) t k ρ pm (by omega) (by omega) λj d x f y=> ?_;have g:D j=true∨e_ d.op=false∨pureOp tb d.op=true:=by
  rcases r.ahead E.chk y f with h|⟨_,h⟩
  ·exact .inl h
  ·simp only[Mq,z,B,m,Bool.or_false,Bool.and_false,zAx,zA4,Bool.not_eq_true']at h;rcases h with(h|h)|h
   ·exact .inr (.inr h)
   ·exact .inr (.inl h.1)
   ·exact .inr (.inl (B_ h.1))
 refine⟨?_,λl=> ?_⟩
 ·cases c:sT d.op with
  |false=>rfl
  |true=>
   exfalso;have b:=c;simp only[sT,zA4,Bool.not_eq_true']at b;rcases g with h|h|h
   ·have:=(I.lou j d y c).1 h;omega
   ·rw[b.1]at h;cases h
   ·have:=Gl h;rw[b.1]at this;cases this
 ·rcases g with h|h|h
  ·exact h
  ·rw[Hr l]at h;cases h
  ·rw[Md l]at h;cases h
theorem yV.frame (E:yD P tb w0 ih all n S HH gg) (c:Cl all D) (I:yV w0 ρb n all (S 0) HH gg D a w t ρ pm) {k:Nat} {o:Oper} (e:Ti all D k o):l_ (HM ρ pm) n (EE (S k) (o.looksAt all.toArray)) a:=
 ⟨I.defers,I.size,λs g b=>by
  rw[Dp]at b;by_cases d:s∈o.looksAt all.toArray
  ·rw[if_pos d]at b;exact I.slot s g (e.look E c d b)
  ·rw[if_neg d]at b;cases b⟩
theorem yV.frame' (E:yD P tb w0 ih all n S HH gg) (e:Cl all D) {k:Nat} (I:yV w0 ρb n all (S 0) HH gg D a w k ρ pm) {o:Oper} (i:Ti all D k o):l_ ρ n (EE (S k) (o.looksAt all.toArray)) a:=by
 have F:=I.frame E e i;obtain⟨u,v,z,p,m⟩:=E.ghost k (Nat.le_of_lt (bJ i.get));refine⟨F.defers,F.size,λs g b=> ?_⟩
 have q:=F.slot s g b;rw[Dp]at b;by_cases j:s∈o.looksAt all.toArray
 ·rw[if_pos j]at b;refine X_ (λh x l f d=> ?_) q (m.slot s g b);cases c:ρ h with
  |some y=>rw[zK c]at d;exact d
  |none=>
   rw[zJ c]at d;have r:=I.low E d;rw[p.fresh h r]at f;cases f
 ·rw[if_neg j]at b;cases b
theorem yD.st (E:yD P tb w0 ih all n S HH gg) {k:Nat} {o:Oper} (b:all[k]? = some o):Gw tb ih all o (EE (S k) (o.looksAt all.toArray)) (HH k)=some (gg k,HH (k+1)):=by
 rw[<-E.trc.st k o b];exact TG λs c=>by rw[Dp,if_pos c]
theorem yV.loads (E:yD P tb w0 ih all n S HH gg) (N:Cl all D) (I:yV w0 ρb n all (S 0) HH gg D a w t ρ pm) (s:OH all D t) {k:Nat} {o:Oper} (z:Ti all D k o) (c:pM o.op=true) {h:Nat} {W:GO} (hh:ldH (S k) o.op=some h) (i:(HH k).get h=some W):
    ∃p K J,yV w0 ρb n all (S 0) HH gg D a w p K J∧HM K J=HM ρ pm∧(HH p).get h=some W:=by
  have hk:=bJ z.get;have hq:=B_ c;have ae:pureOp tb o.op=false:=by cases Q:o.op<;>rw[Q]at c<;>first|rfl|cases c
  have aa:isFloat o.op=false:=by cases Q:o.op<;>rw[Q]at c<;>first|rfl|cases c
  obtain⟨v,V⟩:∃v,(HH k).ver h=some v:=by
    obtain⟨p,hp,_⟩:=aF.1 (show Gx.ob ((HH k).t.get h) _=some W from i);exact⟨p.1,by unfold GH.ver;rw[hp];rfl⟩
  obtain⟨v1,v2⟩:=E.vrs k o h v z.get c hh V;rcases zAp k t with H|H
  · -- later than in the text
    rcases s with e|⟨b,y,B,q⟩
    · omega
    have F:=B;simp only[sT,zA4]at F;have r:before (qT all) (t - 1) k=false:=by
      cases r:before (qT all) (t - 1) k with
      |false=>rfl
      |true=>have:=N _ _ q r hk;rw[z.undone]at this;cases this
    have ab:t - 1≠k:=λe=>by rw[e,z.undone]at q;cases q
    have:=v2 (t - 1) b (by omega) y F.1 r;rw[show t - 1+1=t by omega]at this;exact⟨t,ρ,pm,I,rfl,by rw[<-E.same (Nat.le_of_lt H) I.tm V this];exact i⟩
  · -- earlier,or there
    let f:Nat->Oper->Bool:=λj b=>sT b.op||(isFloat b.op && !D j)
    have first:∀d g,g+d=k->t<=g->(∀j b,t<=j->j<g->all[j]? = some b->f j b=false)->∃p,t<=p∧p<=k∧(∀j b,t<=j->j<p->all[j]? = some b->f j b=false)∧(p=k∨∃A,all[p]? = some A∧f p A=true):=by
      intro d
      induction d with
      |zero=>exact λg e U h=>⟨g,U,by omega,h,.inl (by omega)⟩
      | succ d ihd =>
        intro g e U h;have m:all[g]? = some all[g]:=zA0 (by omega);cases hl:f g all[g]with
        |true=>exact⟨g,U,by omega,h,.inr ⟨_,m,hl⟩⟩
        | false =>
          refine ihd (g+1) (by omega) (by omega) λj b y B C=> ?_;by_cases e:j=g
          · subst e;rw[m]at C;cases C;exact hl
          · exact h j b y (by omega) C
    obtain⟨p,ac,ad,R,T⟩:=first (k - t) t (by omega) (zAe _) (λj b y B=>by omega)
    obtain⟨Y,X,I1,e1⟩:=I.adoptTo E (p - t) t p ρ pm (by omega) (by omega) λj b y B C=>by
      have q:=R j b y B C;simp only[f,Bool.or_eq_false_iff,Bool.and_eq_false_iff,Bool.not_eq_false']at q;exact ⟨q.1, λO => by
          rcases q.2 with L | L; · rw [O] at L; cases L
          · exact L⟩
    refine⟨p,Y,X,I1,e1,?_⟩
    rcases T with e|⟨A,l,x⟩
    · rw[e];exact i
    · simp only[f,zAx,zA4,Bool.not_eq_true']at x;have u:e_ A.op=true:=by
        rcases x with h|h
        · simp only[sT,zA4]at h;exact h.1
        · exact Hr h.1
      have G:p<k:=by
        rcases zAp p k with h|h
        · exact h
        · have:p=k:=by omega
          subst this;rw[z.get]at l;cases l;rw[hq]at u;cases u
      have M:D p=false:=by
        rcases x with h|h
        · cases hd:D p with
          |false=>rfl
          |true=>have:=(I.lou p A l h).1 hd;omega
        · exact h.2
      have r:before (qT all) k p=false:=by
        cases r:before (qT all) k p with
        |false=>rfl
        |true=>have:=z.past p r (by omega);rw[M]at this;cases this
      rw[E.same (Nat.le_of_lt G) (Nat.le_of_lt hk) (v1 p A G l u r) V];exact i
theorem yV.step (E:yD P tb w0 ih all n S HH gg) (z:Cl all D) (I:yV w0 ρb n all (S 0) HH gg D a w t ρ pm) (m:OH all D t) {k:Nat} {o:Oper} (A:Ti all D k o) {Q:Exit->Act->World->Prop} {K:Act->World->Prop}
  (hK:∀a' w' t' aY O,yV w0 ρb n all (S 0) HH gg (ins D k) a' w' t' aY O->OH all (ins D k) t'->K a' w'):Sx.wpOp P all.toArray Q k K a w:=by
 have hk:=bJ A.get;obtain⟨_,ai,aS⟩:=vO (E.op A.get);have am:=E.st A.get;unfold Sx.wpOp;simp only[List.getElem?_toArray,A.get];cases hp:pureOp tb o.op with
 | true =>
  have Y:sT o.op=false:=by simp[sT,Gl hp]
  have aE:isFloat o.op=false:=by
   cases hf:isFloat o.op with
   |false=>rfl
   |true=>rw[Md hf]at hp;cases hp
  have F:=I.frame E z A;rcases Ga F am with⟨N,C⟩|⟨N,C,hH⟩
  ·rw[if_pos N];have aG:MA o.op=true:=by
    rcases aS with h|⟨c,f,y,G⟩
    ·exact h
    ·obtain⟨a8,xs,ts⟩:=c;simp only at G;rw[y,G]at hp;cases hp
   obtain⟨_,v,hv,u⟩:=Zd (P:=P) E.tab F hp aG C;left;simp only[Oper.wp,u w,Oper.upon];exact hK _ _ t ρ pm (I.plain E z A Y (λh=>by rw[aE]at h;cases h) hv) m.ins
  ·rw[if_neg (by rw[N];simp)];exact hK _ _ t ρ pm (I.plain E z A Y (λh=>by rw[aE]at h;cases h) (by rw[C];exact .un)) m.ins
 | false =>
  cases hf:isFloat o.op with
  | true =>
   have Y:sT o.op=false:=by simp[sT,hf]
   have F:=I.frame E z A;rcases NZ (P:=P) E.tab hf F am with⟨N,C,hH⟩|⟨N,cs,a',T',hH,hC,a0,u⟩
   ·rw[if_neg (by rw[N];simp)];exact hK _ _ t ρ pm (I.plain E z A Y (λ_=>hH) (by rw[C];exact .un)) m.ins
   ·rw[if_pos N];obtain⟨V,hV,aI⟩:=u w;left;simp only[Oper.wp,hV,Oper.upon];have aJ:t<=k:=by
     rcases zAp k t with h|h
     ·have:=I.flo k o A.get hf h;rw[A.undone]at this;cases this
     ·exact h
    let l:NG:=⟨w.heap.size,0,a'.size,.cells a' T',.cells cs⟩
    have e:OE w (w.alloc (.cells a' T')):=(Below.refl _ _).alloc (zAe _) _;have aX:ρ (HH k).n=none:=I.rel.fresh _ (E.mono' aJ (by omega));have aT:pm (HH k).n=none:=by
     cases U:pm (HH k).n with
     |none=>rfl
     |some W=>
      obtain⟨i,L,R,y,G,h3,h4,h5,h6⟩:=I.only _ _ U;have:=E.apart (bJ y) hk h3 hH h6.symm;subst this;rw[A.undone]at h5;cases h5
    let O:=pm.upd (HH k).n l;have M:O (HH k).n=some l:=by simp[O,eP.upd]
    have J:∀h,h≠(HH k).n->O h=pm h:=λh hh=>by simp[O,eP.upd,hh]
    have ad:(HM ρ pm).le (HM ρ O):=λh W y=>by
     cases H:ρ h with
     |some l2=>rw[zK H]at y;rw[zK H];exact y
     |none=>
      rw[zJ H]at y;rw[zJ H,J h (λeh=>by subst eh;rw[aT]at y;cases y)];exact y
    have aP:HM ρ O (HH k).n=some l:=by rw[zJ aX,M]
    obtain⟨p1,p2⟩:=Gm a o.dst V;have az:∀h W,pm h=some W->W.b<w.heap.size:=λh W y=>by
     obtain⟨i,L,R,q1,q2,q3,q4,q5,rfl⟩:=I.only _ _ y;obtain⟨l2,r1,_,_,r4,_⟩:=I.pend i L R q1 q2 q3 q4 q5;rw[y]at r1;cases r1;exact(zAa.1 r4).1
    refine hK _ _ t ρ O ⟨I.tm,λj oj hj ak=> ?_,λj oj hj ao aD=>BR (I.flo j oj hj ao aD),I.rel.ext' e,I.up,by rw[p1];exact I.defers,by rw[p2];exact I.size,A.slot E.chk z ai I.size ad I.slot (aI _ aP),λi L R y G h3 h4 h5=> ?_,λh W ar=> ?_,λh h' W l2 y G hb=> ?_⟩ m.ins
    ·have e:j≠k:=λe=>by subst e;rw[A.get]at hj;cases hj;rw[Y]at ak;cases ak
     rw[Bi e];exact I.lou j oj hj ak
    ·by_cases ei:i=k
     ·subst ei;rw[hH]at h3;have:=Xa h3;subst this;refine⟨l,M,.inl I.rel.ext.size,?_,heap_alloc_new w _,⟨a',T',heap_alloc_new w _,rfl,by show 0+cs.length<=a'.size;omega,λj g C=> ?_⟩,rfl⟩
      ·rintro⟨h,o',l',C,ax,eb⟩;obtain⟨l2,r1,_,r3⟩:=I.rel.live h o' C;rw[ax]at r1;cases r1;have:=r3.lt;rw[eb]at this;exact absurd this (Nat.lt_irrefl _)
      ·obtain⟨x,hx,aU⟩:=hC.r.get C;rw[zAg]at hx;exact⟨x,by show a'[0+j]? = some x;simpa using hx,aU.le ad,Ps hC.one hx⟩
     ·rw[Bi ei]at h5;obtain⟨W,a1,a2,a3,a4,a5,a6⟩:=I.pend i L R y G h3 h4 h5;have aR:(HH i).n≠(HH k).n:=λeh=>ei (E.apart (bJ y) hk h3 hH eh);have hb:=az _ _ a1;exact⟨W,by rw[J _ aR];exact a1,a2,a3,by rw[e.block _ hb];exact a4,a5.move ad (e.block _ hb),a6⟩
    ·by_cases eh:h=(HH k).n
     ·exact⟨k,o,cs,A.get,hf,hH,aJ,BS D k,eh⟩
     ·rw[J h eh]at ar;obtain⟨i,L,R,q1,q2,q3,q4,q5,q6⟩:=I.only h W ar;exact⟨i,L,R,q1,q2,q3,q4,BR q5,q6⟩
    ·by_cases eh:h=(HH k).n
     ·by_cases ah:h'=(HH k).n
      ·rw[eh,ah]
      ·rw[J h' ah]at G;subst eh;rw[M]at y;cases y;have:=az _ _ G;rw[<-hb]at this;exact absurd this (Nat.lt_irrefl _)
     ·rw[J h eh]at y;by_cases ah:h'=(HH k).n
      ·subst ah;rw[M]at G;cases G;have:=az _ _ y;rw[hb]at this;exact absurd this (Nat.lt_irrefl _)
      ·rw[J h' ah]at G;exact I.inj h h' W l2 y G hb
  | false =>
   cases aj:pM o.op with
   | true =>
    have Y:sT o.op=false:=by simp[sT,B_ aj]
    have F0:=I.frame E z A;rcases Ga F0 am with⟨N,C⟩|⟨N,C,hH⟩
    ·rw[if_pos N];have aH:∃T x,o.op = .load T x:=by
      cases ho:o.op<;>rw[ho]at aj<;>first|exact⟨_,_,rfl⟩|cases aj
     obtain⟨T,x,al⟩:=aH;rw[al]at C;obtain⟨va,aL,C⟩:=aF.1 (show ob (lG (EE (S k) (o.looksAt all.toArray)) x) _=some (gg k,HH (k+1))from C);obtain⟨g',av,aQ⟩:=aF.1 C;have eg:g'=gg k:=by
      have:=congrArg (λo=>o.map Prod.fst) (show some (g',HH k)=some (gg k,HH (k+1))from aQ);simpa using this
     rw[eg]at av;obtain⟨q,U,hc⟩:=aF.1 (show ob va.asP _=some (gg k)from av);obtain⟨cs,aO,hc⟩:=aF.1 hc;have aA:=iZ.1 aO;have aW:∀s,x = .tmp s->s∈o.looksAt all.toArray:=λs e=>List.mem_append_left _ (List.mem_filterMap.2 ⟨.tmp s,by rw[al,e];simp[Op.operands],rfl⟩);have aM:lG (S k) x=some va:=by
      rw[<-aL];cases x with
      |tmp s=>
       show Gy (S k) s=Gy (EE (S k) (o.looksAt all.toArray)) s;rw[Dp,if_pos (aW s Z)]
      |_=>rfl
     have hh:ldH (S k) o.op=some q.1:=by
      rw[al];show ob (lG (S k) x) _=_;rw[aM];show ob va.asP _=_;rw[U];rfl
     obtain⟨p,ag,af,B,ap,aB⟩:=I.loads E z m A aj hh aA;have aK:=cJ F0 aL;have aV:Rl ag va (a.eval x):=by
      rw[Ff U]at aK ⊢;obtain⟨l,Y,e⟩:=aK.ptr_inv;obtain⟨W,aC,_⟩:=B.rel.live _ _ aB;rw[<-ap,zK aC]at Y;cases Y;rw[e];exact .ptr _ aC
     have ay:uV tb T va (HH p)=some (gg k):=by
      show ob va.asP _=_;rw[U];show ob ((HH p).cells q.1) _=_;rw[iZ.2 aB];exact hc
     obtain⟨X,_,l,_,_,_,hX,u⟩:=Nc (P:=P) E.tab B.rel aV ay;left;have H:(execOp a.eval o).run P w = .ok (.value X) w:=by
      have:=u w Z;obtain⟨d,op,ty,a9,a7,gd⟩:=o;simp only at al;subst al;simp[execOp,this]
     simp only[Oper.wp,H,Oper.upon];exact hK _ _ t ρ pm (I.plain E z A Y (λh=>by rw[hf]at h;cases h) (by rw[<-ap];exact hX.le Ip)) m.ins
    ·rw[if_neg (by rw[N];simp)];exact hK _ _ t ρ pm (I.plain E z A Y (λh=>by rw[hf]at h;cases h) (by rw[C];exact .un)) m.ins
   |false=>
   obtain⟨ag,af,B,ap⟩:=I.reach E z m A hp hf aj;have F:=B.frame' E z A;cases ae:e_ o.op with
   | false =>
    have Y:sT o.op=false:=by simp[sT,ae]
    have an:∀v,Rl ag (gg k) v->yV w0 ρb n all (S 0) HH gg (ins D k) (a.put o.dst v) w t ρ pm:=λv hv=>
     I.plain E z A Y (λh=>by rw[hf]at h;cases h) (by rw[<-ap];exact hv.le Ip)
    rcases KX E.tab (E.call w0) (E.op A.get) F B.rel am with⟨N,hs⟩|⟨N,C,hH⟩
    ·rw[if_pos N];left;rcases hs with⟨_,_,_,_,v,hv,u⟩|⟨_,_,_,v,_,_,_,_,_,hv,u⟩|⟨_,_,_,v,hv,u⟩|⟨U,_⟩
     ·simp only[Oper.wp,u w,Oper.upon];exact hK _ _ t ρ pm (an v hv) m.ins
     ·simp only[Oper.wp,u w Z,Oper.upon];exact hK _ _ t ρ pm (an v hv) m.ins
     ·simp only[Oper.wp,u,Oper.upon];exact hK _ _ t ρ pm (an v hv) m.ins
     ·rw[ae]at U;cases U
    ·rw[if_neg (by rw[N];simp)];exact hK _ _ t ρ pm (an undef (by rw[C];exact .un)) m.ins
   | true =>
    have Y:sT o.op=true:=by simp[sT,ae,hf]
    have aq:∀(i:Nat) (L:Oper) (R:List GV),all[i]? = some L->isFloat L.op=true->i≠k:=λi L R y G e=>by
     subst e;rw[A.get]at y;cases y;rw[hf]at G;cases G
    have aw:∀j o,all[j]? = some o->sT o.op=true->(ins D k j=true↔j<k+1):=λj oj hj ak=>by
     by_cases e:j=k
     ·subst e;simp[BS]
     ·rw[Bi e,B.lou j oj hj ak];omega
    have au:∀j o,all[j]? = some o->isFloat o.op=true->j<k+1->ins D k j=true:=λj oj hj ao aD=>by
     have:=aq j oj [] hj ao;exact BR (B.flo j oj hj ao (by omega))
    have aa:∀h l,af h=some l->∃i o cs,all[i]? = some o∧isFloat o.op=true∧HH (i+1)=(HH i).new (.cells cs)∧k+1<=i∧ins D k i=true∧h=(HH i).n:=λh l ar=>by
     obtain⟨i,L,R,q1,q2,q3,q4,q5,q6⟩:=B.only h l ar;have:=aq i L R q1 q2;exact⟨i,L,R,q1,q2,q3,by omega,BR q5,q6⟩
    have ac:OH all (ins D k) (k+1):= .inr ⟨o,by simpa using A.get,Y,by simp[BS]⟩;rcases KX E.tab (E.call B.rel.base) (E.op A.get) F B.rel.rebase am with⟨N,hs⟩|⟨N,C,hH⟩
    ·rw[if_pos N];left;rcases hs with⟨U,_⟩|⟨U,_⟩|⟨U,_⟩|⟨_,u⟩
     ·rw[ae]at U;cases U
     ·rw[ae]at U;cases U
     ·rw[ae]at U;cases U
     refine My (u _ λaN w2 v ad R2 hv=>hK _ _ (k+1) aN af ?_ ac);obtain⟨R3,ab⟩:=B.rel.back R2;have hj:(HM ag af).le (HM aN af):=λh l y=>by
      cases H:ag h with
      |some l2=>rw[zK H]at y;cases y;exact zK (ad _ _ H)
      |none=>
       rw[zJ H]at y;obtain⟨i,L,R,q1,q2,q3,q4,q5,rfl⟩:=aa h l y;rw[zJ (R2.fresh _ (E.mono' q4 (Nat.le_of_lt (bJ q1))))];exact y
     obtain⟨p1,p2⟩:=Gm a o.dst v;refine⟨hk,aw,au,R3,eP.le_trans B.up ad,by rw[p1];exact B.defers,by rw[p2];exact B.size,A.slot E.chk z ai B.size hj B.slot (hv.le Ip),λi L R y G h3 h4 h5=> ?_,aa,B.inj⟩
     rw[Bi (aq i L R y G)]at h5;obtain⟨W,a1,a2,a3,a4,a5,a6⟩:=B.pend i L R y G h3 (by omega) h5;have hb:W.b<w.heap.size:=(zAa.1 a4).1;refine⟨W,a1,a2,?_,by rw[ab _ hb a3];exact a4,a5.move hj (ab _ hb a3),a6⟩
     rintro⟨h,o',l',C,ax,eb⟩;obtain⟨l2,r1,r2,_⟩:=R2.live h o' C;rw[ax]at r1;cases r1;rw[eb]at r2;rcases r2 with r2|r2
     ·have:w.heap.size<=W.b:=r2;omega
     ·exact a3 r2
    ·rw[if_neg (by rw[N];simp)];obtain⟨p1,p2⟩:=Gm a o.dst undef;refine hK _ _ (k+1) ag af ⟨hk,aw,au,by rw[hH];exact B.rel,B.up,by rw[p1];exact B.defers,by rw[p2];exact B.size,A.slot E.chk z ai B.size (eP.le_refl _) B.slot (by rw[C];exact .un),λi L R y G h3 h4 h5=> ?_,aa,B.inj⟩ ac;rw[Bi (aq i L R y G)]at h5;rw[hH];exact B.pend i L R y G h3 (by omega) h5
theorem yV.done (E:yD P tb w0 ih all n S HH gg) (I:yV w0 ρb n all (S 0) HH gg D a w t ρ pm) (b:∀i,i<all.length->D i=true):∃f,ρb.le f∧gF w0 f (HH all.length) w∧l_ f n (S all.length) a:=by
 obtain⟨d,e,k,_⟩:=I.adoptTo E (all.length - t) t all.length ρ pm (by have:=I.tm;omega) (zAe _) λj q m p c=>by
  refine⟨?_,λ_=>b j p⟩
  cases B:sT q.op with
  |false=>rfl
  |true=>have:=(I.lou j q c B).1 (b j p);omega
 refine⟨d,k.up,k.rel,k.defers,k.size,λs g A=> ?_⟩
 have r:∀h,e h=none:=λh=>by
  cases C:e h with
  |none=>rfl
  |some l=>
   obtain⟨i,H,G,m,_,_,u,_⟩:=k.only h l C;have:=bJ m;omega
 have c:HM d e=d:=by
  funext h;unfold HM;rw[r];cases d h<;>rfl
 have F:SlD all (S 0) gg D s g:=by
  rcases M_ E.trc all.length (zAe _) A with⟨i,o,m,p,v,u,x⟩|⟨m,p⟩
  ·refine .inl ⟨i,o,b i m,p,v,u,λj q y c z=> ?_⟩;rcases zAp i j with h|h
   ·exact absurd z (x j q h (bJ c) c)
   ·exact h
  ·exact .inr ⟨λj q y c=>m j q (bJ c) c,p⟩
 have:=k.slot s g F;rwa[c]at this
theorem WL (E:yD P tb w0 ih all n S HH gg) {Q:Exit->Act->World->Prop} (hQ:∀c K M,ρb.le c->gF w0 c (HH all.length) M->l_ c n (S all.length) K->Q .normal K M):
  ∀(d:Nat) (L:List Nat) (b:Array Bool) (a:Act) (w:World) (t:Nat) (ρ pm:eP),L.length<=d->b.size=all.length->(∀i,i<all.length->b.getD i false=false->i∈L)->Cl all (λj=>b.getD j false)->
  yV w0 ρb n all (S 0) HH gg (λj=>b.getD j false) a w t ρ pm->OH all (λj=>b.getD j false) t->Sx.wpAny P .any all.toArray Q d b a w:=by
 intro d
 induction d with
 | zero =>
  intro L b a w t ρ pm G J g m I h;have hL:L=[]:=zAq (by omega);subst hL;have f:∀i,i<all.length->b.getD i false=true:=λi r=>by
   cases u:b.getD i false with
   |true=>rfl
   |false=>have:=g i r u;simp at this
  refine⟨?_,?_⟩
  ·rw[List.eq_nil_iff_forall_not_mem];intro i r;obtain⟨l,o,s,_⟩:=mem_ready.1 r;have W:i<all.length:=by have:=(zAa.1 s).1;simpa using this
   have:=f i W;have hs:i<b.size:=by omega
   simp[hs]at this l;rw[l]at this;cases this
  ·obtain⟨c,l,N,O⟩:=I.done E f;exact hQ c a w l N O
 | succ d ihf =>
  intro L b a w t ρ pm G J g m I h;refine⟨λY=> ?_,λk hk=> ?_⟩
  ·have f:∀i,i<all.length->b.getD i false=true:=by
    intro i
    induction i using Nat.strongRecOn with
    | ind i ihi =>
     intro r;cases u:b.getD i false with
     |true=>rfl
     | false =>
      exfalso;have s:all[i]? = some all[i]:=zA0 r;have H:i∈Region.ready .any all.toArray b:=by
       refine mem_ready.2 ⟨?_,all[i],by simp,λe R v=> ?_⟩
       ·have hs:i<b.size:=by omega
        simp[hs]at u ⊢;exact u
       ·have U:e.on∈wA all[i]:=zAn.2 ⟨e,List.mem_filter.2 ⟨by simpa using R,v⟩,rfl⟩;have:=(E.chk.edge i _ s e.on U).1;exact ihi e.on this (by omega)
      rw[Y]at H;simp at H
   obtain⟨c,l,N,O⟩:=I.done E f;exact hQ c a w l N O
  ·obtain⟨l,o,X,q⟩:=mem_ready.1 hk;have s:all[k]? = some o:=by simpa using X
   have V:k<all.length:=bJ s;have F:k<b.size:=by omega
   have x:b.getD k false=false:=by simp[F]at l ⊢;exact l
   have hr:Ti all (λj=>b.getD j false) k o:=by
    refine⟨s,x,λj v B=> ?_⟩
    obtain⟨_,e,R,hej⟩:=E.chk.trans k o s j v B;obtain⟨ed,T,rfl⟩:=zAn.1 R;obtain⟨z,A⟩:=List.mem_filter.1 T;have hl:=q ed (by simpa using z) A;rcases hej with rfl|hej
    ·exact hl
    ·exact m _ _ hl hej B
   have y:(λj=>(b.setIfInBounds k true).getD j false)=ins (λj=>b.getD j false) k:=by
    funext j;by_cases e:j=k
    ·subst e;rw[BS];simp[F]
    ·rw[Bi e];exact getD_set_ne false (Ne.symm e)
   refine I.step E m h hr λK M t' c aa I' p=> ?_;refine ihf (L.erase k) _ K M t' c aa ?_ (by simp[J]) (λi r u=> ?_) ?_ (by rw[y];exact I') (by rw[y];exact p)
   ·have hm:=g k V x;rw[List.length_erase_of_mem hm];omega
   ·have e:i≠k:=λe=>by
     subst e;have:=congrFun y i;rw[BS]at this;rw[u]at this;cases this
    have:b.getD i false=false:=by
     have:=congrFun y i;rw[Bi e]at this;rw[<-this];exact u
    exact(List.mem_erase_of_ne e).2 (g i r this)
   ·rw[y];intro j k' B v C;by_cases e:j=k
    ·subst e;exact BR (hr.past k' v C)
    ·rw[Bi e]at B;exact BR (m j k' B v C)
theorem Pp (hG:fV P tb) (e:∀w0:fC gs,tW P w0 ih) (hm:P.follows .mixedOrders=true) {b:List Oper} {id:Nat} (f:b.all (JB n)=true) (N:chkF tb b (qT b)=true) {k:GS->RS} {s:GS} {p:Qy} {ρ:eP} {a:Act} {w:World} {Q:Exit->Act->World->Prop} (F:l_ ρ n s.σ a) (R:gF w0 ρ s.H w) (h:(GT tb ih b k b s=some p∧Gh b pM=true)∨evW tb ih b (qT b) k b 0 [] [] s=some p)
  (r:∀G m I L,k G=some p->ρ.le m->l_ m n G.σ I->gF w0 m G.H L->Q .normal I L):(Code.region id b.toArray true).wpr none P Q a w:=by
 have W:b.all kM=true:=zA5.2 λo U=>(vO (zA5.1 f o U)).1;obtain⟨S,HH,gg,z,A,T,C,c⟩:∃S HH gg,S 0=s.σ∧HH 0=s.H∧Trc tb ih b b S HH gg∧(∀k y h v,b[k]? = some y->pM y.op=true->ldH (S k) y.op=some h->(HH k).ver h=some v->
   (∀j u,j<k->b[j]? = some u->e_ u.op=true->before (qT b) k j=false->(HH j).ver h=some v)∧(∀j u,k<j->b[j]? = some u->e_ u.op=true->before (qT b) j k=false->(HH (j+1)).ver h=some v))∧k ⟨S b.length,HH b.length⟩=some p:=by
  rcases h with⟨h,ho⟩|h
  ·obtain⟨S,HH,gg,z,A,T,c⟩:=NV b s h;refine⟨S,HH,gg,z,A,T,λk y h v r K _ _=>⟨λj u O q x B=> ?_,λj u O q x B=> ?_⟩,c⟩
   ·rcases Iy ho r q K x with d|d
    ·rw[d]at B;cases B
    ·have:=((Ji N).trans j u q k d (bJ r)).1;omega
   ·rcases Iy ho r q K x with d|d
    ·have:=((Ji N).trans k y r j d (bJ q)).1;omega
    ·rw[d]at B;cases B
  ·obtain⟨S,HH,gg,z,A,T,V,c⟩:=KY b 0 [] [] s h;exact⟨S,HH,gg,z,A,T,λk y h v r K hh hv=>by have:=V.lo k y h v r K hh hv;simpa using this,c⟩
 rw[<-z]at F;rw[<-A]at R;have E:yD P tb w0 ih b n S HH gg:=⟨hG,e,f,Ji N,T,C,Oq hG (e w0) f T F R _ (zAe _)⟩
 have J:∀j,(Array.replicate b.length false).getD j false=false:=λj=>by
  by_cases h:j<b.length<;>simp[h]
 refine FS W hm ?_;have Y:b.toArray.size=b.length:=by simp
 rw[Y];refine WL (ρb:=ρ) E (λm I L h0 d M=>r ⟨S b.length,HH b.length⟩ m I L c h0 M d) b.length (List.range b.length) _ a _ 0 ρ (λ_=>none) (by simp) (by simp) (λi hi _=>zAf.2 hi) (λj k' q=>by simp only[J]at q;cases q) ?_ (.inl Z);refine⟨Nat.zero_le _,λj o _ _=>by simp only[J];simp,λj o _ _ h=>absurd h (Nat.not_lt_zero j),R.ext' ((Below.refl _ _).drew),eP.le_refl _,F.defers,F.size,λG g hs=> ?_,λi o cs _ _ _ _ h5=>(by simp only[J]at h5;cases h5),λh l X=>(by cases X),λh h' l l' X=>(by cases X)⟩
 rcases hs with⟨i,o,d,_⟩|⟨_,M⟩
 ·simp only[J]at d;cases d
 ·exact(F.slot G g M).le Ip
end
def Ja (c:TB) (n:Nat):Code->Bool
 | .skip | .exit _ | .ret=>true
 | .region _ ops dr=>ops.toList.all (JB n)&&(!dr||chkF c ops.toList (qT ops.toList))
 | .seq a b=>Ja c n a&&Ja c n b
 | .cond _ a b=>Ja c n a&&Ja c n b
 | .block _ b=>Ja c n b
 | .loop b=>Ja c n b
 |_=>false
section
variable {P:Program} {G:GP} {tb:TB} {Fs:FT} {gs:AP} {w0:fC gs}
def EX (P:Program) (c:Code) (Q:Exit->Act->World->Prop) (a:Act) (w:World):Prop:=
 ∀(b:Frame) (k:List Item) (d:List Frame),b.roundOf=(FR none).round->(FR none).fn b.fn->(FR none).room (d.length+1+0)->
  ∃e f g,Q e f g∧ArrivesIn (Machine.fenced P (FR none)) P (lone (b.atR a (.code c :: .inLoop c::k)) d w) b k d e f g
theorem EX.loop {c:Code} {Q:Exit->Act->World->Prop} {a:Act} {w:World} (h:EX P c Q a w):(Code.loop c).wpr none P Q a w:=by
 intro b k l f g i;obtain⟨e,j,n,m,d⟩:=h b k l f g i;exact⟨e,j,n,m,.of_steps (.one (fenced_calm g i Z) stepR_loop) d⟩
theorem EX.round {c:Code} {Q:Exit->Act->World->Prop} {a:Act} {w:World} (h:c.wpr none P (Exit.then (EX P c Q) Q) a w):EX P c Q a w:=by
 intro b k t p r s;obtain⟨e,f,g,m,d⟩:=h b (.inLoop c::k) t p r s;cases e with
 |normal=>
  obtain⟨o,n,q,j,i⟩:=m b k t p r s;exact⟨o,n,q,j,.of_steps (StepsIn.trans d (.one (fenced_calm r s Z) stepR_inLoop)) i⟩
 |exit id=>exact⟨_,f,g,m,.pass (x:= .inLoop c) Z (λ_ _=> .inl (by simp)) d⟩
 |goto l=>exact⟨_,f,g,m,.pass (x:= .inLoop c) Z (λ_ _=> .inl (by simp)) d⟩
 |ret=>exact⟨_,f,g,m,.pass (x:= .inLoop c) Z (λ_ _=> .inl (by simp)) d⟩
 |panic u=>exact⟨_,f,g,m,.pass (x:= .inLoop c) Z (λ_ _=> .inl (by simp)) d⟩
 |outgrown=>exact⟨_,f,g,m,.pass (x:= .inLoop c) Z (λ_ _=> .inl (by simp)) d⟩
noncomputable def KZ (a:Cx) (id:Nat) (s:GS):RS:=some ⟨.exit id,Dy s.σ (mM (C_ a.env id)),s.H⟩
structure XQ {gs:AP} (w0:fC gs) (tb:TB) (n:Nat) (cx:Cx) (k:GS->RS) (out:Qy) (ρ:eP) (Q:Exit->Act->World->Prop):Prop where
 k:∀s' ρ' a' w',k s'=some out->ρ.le ρ'->l_ ρ' n s'.σ a'->gF w0 ρ' s'.H w'->Q .normal a' w'
 x:∀id s' ρ' a' w',KZ cx id s'=some out->ρ.le ρ'->l_ ρ' n s'.σ a'->gF w0 ρ' s'.H w'->Q (.exit id) a' w'
 r:∀s' ρ' a' w',Ue tb cx s'=some out->ρ.le ρ'->l_ ρ' n s'.σ a'->gF w0 ρ' s'.H w'->Q .ret a' w'
def Jd (P:Program) {gs:AP} (w0:fC gs) (tb:TB) (l:LH):Prop:=∀b h j H d,l b h j H=some d->∀n k i a w Q,Ja tb n b=true->kV (mM (live (.loop b) 0 h)) j some=some k->l_ i n k a->gF w0 i H w->
 (∀id e c f g,KZ h id e=some d->i.le c->l_ c n e.σ f->gF w0 c e.H g->Q (.exit id) f g)->
 (∀e c f g,Ue tb h e=some d->i.le c->l_ c n e.σ f->gF w0 c e.H g->Q .ret f g)->EX P b Q a w
theorem PS {b:Cx} {s:GS} {a:Qy} (h:Ue tb b s=some a):a.e = .ret:=by
 obtain⟨c,_,h⟩:=aF.1 (show ob (R_ tb s b.res) _=some a from h);cases h;rfl
theorem BI {b:Cx} {id:Nat} {s:GS} {a:Qy} (h:KZ b id s=some a):a.e = .exit id:=by cases h;rfl
theorem Ud {b:List Nat} {s:GS} {a:Qy} (h:ID b s=some a):a.e = .normal∧a.vs=Dy s.σ b∧a.H=s.H:=by cases h;exact⟨rfl,rfl,rfl⟩
theorem TR {n:Nat} {m:Cx} {j:List Nat} {k:GS->RS} {o b:Qy} {l:eP} {Q:Exit->Act->World->Prop} (L:XQ w0 tb n m k b l Q) (h:kV j o.vs (λg=>k ⟨g,o.H⟩)=some b) {c:GS} {a:eP} {d:Act} {f:World}
  (r:o.vs=Dy c.σ j) (q:o.H=c.H) (e:l.le a) (F:l_ a n c.σ d) (R:gF w0 a c.H f):Q .normal d f:=by
 obtain⟨g,i,p⟩:=sM h;rw[r]at i;exact L.k ⟨g,o.H⟩ a d f p e (Le F i) (by rw[q];exact R)
theorem D_ {M:CH} {W:LH} (O:fV P tb) (V:P.follows .mixedOrders=true) (j:∀w0:fC gs,tW P w0 M) (p:Jd P w0 tb W) {n:Nat}:∀(c:Code) (m:Nat) (f:Cx) (k:GS->RS) (s:GS) (d:Qy) (q:eP) (a:Act) (w:World) (Q:Exit->Act->World->Prop),
  Ja tb n c=true->evC tb M W c m f k s=some d->l_ q n s.σ a->gF w0 q s.H w->XQ w0 tb n f k d q Q->c.wpr none P Q a w
 | .skip,m,f,k,s,d,q,a,w,Q,_,h,F,R,L=>SO (L.k s q a w h (eP.le_refl _) F R)
 | .region id ops dr, m, f, k, s, d, q, a, w, Q, ho, h, F, R, L => by
  have l:ops.toList.all (JB n)=true∧(!dr||chkF tb ops.toList (qT ops.toList))=true:=by simpa [Ja]using ho
  have ad:ops.toList.all kM=true:=zA5.2 λo ac=>(vO (zA5.1 l.1 o ac)).1;have N:Bool.casesOn (motive:=λ_=>RS) (agr dr ops.toList) (GT tb M ops.toList k ops.toList s) (evW tb M ops.toList (qT ops.toList) k ops.toList 0 [] [] s)=some d:=h;have e:ops=ops.toList.toArray:=by simp
  cases dr with
  |false=>
   rw[e];exact uW ad (Ik O (j w0) ops.toList s q a w l.1 F R N L.k)
  | true =>
   rw[e];have hF:chkF tb ops.toList (qT ops.toList)=true:=by simpa using l.2
   have u:(GT tb M ops.toList k ops.toList s=some d∧Gh ops.toList pM=true)∨evW tb M ops.toList (qT ops.toList) k ops.toList 0 [] [] s=some d:=by
    cases T:agr true ops.toList with
    |true=>rw[T]at N;exact .inr N
    |false=>
     rw[T]at N;have:(!Gh ops.toList pM)=false:=T;exact .inl ⟨N,by simpa using this⟩
   exact Pp O j V l.1 hF F R u L.k
 | .seq x y,m,f,k,s,d,q,a,w,Q,ho,h,F,R,L=>by
  have l:Ja tb n x=true∧Ja tb n y=true:=by simpa [Ja]using ho
  refine We (D_ O V j p x (live y m f) f (evC tb M W y m f k) s d q a w _ l.1 h F R ⟨λA t E I z g B C=> ?_,L.x,L.r⟩);exact D_ O V j p y m f k A d t E I Q l.2 z B C ⟨λs2 K X w2 J u=>L.k s2 K X w2 J (eP.le_trans g u),λid s2 K X w2 J u=>L.x id s2 K X w2 J (eP.le_trans g u),λs2 K X w2 J u=>L.r s2 K X w2 J (eP.le_trans g u)⟩
 | .cond x thn els, m, f, k, s, d, q, a, w, Q, ho, h, F, R, L => by
  have l:Ja tb n thn=true∧Ja tb n els=true:=by simpa [Ja]using ho
  obtain⟨v,hv,h⟩:=aF.1 (show ob (lG s.σ x) _=some d from h);obtain⟨b,U,h⟩:=aF.1 h;obtain⟨o,J,h⟩:=aF.1 (show ob _ (λo=>Ex.casesOn (motive:=λ_=>RS) o.e (kV (mM m) o.vs λσ=>k ⟨σ,o.H⟩) (λ_=>some o) (some o))=some d from h);have hx:=cJ F hv;rw[CX U]at hx;have L':XQ w0 tb n f (ID (mM m)) o q Q:=by
   refine⟨λA t E I z g B C=> ?_,λid A t E I z g B C=> ?_,λA t E I z g B C=> ?_⟩
   ·obtain⟨D,e2,e3⟩:=Ud z;rw[D]at h;exact TR L h e2 e3 g B C
   ·have D:=BI z;rw[D]at h;cases h;exact L.x id A t E I z g B C
   ·have D:=PS z;rw[D]at h;cases h;exact L.r A t E I z g B C
  refine FQ hx.bool_inv (λab=> ?_) (λaa=> ?_)
  ·rw[ab]at J;exact D_ O V j p thn m f (ID (mM m)) s o q a w Q l.1 J F R L'
  ·rw[aa]at J;exact D_ O V j p els m f (ID (mM m)) s o q a w Q l.2 J F R L'
 | .block id b, m, f, k, s, d, q, a, w, Q, ho, h, F, R, L => by
  have l:Ja tb n b=true:=by simpa [Ja]using ho
  obtain⟨o2,u,h⟩:=aF.1 (show ob (nB id (evC tb M W b m ⟨f.res,f.retm,(id,m)::f.env⟩ (ID (mM m)) s)) (λo=>Ex.casesOn (motive:=λ_=>RS) o.e (kV (mM m) o.vs λσ=>k ⟨σ,o.H⟩) (λ_=>some o) (some o))=some d from h);obtain⟨o,J,u⟩:=aF.1 (show ob (evC tb M W b m ⟨f.res,f.retm,(id,m)::f.env⟩ (ID (mM m)) s) (λo=>Ex.casesOn (motive:=λ_=>RS) o.e (some o) (λi=>Bool.casesOn (motive:=λ_=>RS) (Nat.beq i id) (some o) (some ⟨.normal,o.vs,o.H⟩)) (some o))=some o2 from u);refine Oz (D_ O V j p b m _ (ID (mM m)) s o q a w _ l J F R ⟨λA t E I z g B C=> ?_,λi A t E I z g B C=> ?_,λA t E I z g B C=> ?_⟩)
  ·obtain⟨D,e2,e3⟩:=Ud z;rw[D]at u;cases u;rw[D]at h;exact TR L h e2 e3 g B C
  ·have D:=BI z;rw[D]at u;by_cases hi:i=id
   ·subst hi;have U:Nat.beq i i=true:=by simp
    simp only[U]at u;cases u;show Exit.inBlock i Q (.exit i) E I;simp only[Exit.inBlock,if_true];have S:o=⟨.exit i,Dy A.σ (mM (C_ ((i,m)::f.env) i)),A.H⟩:=by cases z;rfl
    have he:C_ ((i,m)::f.env) i=m:=by
     show(bif Nat.beq i i then m else C_ f.env i)=m;rw[U];rfl
    rw[he]at S;exact TR (o:=⟨.normal,o.vs,o.H⟩) L h (by rw[S]) (by rw[S]) g B C
   ·have U:Nat.beq i id=false:=oK hi;simp only[U]at u;cases u;rw[D]at h;cases h;show Exit.inBlock id Q (.exit i) E I;simp only[Exit.inBlock,if_neg hi];refine L.x i A t E I ?_ g B C;have he:C_ ((id,m)::f.env) i=C_ f.env i:=by
     show(bif Nat.beq id i then m else C_ f.env i)=_;rw[oK (Ne.symm hi)];rfl
    rw[<-z];show KZ f i A=some ⟨.exit i,Dy A.σ (mM (C_ ((id,m)::f.env) i)),A.H⟩;rw[he];rfl
  ·have D:=PS z;rw[D]at u;cases u;rw[D]at h;cases h;exact L.r A t E I z g B C
 | .loop b,m,f,k,s,d,q,a,w,Q,ho,h,F,R,L=>by
  have l:Ja tb n b=true:=by simpa [Ja]using ho
  have N:W b f (Dy s.σ (mM (live (.loop b) 0 f))) s.H=some d:=h;have ae:=PN s.σ (mM (live (.loop b) 0 f));obtain⟨σ,Y⟩:=ae;exact EX.loop (p b f _ s.H d N n σ q a w Q l Y (Le F Y) R L.x L.r)
 | .exit id,m,f,k,s,d,q,a,w,Q,_,h,F,R,L=>SN (L.x id s q a w h (eP.le_refl _) F R)
 | .ret,m,f,k,s,d,q,a,w,Q,_,h,F,R,L=>Wd (L.r s q a w h (eP.le_refl _) F R)
 | .rangeFunc _ _ _ _,m,f,k,s,d,q,a,w,Q,ho,_,_,_,_=>by simp[Ja]at ho
 | .scope _,m,f,k,s,d,q,a,w,Q,ho,_,_,_,_=>by simp[Ja]at ho
 | .label _,m,f,k,s,d,q,a,w,Q,ho,_,_,_,_=>by simp[Ja]at ho
 | .goto _,m,f,k,s,d,q,a,w,Q,ho,_,_,_,_=>by simp[Ja]at ho
 | .refuse _,m,f,k,s,d,q,a,w,Q,ho,_,_,_,_=>by simp[Ja]at ho
theorem adt (j:fV P tb) {n:Nat} {s:GS} {f:eP} {a:Act} {w:World} (F:l_ f n s.σ a) (R:gF w0 f s.H w) {r:ResultVar} {g:GV} (h:aga tb s r=some g):∃v,Rl f g v∧(GY a.tmps r).run P w = .ok v w:=by
 cases r with
 |tmp t=>exact⟨_,F.slot t g h,by simp[GY,Act.eval]⟩
 |cell q T=>
  obtain⟨v,m,h⟩:=aF.1 (show ob (Gy s.σ q) _=some g from h);have d:=F.slot q v m;obtain⟨x,_,_,_,_,_,o,c⟩:=Nc (P:=P) j R d h;have c:=c w Z;refine⟨x,o,?_⟩
  obtain⟨p,k,_⟩:=aF.1 (show ob v.asP _=some g from h);rw[Ff k]at d;obtain⟨l,u,e⟩:=d.ptr_inv;have i:a.tmps.getD q undef = .pointer (some ⟨l.b,l.off+p.2,none⟩):=e;rw[e]at c;simp only[Instr.loadAt,Instr.sureAddr]at c;simp only[GY,i,asAddr];simpa using c
theorem Sa (f:fV P tb) {n:Nat} {s:GS} {e:eP} {a:Act} {w:World} (F:l_ e n s.σ a) (R:gF w0 e s.H w):∀{l:List ResultVar} {gs:List GV},R_ tb s l=some gs->∃b,qL e gs b∧(l.mapM (GY a.tmps)).run P w = .ok b w
 | [],gs,h=>by cases h;exact⟨[],.nil,by simp⟩
 |r::l,gs,h=>by
  obtain⟨g,m,h⟩:=aF.1 (show ob (aga tb s r) (λv=>ob (R_ tb s l) λb=>some (v::b))=some gs from h);obtain⟨i,c,h⟩:=aF.1 h;cases h;obtain⟨v,o,j⟩:=adt (P:=P) f F R m;obtain⟨b,d,k⟩:=Sa f F R c;exact⟨v::b,.cons o d,by simp[List.mapM_cons,j,k]⟩
theorem ZP {b:eP} {gs:List GV} {a:List Value} (h:qL b gs a):Rl b (Xd gs) (if h:a.toArray.size=1 then a.toArray[0]else .tuple a.toArray):=by
 cases gs with
 |nil=>rw[h.of_nil];exact KP .nil
 | cons g gs =>
  obtain⟨v,a,rfl,c,d⟩:=h.of_cons;cases gs with
  |nil=>rw[d.of_nil];show Rl b g _;simpa using c
  |cons j gs=>
   obtain⟨k,i,rfl,e,f⟩:=d.of_cons;rw[dif_neg (by simp)];exact KP (.cons c (.cons e f))
theorem IE (j:fV P tb) {fn:Func} {c:Cx} (d:c.res=fn.results.toList) {n:Nat} {s:GS} {g:eP} {a:Act} {w:World} {b:Qy} (F:l_ g n s.σ a) (R:gF w0 g s.H w) (h:Ue tb c s=some b):b.H=s.H∧∃v,Rl g (Xd b.vs) v∧(results fn a.tmps).run P w = .ok v w:=by
 obtain⟨gs,e,h⟩:=aF.1 (show ob (R_ tb s c.res) _=some b from h);cases h;obtain⟨l,f,i⟩:=Sa (P:=P) j F R e;rw[d]at i;refine⟨rfl,_,ZP f,?_⟩
 rw[Cd];have k:(fn.results.mapM (GY a.tmps)).run P w = .ok l.toArray w:=by
  rw[Array.mapM_eq_mapM_toList];simp[i]
 simp[k]
structure Tb (P:Program) (G:GP) (Fs:FT) {gs:AP} (w0:fC gs):Prop where
 tab:fV P G.tab
 mixed:P.follows .mixedOrders=true
 fns:∀{f fn},Fs f=some fn->P.funcs[f]? = some fn∧aS P f∧(∀c,fn.body=some c->Ja G.tab fn.ntmps c=true)∧fn.params.size+fn.nfree<=fn.ntmps
 ext:∀{f us H g H'},G.ext f us H=some (g,H')->∀ρ w vs,gF w0 ρ H w->qL ρ us vs->kN P w0 ρ f vs w g H'
 exn:∀{f us g},G.exn f us=some g->∀ρ w vs H,gF w0 ρ H w->qL ρ us vs->kN P w0 ρ f vs w g H
 /-- the function that catches returns 0 and 0 if its argument returns;its two variables are new objects -/
 cat:∀{ρ:eP} {g us cs w H H' c1 c2},gF w0 ρ H w->(∀ρ' w',ρ.le ρ'->gF w0 ρ' ((H.new (.cells [Ai])).new (.cells [Ai])) w'->∃x,kN P w0 ρ' g (us++cs) w' x H')->H'.cells H.n=some [c1]->H'.cells (H.n+1)=some [c2]->
  kN P w0 ρ G.cat [.func (.func g) us.toArray cs.toArray] w (.tup [Ai,Ai]) ((((H'.set H.n (.cells [Ai])).set (H.n+1) (.cells [Ai])).del H.n).del (H.n+1))
def XF (P:Program) {gs:AP} (w0:fC gs) (h:IH):Prop:=∀f d H a,h (.fn f) d H=some a->a.e = .ret->∀c w g,gF w0 c H w->qL c d g->
 aS P f∧Calls P f g.toArray w λe i=>∃v b,e = .returned v∧c.le b∧gF w0 b a.H i∧Rl b (Xd a.vs) v
theorem QT {d:IH} (h:XF P w0 d):tW P w0 (agU d):=λf i H g j m q w p R n=>by
 obtain⟨o,k,b⟩:=aF.1 (show ob (d (.fn f) i H) _=some (g,j)from m);cases c:o.e with
 |normal=>rw[c]at b;cases b
 |exit id=>rw[c]at b;cases b
 |ret=>
  rw[c]at b;cases b;obtain⟨l,a⟩:=h f i H o k c q w p R n;exact .inr ⟨l _ w,a⟩
theorem LN {B:IH} (j:Tb P G Fs w0) (h:XF P w0 B):tW P w0 (Fl G B):=λf b H g z a t w i R e=>by
 unfold Fl callQ at a;cases c:Nat.beq f G.cat with
 | false =>
  rw[c]at a;cases n:G.ext f b H with
  |some r=>
   simp only[n]at a;cases a;exact j.ext n t w i R e
  | none =>
   simp only[n]at a;cases s:G.exn f b with
   |some r=>
    simp only[s]at a;cases a;exact j.exn s t w i _ R e
   |none=>
    simp only[s]at a;exact QT h f b H g z a t w i R e
 | true =>
  rw[c]at a;have c:=zA2 c;subst c;cases b with
  |nil=>cases a
  | cons u b =>
   cases b with
   |cons _ _=>cases a
   |nil=>
    obtain⟨p,F,a⟩:=aF.1 (show ob u.asF _=some (g,z)from a);rw[jU,jU]at a;obtain⟨x,J,a⟩:=aF.1 a;obtain⟨O,k,a⟩:=aF.1 a;obtain⟨Q,l,a⟩:=aF.1 a;obtain⟨o,a⟩:=bU.1 a;obtain⟨q,a⟩:=bU.1 a;rw[Ao,Ao,Hf,Hf]at a;cases a;obtain⟨M,rfl⟩:=List.length_eq_one_iff.1 (zA2 o);obtain⟨N,rfl⟩:=List.length_eq_one_iff.1 (zA2 q);obtain⟨v,i,rfl,A,E⟩:=e.of_cons;rw[E.of_nil];rw[Yn F]at A;obtain⟨K,D,rfl,I,m⟩:=A.fn_inv;exact j.cat R (λy L d C=>⟨x.1,QT h p.1 _ _ x.1 x.2 J y L _ C ((I.le d).append (m.le d))⟩) k l
theorem afy {x:IH} (p:∀w0:fC gs,Tb P G Fs w0) (B:∀w0:fC gs,XF P w0 x) (l:Jd P w0 G.tab λb z=>x (.loop b z)) {f:Nat} {i:Func} {K:List GV} {H:GH} {d:Qy} (T:Fs f=some i) (h:Xx G.tab (Fl G x) (λb z=>x (.loop b z)) i K H=some d) (S:d.e = .ret) {u:eP} {w:World} {t:List Value} (R:gF w0 u H w) (I:qL u K t):
  aS P f∧Calls P f t.toArray w λe y=>∃v a,e = .returned v∧u.le a∧gF w0 a d.H y∧Rl a (Xd d.vs) v:=by
 obtain⟨M,N,O,Q⟩:=(p w0).fns T;refine⟨N,?_⟩
 obtain⟨k,E,h⟩:=aF.1 (show ob i.body _=some d from h);obtain⟨L,m,h⟩:=sM h;rw[List.range_eq_range']at m;have s:=LC m;have U:t.length<=i.ntmps:=by rw[<-I.len,s];exact Q
 refine vA M E ?_;have F:l_ u i.ntmps L {tmps:=t.toArray++Array.replicate (i.ntmps - t.toArray.size) undef,defers:=[]}:=by
  refine OQ Z (by simp;omega) I (λj v q=> ?_) m;have C:=bJ q;rw[Nat.zero_add,zB7 (by simpa using C)];simpa using q
 refine D_ (p w0).tab (p w0).mixed (λw0=>LN (p w0) (B w0)) l k _ _ _ ⟨L,H⟩ d u _ w _ (O k E) h F R ⟨λJ a D y r c n o=> ?_,λid J a D y r c n o=> ?_,λJ a D y r c n o=> ?_⟩
 ·obtain⟨A,v,q,g⟩:=IE (fn:=i) (p w0).tab Z n o r;exact Sx.body_end (.inr Z) n.defers g ⟨v,a,rfl,c,by rw[A];exact o,q⟩
 ·have:=BI r;rw[S]at this;cases this
 ·obtain⟨A,v,q,g⟩:=IE (fn:=i) (p w0).tab Z n o r;exact Sx.body_end (.inl Z) n.defers g ⟨v,a,rfl,c,by rw[A];exact o,q⟩
theorem agd (B:∀w0:fC gs,Tb P G Fs w0):∀(c:Nat) (w0:fC gs),XF P w0 (run G Fs c)∧Jd P w0 G.tab λb d=>run G Fs c (.loop b d):=by
 intro c
 induction c with
 |zero=>exact λw0=>⟨λf us H i h=>(by cases h),λb d K H i h=>(by cases h)⟩
 | succ c ih =>
  have z:∀w0:fC gs,XF P w0 (run G Fs c):=λw0=>(ih w0).1;intro w0;have q:=(ih w0).2;refine⟨λf us H i h he V w K R hr=> ?_,λb d K H i h n O V a w Q T I F R U k=> ?_⟩
  ·obtain⟨fn,E,h⟩:=aF.1 (show ob (Fs f) _=some i from h);exact afy B z q E h he R hr
  ·have D:kV (mM (live (.loop b) 0 d)) K (λO=>ob (evC G.tab (Fl G (run G Fs c)) (λb d=>run G Fs c (.loop b d)) b (live (.loop b) 0 d) d (ID (mM (live (.loop b) 0 d))) ⟨O,H⟩) λo=>Ex.casesOn (motive:=λ_=>RS) o.e (run G Fs c (.loop b d) o.vs o.H) (λ_=>some o) (some o))=some i:=h;obtain⟨aa,l,D⟩:=sM D;rw[I]at l;cases l;obtain⟨o,Y,s⟩:=aF.1 D;refine EX.round (D_ (B w0).tab (B w0).mixed (λw0=>LN (B w0) (z w0)) q b _ d _ ⟨O,H⟩ o V a w _ T Y F R ⟨λt j x A p g u v=> ?_,λid t j x A p g u v=> ?_,λt j x A p g u v=> ?_⟩)
   ·obtain⟨y,W,X⟩:=Ud p;rw[y,W,X]at s;obtain⟨S,m⟩:=PN t.σ (mM (live (.loop b) 0 d));exact q b d _ t.H i s n S j x A Q T m (Le u m) v (λid J r C L M N=>U id J r C L M (eP.le_trans g N)) (λJ r C L M N=>k J r C L M (eP.le_trans g N))
   ·have y:=BI p;rw[y]at s;cases s;exact U id t j x A p g u v
   ·have y:=PS p;rw[y]at s;cases s;exact k t j x A p g u v
theorem Ie (e:∀w0:fC gs,Tb P G Fs w0) {a f:Nat} {c:List GV} {H H':GH} {g:GV} (h:Vb G Fs a f c H=some (g,H')) {b:eP} {w:World} {d:List Value} (R:gF w0 b H w) (i:qL b c d):kN P w0 b f d w g H':=
 LN (e w0) (agd e a w0).1 f c H g H' h b w d R i
theorem gF.start (b:fC gs) (c:gs.env=[]):gF b (λ_=>none) H0 b.w:=⟨Dk.refl _,λh o a=>(by cases a),λh g o k l j a=>(by cases a),λ_ _=>rfl,λh d=>absurd d (Nat.not_lt_zero h),λh v l f=>(by cases f),λi v e=>by rw[c]at e;simp at e⟩
end
end Go.Gx
namespace Go.Gx
open Go Go.Sx
noncomputable section
def oN (a:List GV) (H:GH):RS:=some ⟨.normal,a,H⟩
def oX (id:Nat) (a:List GV) (H:GH):RS:=some ⟨.exit id,a,H⟩
def oR (a:List GV) (H:GH):RS:=some ⟨.ret,a,H⟩
def jn (r:RS) (k:List GV->GH->RS):RS:=ob r λo=>Ex.casesOn (motive:=λ_=>RS) o.e (k o.vs o.H) (λ_=>some o) (some o)
def rG (v:GV) (b:Bool) (H:GH) (X:OR):OR:=GV.casesOn (motive_1:=λ_=>OR) v (λ_ _=>none) (λq=>Bool.casesOn (motive:=λ_=>OR) (Vk q b) (some (.un,H)) X) (λ_ _=>none) (λ_ _=>none) none (λ_ _ _ _=>none) none (λ_=>none) (λ_ _ _=>none) none none (λ_=>none) (λ_=>none) (some (.un,H)) none (λ_=>none)
def U0 {R:Type} (a:List GV) (f:Option R):Option R:=List.casesOn (motive:=λ_=>Option R) a (f) λ_ _=>none
def U1 {R:Type} (b:List GV) (f:GV->Option R):Option R:=List.casesOn (motive:=λ_=>Option R) b none λa c=>List.casesOn (motive:=λ_=>Option R) c (f a) λ_ _=>none
def U2 {R:Type} (c:List GV) (f:GV->GV->Option R):Option R:=List.casesOn (motive:=λ_=>Option R) c none λa d=>List.casesOn (motive:=λ_=>Option R) d none λb e=>List.casesOn (motive:=λ_=>Option R) e (f a b) λ_ _=>none
def U3 {R:Type} (d:List GV) (f:GV->GV->GV->Option R):Option R:=List.casesOn (motive:=λ_=>Option R) d none λa e=>List.casesOn (motive:=λ_=>Option R) e none λb g=>List.casesOn (motive:=λ_=>Option R) g none λc h=>List.casesOn (motive:=λ_=>Option R) h (f a b c) λ_ _=>none
def U4 {R:Type} (e:List GV) (f:GV->GV->GV->GV->Option R):Option R:=List.casesOn (motive:=λ_=>Option R) e none λa g=>List.casesOn (motive:=λ_=>Option R) g none λb h=>List.casesOn (motive:=λ_=>Option R) h none λc i=>List.casesOn (motive:=λ_=>Option R) i none λd j=>List.casesOn (motive:=λ_=>Option R) j (f a b c d) λ_ _=>none
def U5 {R:Type} (g:List GV) (f:GV->GV->GV->GV->GV->Option R):Option R:=List.casesOn (motive:=λ_=>Option R) g none λa h=>List.casesOn (motive:=λ_=>Option R) h none λb i=>List.casesOn (motive:=λ_=>Option R) i none λc j=>List.casesOn (motive:=λ_=>Option R) j none λd k=>List.casesOn (motive:=λ_=>Option R) k none λe l=>List.casesOn (motive:=λ_=>Option R) l (f a b c d e) λ_ _=>none
def U6 {R:Type} (h:List GV) (f:GV->GV->GV->GV->GV->GV->Option R):Option R:=List.casesOn (motive:=λ_=>Option R) h none λa i=>List.casesOn (motive:=λ_=>Option R) i none λb j=>List.casesOn (motive:=λ_=>Option R) j none λc k=>List.casesOn (motive:=λ_=>Option R) k none λd l=>List.casesOn (motive:=λ_=>Option R) l none λe m=>List.casesOn (motive:=λ_=>Option R) m none λg n=>List.casesOn (motive:=λ_=>Option R) n (f a b c d e g) λ_ _=>none
def U7 {R:Type} (i:List GV) (f:GV->GV->GV->GV->GV->GV->GV->Option R):Option R:=List.casesOn (motive:=λ_=>Option R) i none λa j=>List.casesOn (motive:=λ_=>Option R) j none λb k=>List.casesOn (motive:=λ_=>Option R) k none λc l=>List.casesOn (motive:=λ_=>Option R) l none λd m=>List.casesOn (motive:=λ_=>Option R) m none λe n=>List.casesOn (motive:=λ_=>Option R) n none λg o=>List.casesOn (motive:=λ_=>Option R) o none λh p=>List.casesOn (motive:=λ_=>Option R) p (f a b c d e g h) λ_ _=>none
def U9 {R:Type} (k:List GV) (f:GV->GV->GV->GV->GV->GV->GV->GV->GV->Option R):Option R:=List.casesOn (motive:=λ_=>Option R) k none λa l=>List.casesOn (motive:=λ_=>Option R) l none λb m=>List.casesOn (motive:=λ_=>Option R) m none λc n=>List.casesOn (motive:=λ_=>Option R) n none λd o=>List.casesOn (motive:=λ_=>Option R) o none λe p=>List.casesOn (motive:=λ_=>Option R) p none λg q=>List.casesOn (motive:=λ_=>Option R) q none λh r=>List.casesOn (motive:=λ_=>Option R) r none λi s=>List.casesOn (motive:=λ_=>Option R) s none λj t=>List.casesOn (motive:=λ_=>Option R) t (f a b c d e g h i j) λ_ _=>none
def Uj:eT->Code->Code
 | [],c=>c
 |0::p,.seq a _=>Uj p a
 |1::p,.seq _ b=>Uj p b
 |0::p,.cond _ a _=>Uj p a
 |1::p,.cond _ _ b=>Uj p b
 |0::p,.block _ b=>Uj p b
 |0::p,.loop b=>Uj p b
 |_,c=>c
def cZ (a:Func) (p:eT):Code:=match a.body with
 |some c=>Uj p c
 |none=> .skip
def jG (b:Func) (a:IS):Cx:=⟨b.results.toList,Li b.results.toList,a⟩
abbrev gM:=CH->QH->List GV->GH->RS
structure HY where
 fn:Nat->Option (Func×gM)
 lp:Nat->Option ((Code×Cx)×gM)
def HY.fns (T:HY) (f:Nat):Option Func:=ob (T.fn f) λe=>some e.1
def HY.loop (T:HY) (a:LH):QH:=λi vs H=>ob (T.lp i) λe=>a e.1.1 e.1.2 vs H
def rr (T:HY) (G:GP) (n:Nat):Bool->QH:=Nat.rec (motive:=λ_=>Bool->QH) (λ_ _ _ _=>none) (λ_ a b t c H=>Bool.casesOn (motive:=λ_=>RS) b (ob (T.fn t) λe=>e.2 (callQ G (a false)) (a true) c H) (ob (T.lp t) λe=>e.2 (callQ G (a false)) (a true) c H)) n
structure Lz (T:HY) (tb:TB):Prop where
 fn:∀{f e},T.fn f=some e->∀(c:CH) (lp:LH) us H,e.2 c (T.loop lp) us H=Xx tb c lp e.1 us H
 lp:∀{i e},T.lp i=some e->∀(c:CH) (lp:LH) us H,e.2 c (T.loop lp) us H=evL tb c lp e.1.1 e.1.2 us H
theorem ahD {T:HY} {G:GP} (h:Lz T G.tab):∀n,rr T G n false=(λf c H=>run G T.fns n (.fn f) c H)∧rr T G n true=T.loop (λb a=>run G T.fns n (.loop b a)):=by
 intro n
 induction n with
 |zero=>
  refine⟨rfl,?_⟩
  funext i vs H;show none=ob (T.lp i) λe=>none;cases T.lp i<;>rfl
 | succ n ih =>
  obtain⟨d,g⟩:=ih;constructor
  ·funext f c H;show ob (T.fn f) (λe=>e.2 (callQ G (rr T G n false)) (rr T G n true) c H)=ob (T.fns f) λk=>Xx G.tab (Fl G (run G T.fns n)) (λb a=>run G T.fns n (.loop b a)) k c H;unfold HY.fns;cases j:T.fn f with
   |none=>rfl
   |some e=>
    show e.2 (callQ G (rr T G n false)) (rr T G n true) c H=Xx G.tab (Fl G (run G T.fns n)) (λb a=>run G T.fns n (.loop b a)) e.1 c H;rw[d,g];exact h.fn j _ _ c H
  ·funext i vs H;show ob (T.lp i) (λe=>e.2 (callQ G (rr T G n false)) (rr T G n true) vs H)=ob (T.lp i) λe=>run G T.fns (n+1) (.loop e.1.1 e.1.2) vs H;cases j:T.lp i with
   |none=>rfl
   |some e=>
    show e.2 (callQ G (rr T G n false)) (rr T G n true) vs H=evL G.tab (Fl G (run G T.fns n)) (λb a=>run G T.fns n (.loop b a)) e.1.1 e.1.2 vs H;rw[d,g];exact h.lp j _ _ vs H
def okF (a:TB) (fn:Func):Bool:=match fn.body with
 |some c=>Ja a fn.ntmps c&&Nat.ble (fn.params.size+fn.nfree) fn.ntmps
 |none=>false
theorem RD {tb:TB} {fn:Func} (h:okF tb fn=true):(∀c,fn.body=some c->Ja tb fn.ntmps c=true)∧fn.params.size+fn.nfree<=fn.ntmps:=by
 unfold okF at h;cases a:fn.body with
 |none=>rw[a]at h;cases h
 |some c=>
  rw[a]at h;simp only[zA4]at h;exact⟨λd b=>by cases b;exact h.1,by simpa using h.2⟩
def If (T:HY) (G:GP) (b:Nat) (f:FuncId) (a:List GV) (H:GH):OR:=callQ G (rr T G b false) f a H
theorem Do {T:HY} {G:GP} (h:Lz T G.tab) (fuel:Nat) (f:FuncId) (a:List GV) (H:GH):If T G fuel f a H=Vb G T.fns fuel f a H:=by
 unfold If Vb Fl;rw[(ahD h fuel).1]
end
end Go.Gx
section
set_option maxRecDepth 100000
namespace Go.Gx
open Go Go.Sx Go.Proofs
noncomputable section
abbrev y:=wC
def gB (f:Func) (c:CH) (_:QH) (a:List GV) (H:GH):RS:=Xx y c (λ_ _ _ _=>none) f a H
def EC (f:Func) (i:Nat) (c:CH) (q:QH) (a:List GV) (H:GH):RS:=Xx y c (λ_ _ b H=>q i b H) f a H
def gL (e:Code×Cx) (i:Nat) (c:CH) (q:QH) (a:List GV) (H:GH):RS:=evL y c (λ_ _ b H=>q i b H) e.1 e.2 a H
def gL1 (e:Code×Cx) (n i j:Nat) (c:CH) (q:QH) (d:List GV) (H:GH):RS:=evL y c (λ_ b a H=>bif Nat.beq b.env.length n then q i a H else q j a H) e.1 e.2 d H
def gD (e:Code×Cx) (i:Nat):(Code×Cx)×gM:=(e,gL e i)
def gD1 (e:Code×Cx) (n i j:Nat):(Code×Cx)×gM:=(e,gL1 e n i j)
def rid (c:Code):Nat:=match c with|.region n _ _=>n | .seq a _=>rid a | .block _ a=>rid a | .loop a=>rid a|_=>0
def sel (l:IS) (n:Nat):Nat:=List.rec (motive:=λ_=>Nat) 0 (λp _ a=>bif Nat.beq p.1 n then p.2 else a) l
def gBs (f:Func) (l:IS) (c:CH) (q:QH) (a:List GV) (H:GH):RS:=Xx y c (λb _ d H=>q (sel l (rid b)) d H) f a H
def gDs (e:Code×Cx) (l:IS):(Code×Cx)×gM:=(e,λc q a H=>evL y c (λb _ d H=>q (sel l (rid b)) d H) e.1 e.2 a H)
def i (n:Nat):GV:= .int .i64 (.ofNat n)
def bC (q:Bool) (f t:RS):RS:=Bool.casesOn (motive:=λ_=>RS) q f t
def K (c:CH) (f:Nat) (a:List GV) (H:GH) (k:GV->GH->RS):RS:=jF (c f a H) k
def bn (a:BinOp) (T:Nat) (v u:GV) (k:GV->RS):RS:=ob (DI y a T v u) k
def ld (T:Nat) (v:GV) (H:GH) (k:GV->RS):RS:=ob (uV y T v H) k
def fd (T n:Nat) (v:GV) (k:GV->RS):RS:=ob (JV y T n v) k
def ix (T:Nat) (v u:GV) (k:GV->RS):RS:=ob (Uu y T v u) k
def ln (T:Nat) (v:GV) (k:GV->RS):RS:=ob (Xr y T v) k
def ex (n:Nat) (v:GV) (k:GV->RS):RS:=ob (agq n v) k
def bd (T:Nat) (l:List (Nat×GV)) (k:GV->RS):RS:=ob (Us y T l) k
theorem rN {a:Type} {f n:Nat} {x y:Option a} {e:a} {R:Prop} (b:x=some e->R) (c:y=some e->R):tN f n x y=some e->R:=by
 unfold tN;cases Nat.blt f n
 ·exact c
 ·exact b
theorem rL {c:Type} {f n:Nat} {x e:c} {R:Nat->c->Prop} (h:R n x):tL f n x=some e->R f e:=by
 intro a;unfold tL at a;cases b:Nat.beq f n with
 |false=>rw[b]at a;cases a
 |true=>rw[b]at a;cases a;rw[zA2 b];exact h
def aib (c:CH) (l:QH) (p:List GV) (H:GH):RS:=U1 p λg=>
 ln 9 g λm=>
 bn .gtr 3 m (i 16384) λn=>
 ob (GV.asB n) λk=>jn (bC k (oN [g] H) (oR [.snil,(i 0),(i 3)] H)) λe h=>U1 e λf=>K c 191 [f,(i 0)] h λo j=>
 jn (nB 0 (l 5 [f,.snil,o] j)) λa d=>U1 a λb=>oR [b,(i 0),(i 0)] d
def L5 (c:CH) (ql:QH) (us:List GV) (H:GH):RS:=U3 us λa b d=>jn (ln 9 a λO=>
 bn .lss 3 d O λP=>
 ob (GV.asB P) λL=>jn (bC L (oX 0 [b] H) (oN [a,b,d] H)) λs l=>U3 s λw e f=>jn (nB 1 (ln 96 e λQ=>
 bn .eql 3 Q (i 4096) λR=>
 ob (GV.asB R) λM=>jn (bC M (oN [w,e,f] l) (oR [.snil,f,(i 3)] l)) λt D=>U3 t λg x h=>K c 192 [g,h] D λp E=>
 ex 0 p λS=>
 ex 1 p λq=>
 jF (yJ y 164 E) λr F=>
 jF (tO y 164 r S F) λab m=>
 bn .neq 38 q (i 0) λT=>
 ob (GV.asB T) λN=>jn (bC N (oN [g,x,r] m) (oR [.snil,h,q] m)) λu n=>U3 u λj z k=>ld 164 k n λU=>
 jF (CS y 96 1 [(0,U)] n) λV G=>
 jF (Xq y 96 96 z V G) λW o=>
 fd 164 2 k λX=>
 ld 3 X o λY=>
 K c 191 [j,Y] o λaa I=>
 oN [j,W,aa] I)) λv J=>U3 v λA B C=>oN [A,B,C] J) (ql 5)
def adA:IS:=[(6,6),(12,7),(19,8)]
def adB:IS:=[(3,14),(9,15),(13,16)]
def aic (c:CH) (e:QH) (f:List GV) (H:GH):RS:=U2 f λg h=>
 jn (nB 0 (e 25 [g,h] H)) λa d=>U1 a λb=>oR [b] d
def L25 (c:CH) (ql:QH) (us:List GV) (H:GH):RS:=U2 us λa6 R=>jn (ln 9 a6 λt8=>
 bn .lss 3 R t8 λt9=>
 ob (GV.asB t9) λaa=>jn (bC aa (oX 0 [R] H) (oN [a6,R] H)) λm e=>U2 m λb d=>jn (nB 1 (ob (vAt y 9 b d) λa=>
 jn (nB 2 (bn .eql 5 a (.int .u8 (.ofNat 32)) λj=>
 ob (GV.asB j) λab=>jn (bC ab (bn .eql 5 a (.int .u8 (.ofNat 9)) λk=>
 ob (GV.asB k) λac=>jn (bC ac (bn .eql 5 a (.int .u8 (.ofNat 10)) λl=>
 ob (GV.asB l) λad=>jn (bC ad (bn .eql 5 a (.int .u8 (.ofNat 13)) λag=>
 oN [b,d,a,ag] e) (oN [b,d,a,l] e)) λn S=>U4 n λv w x z=>oN [v,w,x,z] S) (oN [b,d,a,k] e)) λo T=>U4 o λA B C D=>oN [A,B,C,D] T) (oN [b,d,a,j] e)) λp g=>U4 p λh f E F=>ob (GV.asB F) λae=>jn (bC ae (bn .eql 5 E (.int .u8 (.ofNat 35)) λai=>
 ob (GV.asB ai) λaf=>jn (bC af (oR [f] g) (jn (nB 3 (ql 26 [h,f] g)) λq U=>U2 q λG I=>oN [G,I] U)) λr V=>U2 r λJ K=>oN [J,K] V) (bn .add 3 f (i 1) λah=>
 oN [h,ah] g)) λs W=>U2 s λL M=>oN [L,M] W)) λt X=>U2 t λN O=>oN [N,O] X)) λu Y=>U2 u λP Q=>oN [P,Q] Y) (ql 25)
def L26 (c:CH) (C:QH) (D:List GV) (H:GH):RS:=U2 D λb d=>jn (ln 9 b λu=>
 bn .lss 3 d u λa=>
 jF (rG a true H (some (b,H))) λv e=>
 jF (rG a true e (some (d,e))) λw f=>
 jF (rG a true f (ob (vAt y 9 v w) λp=>some (p,f))) λx g=>
 jF (rG a true g (ob (DI y .neq 5 x (.int .u8 (.ofNat 10))) λq=>some (q,g))) λz h=>
 ob (xC a z (.bool false)) λA=>
 ob (GV.asB A) λt=>jn (bC t (oX 3 [b,d] h) (oN [b,d] h)) λj r=>U2 j λl m=>jn (nB 4 (bn .add 3 m (i 1) λB=>
 oN [l,B] r)) λk s=>U2 k λn o=>oN [n,o] s) (C 26)
def aid (c:CH) (ql:QH) (us:List GV) (H:GH):RS:=U2 us λx1 x2=>
 jF (Ur x1 H) λO h4=>
 jF (Ur x2 h4) λf h6=>
 jF (yJ y 164 h6) λm h8=>
 ld 9 O h8 λt9=>
 ld 3 f h8 λaE=>
 ob (vAt y 9 t9 aE) λM=>
 jn (nB 0 (K c 238 [M] h8 λaF t=>
 ob (GV.asB aF) λau=>jn (bC au (K c 240 [M] t λaM x=>
 ob (GV.asB aM) λaw=>jn (bC aw (oN [O,f,m] x) (ob (GV.asF (.fn 237 [] [f,O])) λl=>jF (c l.1 (l.2.1++[(.fn 240 [] [])]++l.2.2) x) λP a=>
 ld 9 O a λaN=>
 ld 3 f a λaO=>
 ob (Cs y 9 aN (some aO) (some P) a) λaP=>
 K c 241 [aP] a λQ z=>
 ex 0 Q λaQ=>
 ex 1 Q λaR=>
 ob (vUn .not aR) λaS=>
 ob (GV.asB aS) λax=>jn (bC ax (oN [f,m,P,aQ] z) (bd 164 [] λaT=>
 jF (tO y 164 m aT z) λa5 A=>
 ob (ob (uV y 164 m A) λaB=>some [aB,(i 2)]) λV=>oR V A)) λW B=>U4 W λag q ah ai=>ld 3 ag B λaU=>
 bd 164 [(0,(i 2)),(1,aU),(2,ah),(3,ai)] λaV=>
 jF (tO y 164 q aV B) λa6 C=>
 ob (ob (uV y 164 q C) λaC=>some [aC,(i 0)]) λX=>oR X C)) λY aq=>U3 Y λaj ak al=>oN [aj,ak,al] aq) (ob (GV.asF (.fn 237 [] [f,O])) λk=>jF (c k.1 (k.2.1++[(.fn 239 [] [])]++k.2.2) t) λN h=>
 ld 3 f h λaG=>
 bn .sub 3 N aG λaH=>
 bn .gtr 3 aH (i 24) λaI=>
 ob (GV.asB aI) λav=>jn (bC av (oN [f,m,N] h) (bd 164 [] λaJ=>
 jF (tO y 164 m aJ h) λa3 u=>
 ob (ob (uV y 164 m u) λaz=>some [az,(i 5)]) λS=>oR S u)) λT v=>U3 T λae p af=>ld 3 ae v λaK=>
 bd 164 [(0,(i 1)),(1,aK),(2,af)] λaL=>
 jF (tO y 164 p aL v) λa4 w=>
 ob (ob (uV y 164 p w) λaA=>some [aA,(i 0)]) λU=>oR U w)) λaa ar=>U3 aa λam an ao=>oN [am,an,ao] ar)) λab b=>U3 ab λap r g=>ld 9 ap b λaW=>
 ld 3 r b λaX=>
 ob (Cs y 9 aW (some aX) none b) λaY=>
 K c 242 [aY] b λR D=>
 bn .eql 3 R (i 0) λa0=>
 ob (GV.asB a0) λay=>jn (bC ay (oN [r,g,R] D) (bd 164 [] λa1=>
 jF (tO y 164 g a1 D) λa7 E=>
 ob (ob (uV y 164 g E) λaD=>some [aD,(i 4)]) λac=>oR ac E)) λad j=>U3 ad λs d o=>ld 3 s j λG=>
 ld 3 s j λI=>
 bn .add 3 I o λJ=>
 bd 164 [(0,(i 3)),(1,G),(2,J)] λL=>
 jF (tO y 164 d L j) λa2 e=>
 ob (ob (uV y 164 d e) λF=>some [F,(i 0)]) λn=>oR n e
def age:IS:=[(5,30),(13,31)]
def aie (c:CH) (e:QH) (g:List GV) (H:GH):RS:=U3 g λh i j=>
 ld 3 i H λf=>
 jn (nB 0 (e 44 [h,j,f] H)) λa d=>U1 a λb=>oR [b] d
def L44 (c:CH) (K:QH) (L:List GV) (H:GH):RS:=U3 L λJ s b=>jn (ld 9 s H λz=>
 ln 9 z λA=>
 bn .lss 3 b A λa=>
 jF (rG a true H (some (J,H))) λB d=>
 jF (rG a true d (ob (uV y 9 s d) λt=>some (t,d))) λC f=>
 jF (rG a true f (some (b,f))) λD g=>
 jF (rG a true g (ob (vAt y 9 C D) λu=>some (u,g))) λE h=>
 jF (rG a true h (ob (GV.asF B) λe=>jF (c e.1 (e.2.1++[E]++e.2.2) h) HN)) λF j=>
 ob (xC a F (.bool false)) λG=>
 ob (GV.asB G) λx=>jn (bC x (oX 0 [b] j) (oN [J,s,b] j)) λk v=>U3 k λm n o=>jn (nB 1 (bn .add 3 o (i 1) λI=>
 oN [m,n,I] v)) λl w=>U3 l λp q r=>oN [p,q,r] w) (K 44)
def aif (c:CH) (B:QH) (A:List GV) (H:GH):RS:=U1 A λi=>
 bn .geq 5 i (.int .u8 (.ofNat 97)) λq=>
 jF (rG q true H (some (i,H))) λw t=>
 jF (rG q true t (ob (DI y .leq 5 w (.int .u8 (.ofNat 122))) λv=>some (v,t))) λx u=>
 ob (xC q x (.bool false)) λh=>
 jF (rG h false u (some (i,u))) λz b=>
 jF (rG h false b (ob (DI y .geq 5 z (.int .u8 (.ofNat 65))) λj=>some (j,b))) λn d=>
 jF (rG h false d (some (n,d))) λa e=>
 jF (rG a true e (some (i,e))) λo f=>
 jF (rG a true f (ob (DI y .leq 5 o (.int .u8 (.ofNat 90))) λk=>some (k,f))) λp g=>
 jF (rG h false g (ob (xC a p (.bool false)) λl=>some (l,g))) λr m=>
 ob (xC h (.bool true) r) λs=>
 oR [s] m
def aig (c:CH) (q:QH) (p:List GV) (H:GH):RS:=U1 p λi=>
 K c 238 [i] H λg j=>
 jF (rG g false j (some (i,j))) λm k=>
 jF (rG g false k (jF (c 240 [m] k) HN)) λn l=>
 ob (xC g (.bool true) n) λh=>
 jF (rG h false l (some (i,l))) λo a=>
 jF (rG h false a (ob (DI y .eql 5 o (.int .u8 (.ofNat 95))) λb=>some (b,a))) λe d=>
 ob (xC h (.bool true) e) λf=>
 oR [f] d
def aih (c:CH) (k:QH) (j:List GV) (H:GH):RS:=U1 j λd=>
 bn .geq 5 d (.int .u8 (.ofNat 48)) λa=>
 jF (rG a true H (some (d,H))) λg b=>
 jF (rG a true b (ob (DI y .leq 5 g (.int .u8 (.ofNat 57))) λe=>some (e,b))) λh f=>
 ob (xC a h (.bool false)) λi=>
 oR [i] f
def aii (c:CH) (m:QH) (q:List GV) (H:GH):RS:=U1 q λr=>
 jF (CS y 100 9 [(0,(.str 11822 2)),(1,(.str 15917 2)),(2,(.str 15674 2)),(3,(.str 9766 2)),(4,(.str 31868 2)),(5,(.str 15677 2)),(6,(.str 15649 2)),(7,(.str 15676 2)),(8,(.str 15678 2))] H) λh k=>
 ln 100 h λn=>
 jn (nB 0 (m 46 [r,h,n,(i 0)] k)) λg l=>U1 g λj=>ob (vAt y 9 j (i 0)) λo=>
 K c 264 [(.str 172099982263598878148345807877454395 15),o] l λp a=>
 bn .geq 3 p (i 0) λf=>
 ob (GV.asB f) λe=>jn (bC e (oN [] a) (oR [(i 1)] a)) λb d=>U0 b (oR [(i 0)] d)
def L46 (c:CH) (G:QH) (I:List GV) (H:GH):RS:=U4 I λa n b d=>jn (bn .lss 3 d b λB=>
 ob (GV.asB B) λz=>jn (bC z (oX 0 [a] H) (oN [a,n,b,d] H)) λk h=>U4 k λe f o g=>jn (nB 1 (ix 100 f g λC=>
 ld 9 C h λD=>
 K c 263 [e,D] h λE j=>
 ob (GV.asB E) λA=>jn (bC A (oN [e,f,o,g] j) (oR [(i 2)] j)) λl x=>U4 l λp q r s=>oN [p,q,r,s] x)) λm y=>U4 m λt u v w=>bn .add 3 w (i 1) λF=>
 oN [t,u,v,F] y) (G 46)
def aij (c:CH) (n:QH) (l:List GV) (H:GH):RS:=U2 l λe m=>
 K c 244 [e] H λj d=>
 bn .neq 9 j m λk=>
 ob (GV.asB k) λh=>jn (bC h (oN [e] d) (oR [(.bool false)] d)) λb g=>U1 b λf=>K c 247 [f] g λi a=>
 oR [(.bool true)] a
def aik (c:CH) (E:QH) (D:List GV) (H:GH):RS:=U1 D λv=>
 ob (GV.nilck v) λx=>
 fd 102 1 x λz=>
 ld 96 z H λA=>
 ln 96 A λB=>
 bn .eql 3 B (i 0) λC=>
 ob (GV.asB C) λw=>jn (bC w (oN [v] H) (oR [(.str 0 0)] H)) λu b=>U1 u λa=>ob (GV.nilck a) λd=>
 fd 102 0 d λe=>
 ld 9 e b λf=>
 ob (GV.nilck a) λg=>
 fd 102 1 g λh=>
 ld 96 h b λj=>
 ix 96 j (i 0) λk=>
 fd 164 1 k λl=>
 ld 3 l b λm=>
 ob (GV.nilck a) λn=>
 fd 102 1 n λo=>
 ld 96 o b λp=>
 ix 96 p (i 0) λq=>
 fd 164 2 q λr=>
 ld 3 r b λs=>
 ob (Cs y 9 f (some m) (some s) b) λt=>
 oR [t] b
def ail (c:CH) (t:QH) (s:List GV) (H:GH):RS:=U1 s λl=>
 ob (GV.nilck l) λn=>
 fd 102 1 n λo=>
 ld 96 o H λp=>
 ln 96 p λq=>
 bn .eql 3 q (i 0) λr=>
 ob (GV.asB r) λm=>jn (bC m (oN [l] H) (oR [(i 0)] H)) λk b=>U1 k λa=>ob (GV.nilck a) λd=>
 fd 102 1 d λe=>
 ld 96 e b λf=>
 ix 96 f (i 0) λg=>
 fd 164 0 g λh=>
 ld 3 h b λj=>
 oR [j] b
def aim (c:CH) (R:QH) (Q:List GV) (H:GH):RS:=U1 Q λl=>
 jF (yJ y 164 H) λD o=>
 ob (GV.nilck l) λL=>
 fd 102 1 L λM=>
 ld 96 M o λN=>
 ln 96 N λO=>
 bn .eql 3 O (i 0) λP=>
 ob (GV.asB P) λE=>jn (bC E (oN [l,D] o) (K c 201 [l,(i 4)] o λF m=>
 oN [l,D] m)) λj b=>U2 j λa e=>ob (GV.nilck a) λq=>
 fd 102 1 q λr=>
 ld 96 r b λs=>
 ix 96 s (i 0) λt=>
 ld 164 t b λu=>
 jF (yJ y 164 b) λh n=>
 jF (tO y 164 h u n) λG d=>
 ob (GV.nilck a) λv=>
 fd 102 1 v λw=>
 ld 96 w d λx=>
 ob (Cs y 96 x (some (i 1)) none d) λz=>
 ob (GV.nilck a) λA=>
 fd 102 1 A λB=>
 jF (tO y 96 B z d) λI f=>
 ld 164 h f λC=>
 jF (tO y 164 e C f) λJ g=>
 ob (ob (uV y 164 e g) λp=>some [p]) λk=>oR k g
def ain (c:CH) (L:QH) (Q:List GV) (H:GH):RS:=U2 Q λo R=>
 ln 177 o λM=>
 bn .gtr 3 M (i 200) λd=>
 jF (rG d false H (some (o,H))) λN I=>
 jF (rG d false I (jF (c 270 [N,(i 0)] I) HN)) λO J=>
 jF (rG d false J (some (o,J))) λP f=>
 jF (rG d false f (ob (Xr y 177 P) λq=>some (q,f))) λx g=>
 jF (rG d false g (ob (DI y .neq 3 O x) λr=>some (r,g))) λz h=>
 ob (xC d (.bool true) z) λA=>
 ob (GV.asB A) λw=>jn (bC w (oN [o,R] h) (oR [(.bool false)] h)) λm t=>U2 m λb p=>ln 177 b λB=>
 jn (nB 0 (L 48 [b,p,b,B,(i 0)] t)) λn u=>U1 n λe=>K c 272 [e] u λC j=>
 bn .leq 3 C (i 24) λa=>
 jF (rG a true j (some (e,j))) λD k=>
 jF (rG a true k (jF (c 273 [D] k) HN)) λE l=>
 jF (rG a true l (ob (DI y .leq 3 E (i 2)) λs=>some (s,l))) λF v=>
 ob (xC a F (.bool false)) λG=>
 oR [G] v
def L48 (c:CH) (S:QH) (U:List GV) (H:GH):RS:=U5 U λa p q b d=>jn (bn .lss 3 d b λL=>
 ob (GV.asB L) λI=>jn (bC I (oX 0 [a] H) (oN [a,p,q,b,d] H)) λm h=>U5 m λr e f s g=>jn (nB 1 (ix 177 f g λM=>
 ld 235 M h λN=>
 jF (yJ y 235 h) λl E=>
 jF (tO y 235 l N E) λT j=>
 ld 235 l j λO=>
 K c 271 [O,e] j λP k=>
 ob (vUn .not P) λQ=>
 ob (GV.asB Q) λJ=>jn (bC J (oN [r,e,f,s,g] k) (oR [(.bool false)] k)) λn F=>U5 n λt u v w x=>oN [t,u,v,w,x] F)) λo G=>U5 o λz A B C D=>bn .add 3 D (i 1) λR=>
 oN [z,A,B,C,R] G) (S 48)
def aio (c:CH) (g:QH) (d:List GV) (H:GH):RS:=U2 d λe f=>
 K c 276 [e,f] H λb a=>
 oR [b] a
def aip (c:CH) (g:QH) (d:List GV) (H:GH):RS:=U2 d λe f=>
 K c 277 [e,f] H λb a=>
 oR [b] a
def aiq (c:CH) (q:QH) (t:List GV) (H:GH):RS:=U2 t λl m=>
 bn .eql 3 m (i 6) λr=>
 ob (GV.asB r) λp=>jn (bC p (oN [l,m] H) (K c 279 [l] H λs n=>
 oR [s] n)) λj o=>U2 j λk a=>bn .add 3 a (i 1) λg=>
 K c 267 [k,g] o λh e=>
 jn (nB 0 (q 50 [k,a,h] e)) λb f=>U1 b λd=>oR [d] f
def L50 (c:CH) (Y:QH) (us:List GV) (H:GH):RS:=U3 us λf g h=>jn (jn (nB 1 (K c 244 [f] H λO D=>
 K c 280 [O] D λe j=>
 bn .eql 3 e (i 0) λa=>
 jF (rG a false j (some (e,j))) λP k=>
 jF (rG a false k (jF (c 281 [P] k) HN)) λQ l=>
 jF (rG a false l (some (g,l))) λR m=>
 jF (rG a false m (ob (DI y .neq 3 Q R) λC=>some (C,m))) λS n=>
 ob (xC a (.bool true) S) λT=>
 ob (GV.asB T) λM=>jn (bC M (oN [f,g,h,e] n) (oR [h] n)) λq E=>U4 q λb d t u=>K c 247 [b] E λaa F=>
 bn .add 3 d (i 1) λU=>
 K c 267 [b,U] F λV G=>
 jF (CS y 244 2 [(0,t),(1,V)] G) λW I=>
 K c 268 [u,W] I λp o=>
 bn .eql 3 d (i 3) λX=>
 ob (GV.asB X) λN=>jn (bC N (oN [b,d,p] o) (oR [p] o)) λr J=>U3 r λv w x=>oN [v,w,x] J)) λs L=>U3 s λz A B=>oN [z,A,B] L) (Y 50)
def air (c:CH) (g:QH) (k:List GV) (H:GH):RS:=U2 k λl b=>
 K c 282 [l,(i 0)] H λh e=>
 ln 244 b λj=>
 jn (nB 0 (g 51 [h,b,j,(i 0)] e)) λa f=>U1 a λd=>oR [d] f
def L51 (c:CH) (A:QH) (B:List GV) (H:GH):RS:=U4 B λz j a b=>jn (bn .lss 3 b a λt=>
 ob (GV.asB t) λs=>jn (bC s (oX 0 [z] H) (oN [z,j,a,b] H)) λg f=>U4 g λk d l e=>jn (nB 1 (ix 244 d e λu=>
 ld 177 u f λv=>
 jF (Xq y 177 177 k v f) λw q=>
 oN [w,d,l,e] q)) λh r=>U4 h λm n o p=>bn .add 3 p (i 1) λx=>
 oN [m,n,o,x] r) (A 51)
def ais (c:CH) (u:QH) (z:List GV) (H:GH):RS:=U2 z λs p=>
 bn .lss 3 p (i 0) λd=>
 jF (rG d false H (some (p,H))) λv q=>
 jF (rG d false q (some (s,q))) λw r=>
 jF (rG d false r (ob (Xr y 177 w) λt=>some (t,r))) λx a=>
 jF (rG d false a (ob (DI y .geq 3 v x) λj=>some (j,a))) λn b=>
 ob (xC d (.bool true) n) λo=>
 ob (GV.asB o) λm=>jn (bC m (oN [s,p] b) (oR [(.int .i64 (.negSucc 0))] b)) λe k=>U2 e λg h=>jn (nB 0 (u 53 [g,h,(i 1)] k)) λf l=>U0 f (oR [(.int .i64 (.negSucc 0))] l)
def L53 (c:CH) (S:QH) (T:List GV) (H:GH):RS:=U3 T λa b q=>jn (ln 177 a λG=>
 bn .lss 3 b G λI=>
 ob (GV.asB I) λD=>jn (bC D (oX 0 [] H) (oN [a,b,q] H)) λm g=>U3 m λd e r=>jn (nB 1 (ix 177 d e λJ=>
 fd 235 0 J λL=>
 ld 3 L g λM=>
 K c 283 [M] g λk h=>
 bn .lss 3 k (i 0) λN=>
 ob (GV.asB N) λE=>jn (bC E (oN [d,e,r,k] h) (oR [(.int .i64 (.negSucc 0))] h)) λn j=>U4 n λs f t u=>bn .sub 3 u (i 1) λO=>
 bn .add 3 t O λl=>
 bn .eql 3 l (i 0) λP=>
 ob (GV.asB P) λF=>jn (bC F (oN [s,f,l] j) (bn .add 3 f (i 1) λQ=>
 oR [Q] j)) λo B=>U3 o λv w x=>oN [v,w,x] B)) λp C=>U3 p λy z A=>bn .add 3 z (i 1) λR=>
 oN [y,R,A] C) (S 53)
def ait (c:CH) (ql:QH) (us:List GV) (H:GH):RS:=U2 us λx1 x2=>
 jF (Ur x1 H) λo h=>
 fd 235 0 o λt5=>
 ld 3 t5 h λt6=>
 jn (nB 0 (bn .eql 3 t6 (i 1) λt7=>
 ob (GV.asB t7) λq8=>jn (bC q8 (bn .eql 3 t6 (i 5) λn=>
 ob (GV.asB n) λK=>jn (bC K (bn .eql 3 t6 (i 12) λR=>
 oN [x2,o,R] h) (oN [x2,o,n] h)) λp b=>U3 p λt e u=>ob (GV.asB u) λL=>jn (bC L (oN [e] b) (fd 235 1 e λS=>
 ld 3 S b λT=>
 bn .geq 3 T (i 0) λa=>
 jF (rG a true b (ob (JV y 235 1 e) λC=>some (C,b))) λU g=>
 jF (rG a true g (ob (uV y 3 U g) λD=>some (D,g))) λV k=>
 jF (rG a true k (some (t,k))) λW l=>
 jF (rG a true l (ob (DI y .lss 3 V W) λE=>some (E,l))) λX G=>
 ob (xC a X (.bool false)) λY=>
 oR [Y] G)) λq I=>U1 q λv=>oN [v] I) (fd 235 1 o λt9=>
 ld 3 t9 h λM=>
 bn .geq 3 M (i 0) λd=>
 jF (rG d true h (ob (JV y 235 1 o) λz=>some (z,h))) λN f=>
 jF (rG d true f (ob (uV y 3 N f) λA=>some (A,f))) λO j=>
 jF (rG d true j (ob (DI y .leq 3 O (i 1073741824)) λB=>some (B,j))) λP F=>
 ob (xC d P (.bool false)) λQ=>
 oR [Q] F)) λr J=>U1 r λw=>oN [w] J)) λs m=>U1 s λx=>fd 235 1 x λaa=>
 ld 3 aa m λab=>
 bn .eql 3 ab (i 0) λac=>
 oR [ac] m
def aiu (c:CH) (ql:QH) (us:List GV) (H:GH):RS:=U3 us λx1 x2 x3=>
 jF (Ur x1 H) λt4 L=>
 fd 239 0 t4 λt6=>
 ld 177 t6 L λt7=>
 ix 177 t7 x2 λt8=>
 ld 235 t8 L λt9=>
 jF (yJ y 235 L) λa I=>
 jF (tO y 235 a t9 I) λaq l=>
 bn .add 3 x2 (i 1) λj=>
 fd 235 0 a λR=>
 ld 3 R l λS=>
 K c 283 [S] l λT e=>
 bn .eql 3 T (i 0) λU=>
 ob (GV.asB U) λP=>jn (bC P (oN [x3,t4,j,a] e) (fd 235 0 a λV=>
 ld 3 V e λW=>
 K c 288 [W] e λk m=>
 jF (rG k true m (some (x3,m))) λX n=>
 jF (rG k true n (ob (vUn .not X) λE=>some (E,n))) λY o=>
 ob (xC k Y (.bool false)) λaa=>
 ob (GV.asB aa) λQ=>jn (bC Q (oN [t4,j,a] o) (oR [(i 0),j] o)) λs f=>U3 s λv w x=>ld 239 v f λab=>
 ld 235 x f λac=>
 K c 289 [ab,ac] f λad J=>
 oR [ad,w] J)) λt p=>U4 t λb z A d=>jF (rG b false p (ob (JV y 235 0 d) λF=>some (F,p))) λae g=>
 jF (rG b false g (ob (uV y 3 ae g) λG=>some (G,g))) λaf q=>
 jF (rG b false q (jF (c 287 [af] q) HN)) λag M=>
 ob (xC b (.bool true) ag) λah=>
 jF (yJ y 248 M) λai r=>
 fd 235 0 d λaj=>
 ld 3 aj r λak=>
 K c 283 [ak] r λal N=>
 jn (nB 0 (ql 54 [z,A,d,ah,ai,al,(i 0)] N)) λu h=>U3 u λB C D=>fd 235 0 C λam=>
 ld 3 am h λan=>
 ld 248 D h λao=>
 K c 290 [an,ao] h λap O=>
 oR [ap,B] O
def L54 (c:CH) (O:QH) (Q:List GV) (H:GH):RS:=U7 Q λx j k z l m n=>jn (bn .lss 3 n m λI=>
 ob (GV.asB I) λG=>jn (bC G (oX 0 [j,k,l] H) (oN [x,j,k,z,l,m,n] H)) λv s=>U7 v λo A B p q C r=>jn (nB 1 (ld 239 o s λJ=>
 K c 274 [J,A,p] s λu D=>
 ex 0 u λL=>
 ex 1 u λM=>
 ix 248 q r λN=>
 jF (tO y 3 N L D) λP E=>
 oN [o,M,B,p,q,C,r] E)) λw F=>U7 w λa b d e f g h=>bn .add 3 h (i 1) λt=>
 oN [a,b,d,e,f,g,t] F) (O 54)
def aiv (c:CH) (x:QH) (w:List GV) (H:GH):RS:=U2 w λr o=>
 ln 9 r λs=>
 ln 9 o λt=>
 bn .geq 3 s t λb=>
 jF (rG b true H (some (r,H))) λu p=>
 jF (rG b true p (some (o,p))) λv q=>
 jF (rG b true q (ob (Xr y 9 v) λf=>some (f,q))) λj a=>
 jF (rG b true a (ob (Cs y 9 u none (some j) a) λg=>some (g,a))) λk d=>
 jF (rG b true d (some (o,d))) λl e=>
 jF (rG b true e (ob (DI y .eql 9 k l) λh=>some (h,e))) λm i=>
 ob (xC b m (.bool false)) λn=>
 oR [n] i
def aiw (c:CH) (g:QH) (d:List GV) (H:GH):RS:=U2 d λe f=>
 K c 295 [e,f] H λb a=>
 oR [b] a
def aix (c:CH) (h:QH) (f:List GV) (H:GH):RS:=U1 f λg=>
 K c 298 [] H λd a=>
 K c 297 [g,(i 30),d] a λe b=>
 oR [e] b
def aiy (c:CH) (h:QH) (e:List GV) (H:GH):RS:=U2 e λf g=>
 bd 235 [(0,f),(1,g)] λb=>
 jF (CS y 177 1 [(0,b)] H) λd a=>
 oR [d] a
def aiz (c:CH) (D:QH) (C:List GV) (H:GH):RS:=U1 C λh=>
 jn (nB 0 (bn .lss 3 h (i 1) λu=>
 jF (rG u false H (some (h,H))) λz v=>
 jF (rG u false v (ob (DI y .gtr 3 z (i 43)) λw=>some (w,v))) λA a=>
 ob (xC u (.bool true) A) λB=>
 ob (GV.asB B) λx=>jn (bC x (bn .leq 3 h (i 17) λr=>
 ob (GV.asB r) λo=>jn (bC o (bn .leq 3 h (i 29) λs=>
 ob (GV.asB s) λp=>jn (bC p (bn .leq 3 h (i 42) λt=>
 ob (GV.asB t) λq=>jn (bC q (oN [] a) (oR [(i 2)] a)) λb j=>U0 b (oN [] j)) (oR [(i 1)] a)) λd k=>U0 d (oN [] k)) (oR [(i 0)] a)) λe l=>U0 e (oN [] l)) (oR [(.int .i64 (.negSucc 0))] a)) λf m=>U0 f (oN [] m))) λg n=>U0 g (oR [(i 3)] n)
def aiA (c:CH) (q:QH) (u:List GV) (H:GH):RS:=U2 u λm v=>
 K c 270 [m,(i 0)] H λr n=>
 ln 177 m λs=>
 bn .neq 3 r s λt=>
 ob (GV.asB t) λp=>jn (bC p (oN [m,v] n) (oR [(i 0),(.bool false)] n)) λl o=>U2 l λa e=>ln 177 a λg=>
 bn .sub 3 g (i 1) λh=>
 jn (nB 0 (q 55 [a,e,.snil,h] o)) λd b=>U1 d λf=>ix 22 f (i 0) λj=>
 ld 3 j b λk=>
 oR [k,(.bool true)] b
def L55 (c:CH) (ql:QH) (us:List GV) (H:GH):RS:=U4 us λt u e f=>jn (bn .geq 3 f (i 0) λL=>
 ob (GV.asB L) λJ=>jn (bC J (oX 0 [e] H) (oN [t,u,e,f] H)) λq m=>U4 q λg v a h=>jn (nB 1 (ln 22 a λM=>
 ix 177 g h λN=>
 fd 235 0 N λO=>
 ld 3 O m λP=>
 K c 283 [P] m λQ n=>
 bn .sub 3 M Q λo=>
 ob (Cs y 22 a (some o) none n) λp=>
 ln 22 p λR=>
 jn (nB 2 (ql 56 [g,v,a,h,o,(i 0),p,R,(i 0)] n)) λr b=>U6 r λj k w l x z=>ob (Cs y 22 w none (some x) b) λS=>
 ix 177 j l λT=>
 fd 235 0 T λU=>
 ld 3 U b λV=>
 ob (GV.asF k) λd=>jF (c d.1 (d.2.1++[V,z]++d.2.2) b) λW E=>
 jF (CS y 22 1 [(0,W)] E) λX F=>
 jF (Xq y 22 22 S X F) λY G=>
 oN [j,k,Y,l] G)) λs I=>U4 s λA B C D=>bn .sub 3 D (i 1) λaa=>
 oN [A,B,C,aa] I) (ql 55)
def L56 (c:CH) (O:QH) (P:List GV) (H:GH):RS:=U9 P λd e f g h j s k l=>jn (bn .lss 3 l k λK=>
 ob (GV.asB K) λJ=>jn (bC J (oX 2 [d,e,f,g,h,j] H) (oN [d,e,f,g,h,j,s,k,l] H)) λq o=>U9 q λt u v w x y m z n=>jn (nB 3 (ix 22 m n λL=>
 ld 3 L o λM=>
 ob (aaH y M) λN=>
 oN [t,u,v,w,x,N,m,z,n] o)) λr I=>U9 r λA B C D E F G a b=>bn .add 3 b (i 1) λp=>
 oN [A,B,C,D,E,F,G,a,p] I) (O 56)
def aiB (c:CH) (e:QH) (b:List GV) (H:GH):RS:=U2 b λf d=>
 bn .add 3 d (i 1) λa=>
 oR [a] H
def aiC (c:CH) (m:QH) (k:List GV) (H:GH):RS:=U2 k λl d=>
 K c 287 [l] H λh b=>
 ob (GV.asB h) λg=>jn (bC g (oN [d] b) (bn .add 3 d (i 1) λj=>
 oR [j] b)) λa f=>U1 a λe=>oR [e] f
def aiD (c:CH) (l:QH) (k:List GV) (H:GH):RS:=U1 k λd=>
 bn .geq 3 d (i 20) λa=>
 jF (rG a true H (some (d,H))) λg b=>
 jF (rG a true b (ob (DI y .leq 3 g (i 29)) λe=>some (e,b))) λh f=>
 ob (xC a h (.bool false)) λj=>
 oR [j] f
def aiE (c:CH) (l:QH) (k:List GV) (H:GH):RS:=U1 k λd=>
 bn .geq 3 d (i 11) λa=>
 jF (rG a true H (some (d,H))) λg b=>
 jF (rG a true b (ob (DI y .leq 3 g (i 17)) λe=>some (e,b))) λh f=>
 ob (xC a h (.bool false)) λj=>
 oR [j] f
def aiF (c:CH) (m:QH) (o:List GV) (H:GH):RS:=U3 o λg p q=>
 bn .eql 9 g (.str 0 0) λn=>
 ob (GV.asB n) λl=>jn (bC l (oN [g,p,q] H) (oR [(i 0)] H)) λf k=>U3 f λh j a=>ln 100 a λe=>
 jn (nB 0 (m 58 [h,j,a,e,(i 0)] k)) λb d=>U0 b (oR [(i 0)] d)
def L58 (c:CH) (L:QH) (M:List GV) (H:GH):RS:=U5 M λm n o d e=>jn (bn .lss 3 e d λE=>
 ob (GV.asB E) λC=>jn (bC C (oX 0 [] H) (oN [m,n,o,d,e] H)) λj b=>U5 j λf g h p a=>jn (nB 1 (ix 100 h a λF=>
 ld 9 F b λG=>
 bn .eql 9 G f λI=>
 ob (GV.asB I) λD=>jn (bC D (oN [f,g,h,p,a] b) (bn .add 3 g a λJ=>
 oR [J] b)) λk A=>U5 k λq r s t u=>oN [q,r,s,t,u] A)) λl B=>U5 l λv w x y z=>bn .add 3 z (i 1) λK=>
 oN [v,w,x,y,K] B) (L 58)
def aiG (c:CH) (h:QH) (e:List GV) (H:GH):RS:=U2 e λf g=>
 ob (GV.asB f) λd=>jn (bC d (oN [] H) (oR [g] H)) λa b=>U0 a (oR [(i 0)] b)
def agf:IS:=[(13,59),(24,60)]
def d0:(Code×Cx)×gM:=gD (cZ Tryz.f72 [1,1,1,0,1,0,0],jG Tryz.f72 [(0,0)]) 0
def d1:(Code×Cx)×gM:=gD (cZ Tryz.f87 [1,1,0,1,0,0],jG Tryz.f87 [(0,0)]) 1
def d2:(Code×Cx)×gM:=gD1 (cZ Tryz.f101 [1,1,0,1,0,0],jG Tryz.f101 [(0,8)]) 1 2 3
def d3:(Code×Cx)×gM:=gD (cZ Tryz.f101 [1,1,0,1,0,0,1,1,0,0,1,1,0,0],jG Tryz.f101 [(2,57352),(1,57352),(0,8)]) 3
def d4:(Code×Cx)×gM:=gD (cZ Tryz.f103 [1,1,1,1,1,1,1,0,1,0,0],jG Tryz.f103 [(0,5378)]) 4
def d5:(Code×Cx)×gM:=((cZ Tryz.f106 [1,1,1,0,1,0,0],jG Tryz.f106 [(0,32)]),L5)
def d6:(Code×Cx)×gM:=gDs (cZ Tryz.f109 [1,1,1,0,1,0,0],jG Tryz.f109 [(0,2)]) adA
def d7:(Code×Cx)×gM:=gDs (cZ Tryz.f109 [1,1,1,1,0,1,0,0],jG Tryz.f109 [(2,2)]) adA
def d8:(Code×Cx)×gM:=gDs (cZ Tryz.f109 [1,1,1,1,1,1,0,1,0,0],jG Tryz.f109 [(4,0)]) adA
def d9:(Code×Cx)×gM:=gD (cZ Tryz.f117 [1,1,1,0,1,0,0],jG Tryz.f117 [(0,8)]) 9
def d10:(Code×Cx)×gM:=gD (cZ Tryz.f140 [1,0,1,0,0],jG Tryz.f140 [(0,0)]) 10
def d11:(Code×Cx)×gM:=gD1 (cZ Tryz.f145 [1,1,0,1,0,0],jG Tryz.f145 [(0,0)]) 1 11 12
def d12:(Code×Cx)×gM:=gD (cZ Tryz.f145 [1,1,0,1,0,0,1,1,0,0,1,1,1,0,0],jG Tryz.f145 [(2,3670028),(1,3670028),(0,0)]) 12
def d13:(Code×Cx)×gM:=gD (cZ Tryz.f147 [1,1,0,1,0,0],jG Tryz.f147 [(0,0)]) 13
def d14:(Code×Cx)×gM:=gDs (cZ Tryz.f172 [1,1,0,1,0,0],jG Tryz.f172 [(0,38)]) adB
def d15:(Code×Cx)×gM:=gDs (cZ Tryz.f172 [1,1,1,1,1,0,0,0],jG Tryz.f172 [(2,32)]) adB
def d16:(Code×Cx)×gM:=gDs (cZ Tryz.f172 [1,1,1,1,1,0,0,0,1,0,1,1,1,0,0],jG Tryz.f172 [(4,164),(3,164),(2,32)]) adB
def d17:(Code×Cx)×gM:=gD (cZ Tryz.f180 [1,1,1,0,1,0,0],jG Tryz.f180 [(0,0)]) 17
def d18:(Code×Cx)×gM:=gD (cZ Tryz.f181 [1,1,0,1,0,0],jG Tryz.f181 [(0,0)]) 18
def d19:(Code×Cx)×gM:=gD1 (cZ Tryz.f182 [1,1,0,1,0,0],jG Tryz.f182 [(0,32)]) 1 19 20
def d20:(Code×Cx)×gM:=gD (cZ Tryz.f182 [1,1,0,1,0,0,1,1,0,0,1,1,1,0,0],jG Tryz.f182 [(2,49196),(1,49196),(0,32)]) 20
def d21:(Code×Cx)×gM:=gD1 (cZ Tryz.f183 [1,1,0,1,0,0],jG Tryz.f183 [(0,32)]) 1 21 22
def d22:(Code×Cx)×gM:=gD (cZ Tryz.f183 [1,1,0,1,0,0,1,1,0,0,1,1,1,0,0],jG Tryz.f183 [(2,3670056),(1,3670056),(0,32)]) 22
def d23:(Code×Cx)×gM:=gD (cZ Tryz.f184 [1,1,0,1,0,0],jG Tryz.f184 [(0,8)]) 23
def d24:(Code×Cx)×gM:=gD (cZ Tryz.f188 [1,1,0,1,0,0],jG Tryz.f188 [(0,128)]) 24
def d25:(Code×Cx)×gM:=((cZ Tryz.f191 [1,0,0,0],jG Tryz.f191 [(0,2)]),L25)
def d26:(Code×Cx)×gM:=((cZ Tryz.f191 [1,0,0,0,1,0,1,0,1,1,1,0,0,0],jG Tryz.f191 [(3,3),(2,3),(1,3),(0,2)]),L26)
def d27:(Code×Cx)×gM:=gD (cZ Tryz.f196 [1,1,1,0,1,0,0],jG Tryz.f196 [(0,33)]) 27
def d28:(Code×Cx)×gM:=gD (cZ Tryz.f197 [1,0,0],jG Tryz.f197 [(0,0)]) 28
def d29:(Code×Cx)×gM:=gD (cZ Tryz.f199 [1,1,1,1,1,0,0,0],jG Tryz.f199 [(0,5)]) 29
def d30:(Code×Cx)×gM:=gDs (cZ Tryz.f202 [1,1,1,0,1,0,0],jG Tryz.f202 [(0,2)]) age
def d31:(Code×Cx)×gM:=gDs (cZ Tryz.f202 [1,1,1,1,1,0,1,0,0],jG Tryz.f202 [(2,0)]) age
def d32:(Code×Cx)×gM:=gD (cZ Tryz.f204 [1,1,1,0,1,0,0],jG Tryz.f204 [(0,0)]) 32
def d33:(Code×Cx)×gM:=gD (cZ Tryz.f205 [1,1,0,1,0,0],jG Tryz.f205 [(0,8)]) 33
def d34:(Code×Cx)×gM:=gD (cZ Tryz.f206 [1,1,0,1,0,0],jG Tryz.f206 [(0,0)]) 34
def d35:(Code×Cx)×gM:=gD (cZ Tryz.f207 [1,1,0,1,0,0],jG Tryz.f207 [(0,8)]) 35
def d36:(Code×Cx)×gM:=gD (cZ Tryz.f209 [1,0,1,0,0],jG Tryz.f209 [(0,0)]) 36
def d37:(Code×Cx)×gM:=gD (cZ Tryz.f224 [1,0,1,0,0],jG Tryz.f224 [(0,0)]) 37
def d38:(Code×Cx)×gM:=gD (cZ Tryz.f226 [1,1,0,1,0,0],jG Tryz.f226 [(0,0)]) 38
def d39:(Code×Cx)×gM:=gD (cZ Tryz.f227 [1,1,0,1,0,0],jG Tryz.f227 [(0,0)]) 39
def d40:(Code×Cx)×gM:=gD (cZ Tryz.f228 [1,1,0,1,0,0],jG Tryz.f228 [(0,32)]) 40
def d41:(Code×Cx)×gM:=gD (cZ Tryz.f230 [1,0,1,0,0],jG Tryz.f230 [(0,0)]) 41
def d42:(Code×Cx)×gM:=gD (cZ Tryz.f232 [1,1,0,1,0,0],jG Tryz.f232 [(0,512)]) 42
def d43:(Code×Cx)×gM:=gD (cZ Tryz.f234 [1,0,1,0,0],jG Tryz.f234 [(0,0)]) 43
def d44:(Code×Cx)×gM:=((cZ Tryz.f237 [1,1,0,0,0],jG Tryz.f237 [(0,32)]),L44)
def d45:(Code×Cx)×gM:=gD (cZ Tryz.f241 [1,1,1,0,1,0,0],jG Tryz.f241 [(0,16)]) 45
def d46:(Code×Cx)×gM:=((cZ Tryz.f242 [1,0,1,0,0],jG Tryz.f242 [(0,1)]),L46)
def d47:(Code×Cx)×gM:=gD (cZ Tryz.f246 [1,1,0,1,0,0],jG Tryz.f246 [(0,1)]) 47
def d48:(Code×Cx)×gM:=((cZ Tryz.f254 [1,1,0,1,0,0],jG Tryz.f254 [(0,1)]),L48)
def d49:(Code×Cx)×gM:=gD (cZ Tryz.f255 [1,1,0,1,0,0],jG Tryz.f255 [(0,7)]) 49
def d50:(Code×Cx)×gM:=((cZ Tryz.f267 [1,1,1,0,0],jG Tryz.f267 [(0,16)]),L50)
def d51:(Code×Cx)×gM:=((cZ Tryz.f268 [1,1,0,1,0,0],jG Tryz.f268 [(0,32)]),L51)
def d52:(Code×Cx)×gM:=gD (cZ Tryz.f269 [1,0,1,0,0],jG Tryz.f269 [(0,0)]) 52
def d53:(Code×Cx)×gM:=((cZ Tryz.f270 [1,1,0,1,0,0],jG Tryz.f270 [(0,0)]),L53)
def d54:(Code×Cx)×gM:=((cZ Tryz.f274 [1,1,1,1,1,1,0,1,0,0],jG Tryz.f274 [(0,1408)]),L54)
def d55:(Code×Cx)×gM:=((cZ Tryz.f284 [1,1,1,0,1,0,0],jG Tryz.f284 [(0,64)]),L55)
def d56:(Code×Cx)×gM:=((cZ Tryz.f284 [1,1,1,0,1,0,0,1,0,0,1,1,0,1,0,0],jG Tryz.f284 [(2,963),(1,195),(0,64)]),L56)
def d57:(Code×Cx)×gM:=gD (cZ Tryz.f293 [1,1,1,0,1,0,0],jG Tryz.f293 [(0,903)]) 57
def d58:(Code×Cx)×gM:=((cZ Tryz.f297 [1,1,0,1,0,0],jG Tryz.f297 [(0,0)]),L58)
def d59:(Code×Cx)×gM:=gDs (cZ Tryz.f302 [1,0,1,0,1,1,1,1,1,1,1,1,1,0,1,0,1,0,0],jG Tryz.f302 [(1,32),(0,2)]) agf
def d60:(Code×Cx)×gM:=gDs (cZ Tryz.f302 [1,0,1,0,1,1,1,1,1,1,1,1,1,1,1,1,1,0,1,0,1,0,0],jG Tryz.f302 [(3,1024),(0,2)]) agf
def d61:(Code×Cx)×gM:=gD (cZ Tryz.f309 [1,1,0,1,0,0],jG Tryz.f309 [(0,8)]) 61
def d62:(Code×Cx)×gM:=gD (cZ Tryz.f310 [1,0,1,0,0],jG Tryz.f310 [(0,0)]) 62
def d63:(Code×Cx)×gM:=gD (cZ Tryz.f312 [1,1,0,1,0,0],jG Tryz.f312 [(0,12)]) 63
def d64:(Code×Cx)×gM:=gD (cZ Tryz.f313 [1,1,0,0,0],jG Tryz.f313 [(0,8)]) 64
def VK (f:Nat):Option (Func×gM):=(tN f 242 (tN f 184 (tN f 104 (tN f 57 (tN f 22 (tN f 17 (tN f 7 (tL f 6 (Tryz.f6,(gB Tryz.f6))) (tL f 7 (Tryz.f7,(gB Tryz.f7)))) (tN f 21 (tL f 17 (Tryz.f17,(gB Tryz.f17))) (tL f 21 (Tryz.f21,(gB Tryz.f21))))) (tN f 24 (tN f 23 (tL f 22 (Tryz.f22,(gB Tryz.f22))) (tL f 23 (Tryz.f23,(gB Tryz.f23)))) (tN f 25 (tL f 24 (Tryz.f24,(gB Tryz.f24))) (tN f 26 (tL f 25 (Tryz.f25,(gB Tryz.f25))) (tL f 26 (Tryz.f26,(gB Tryz.f26))))))) (tN f 99 (tN f 87 (tN f 72 (tL f 57 (Tryz.f57,(gB Tryz.f57))) (tL f 72 (Tryz.f72,(EC Tryz.f72 0)))) (tN f 98 (tL f 87 (Tryz.f87,(EC Tryz.f87 1))) (tL f 98 (Tryz.f98,(gB Tryz.f98))))) (tN f 101 (tN f 100 (tL f 99 (Tryz.f99,(gB Tryz.f99))) (tL f 100 (Tryz.f100,(gB Tryz.f100)))) (tN f 102 (tL f 101 (Tryz.f101,(EC Tryz.f101 2))) (tN f 103 (tL f 102 (Tryz.f102,(gB Tryz.f102))) (tL f 103 (Tryz.f103,(EC Tryz.f103 4)))))))) (tN f 138 (tN f 113 (tN f 108 (tN f 106 (tL f 104 (Tryz.f104,(gB Tryz.f104))) (tL f 106 (Tryz.f106,aib))) (tN f 109 (tL f 108 (Tryz.f108,(gB Tryz.f108))) (tL f 109 (Tryz.f109,(gBs Tryz.f109 adA))))) (tN f 117 (tN f 114 (tL f 113 (Tryz.f113,(gB Tryz.f113))) (tL f 114 (Tryz.f114,(gB Tryz.f114)))) (tN f 136 (tL f 117 (Tryz.f117,(EC Tryz.f117 9))) (tN f 137 (tL f 136 (Tryz.f136,(gB Tryz.f136))) (tL f 137 (Tryz.f137,(gB Tryz.f137))))))) (tN f 172 (tN f 145 (tN f 140 (tL f 138 (Tryz.f138,(gB Tryz.f138))) (tL f 140 (Tryz.f140,(EC Tryz.f140 10)))) (tN f 147 (tL f 145 (Tryz.f145,(EC Tryz.f145 11))) (tN f 152 (tL f 147 (Tryz.f147,(EC Tryz.f147 13))) (tL f 152 (Tryz.f152,(gB Tryz.f152)))))) (tN f 181 (tN f 180 (tL f 172 (Tryz.f172,(gBs Tryz.f172 adB))) (tL f 180 (Tryz.f180,(EC Tryz.f180 17)))) (tN f 182 (tL f 181 (Tryz.f181,(EC Tryz.f181 18))) (tN f 183 (tL f 182 (Tryz.f182,(EC Tryz.f182 19))) (tL f 183 (Tryz.f183,(EC Tryz.f183 21))))))))) (tN f 206 (tN f 197 (tN f 189 (tN f 186 (tN f 185 (tL f 184 (Tryz.f184,(EC Tryz.f184 23))) (tL f 185 (Tryz.f185,(gB Tryz.f185)))) (tN f 188 (tL f 186 (Tryz.f186,(gB Tryz.f186))) (tL f 188 (Tryz.f188,(EC Tryz.f188 24))))) (tN f 192 (tN f 191 (tL f 189 (Tryz.f189,(gB Tryz.f189))) (tL f 191 (Tryz.f191,aic))) (tN f 195 (tL f 192 (Tryz.f192,aid)) (tN f 196 (tL f 195 (Tryz.f195,(gB Tryz.f195))) (tL f 196 (Tryz.f196,(EC Tryz.f196 27))))))) (tN f 201 (tN f 199 (tN f 198 (tL f 197 (Tryz.f197,(EC Tryz.f197 28))) (tL f 198 (Tryz.f198,(gB Tryz.f198)))) (tN f 200 (tL f 199 (Tryz.f199,(EC Tryz.f199 29))) (tL f 200 (Tryz.f200,(gB Tryz.f200))))) (tN f 203 (tN f 202 (tL f 201 (Tryz.f201,(gB Tryz.f201))) (tL f 202 (Tryz.f202,(gBs Tryz.f202 age)))) (tN f 204 (tL f 203 (Tryz.f203,(gB Tryz.f203))) (tN f 205 (tL f 204 (Tryz.f204,(EC Tryz.f204 32))) (tL f 205 (Tryz.f205,(EC Tryz.f205 33)))))))) (tN f 229 (tN f 224 (tN f 209 (tN f 207 (tL f 206 (Tryz.f206,(EC Tryz.f206 34))) (tL f 207 (Tryz.f207,(EC Tryz.f207 35)))) (tN f 212 (tL f 209 (Tryz.f209,(EC Tryz.f209 36))) (tL f 212 (Tryz.f212,(gB Tryz.f212))))) (tN f 226 (tN f 225 (tL f 224 (Tryz.f224,(EC Tryz.f224 37))) (tL f 225 (Tryz.f225,(gB Tryz.f225)))) (tN f 227 (tL f 226 (Tryz.f226,(EC Tryz.f226 38))) (tN f 228 (tL f 227 (Tryz.f227,(EC Tryz.f227 39))) (tL f 228 (Tryz.f228,(EC Tryz.f228 40))))))) (tN f 237 (tN f 232 (tN f 230 (tL f 229 (Tryz.f229,(gB Tryz.f229))) (tL f 230 (Tryz.f230,(EC Tryz.f230 41)))) (tN f 233 (tL f 232 (Tryz.f232,(EC Tryz.f232 42))) (tN f 234 (tL f 233 (Tryz.f233,(gB Tryz.f233))) (tL f 234 (Tryz.f234,(EC Tryz.f234 43)))))) (tN f 239 (tN f 238 (tL f 237 (Tryz.f237,aie)) (tL f 238 (Tryz.f238,aif))) (tN f 240 (tL f 239 (Tryz.f239,aig)) (tN f 241 (tL f 240 (Tryz.f240,aih)) (tL f 241 (Tryz.f241,(EC Tryz.f241 45)))))))))) (tN f 280 (tN f 261 (tN f 251 (tN f 246 (tN f 244 (tN f 243 (tL f 242 (Tryz.f242,aii)) (tL f 243 (Tryz.f243,aij))) (tN f 245 (tL f 244 (Tryz.f244,aik)) (tL f 245 (Tryz.f245,ail)))) (tN f 248 (tN f 247 (tL f 246 (Tryz.f246,(EC Tryz.f246 47))) (tL f 247 (Tryz.f247,aim))) (tN f 249 (tL f 248 (Tryz.f248,(gB Tryz.f248))) (tN f 250 (tL f 249 (Tryz.f249,(gB Tryz.f249))) (tL f 250 (Tryz.f250,(gB Tryz.f250))))))) (tN f 255 (tN f 253 (tN f 252 (tL f 251 (Tryz.f251,(gB Tryz.f251))) (tL f 252 (Tryz.f252,(gB Tryz.f252)))) (tN f 254 (tL f 253 (Tryz.f253,(gB Tryz.f253))) (tL f 254 (Tryz.f254,ain)))) (tN f 258 (tN f 257 (tL f 255 (Tryz.f255,(EC Tryz.f255 49))) (tL f 257 (Tryz.f257,(gB Tryz.f257)))) (tN f 259 (tL f 258 (Tryz.f258,(gB Tryz.f258))) (tN f 260 (tL f 259 (Tryz.f259,(gB Tryz.f259))) (tL f 260 (Tryz.f260,(gB Tryz.f260)))))))) (tN f 270 (tN f 265 (tN f 263 (tN f 262 (tL f 261 (Tryz.f261,(gB Tryz.f261))) (tL f 262 (Tryz.f262,(gB Tryz.f262)))) (tN f 264 (tL f 263 (Tryz.f263,aio)) (tL f 264 (Tryz.f264,aip)))) (tN f 267 (tN f 266 (tL f 265 (Tryz.f265,(gB Tryz.f265))) (tL f 266 (Tryz.f266,(gB Tryz.f266)))) (tN f 268 (tL f 267 (Tryz.f267,aiq)) (tN f 269 (tL f 268 (Tryz.f268,air)) (tL f 269 (Tryz.f269,(EC Tryz.f269 52))))))) (tN f 275 (tN f 272 (tN f 271 (tL f 270 (Tryz.f270,ais)) (tL f 271 (Tryz.f271,ait))) (tN f 273 (tL f 272 (Tryz.f272,(gB Tryz.f272))) (tN f 274 (tL f 273 (Tryz.f273,(gB Tryz.f273))) (tL f 274 (Tryz.f274,aiu))))) (tN f 277 (tN f 276 (tL f 275 (Tryz.f275,(gB Tryz.f275))) (tL f 276 (Tryz.f276,aiv))) (tN f 278 (tL f 277 (Tryz.f277,aiw)) (tN f 279 (tL f 278 (Tryz.f278,(gB Tryz.f278))) (tL f 279 (Tryz.f279,(gB Tryz.f279))))))))) (tN f 300 (tN f 289 (tN f 284 (tN f 282 (tN f 281 (tL f 280 (Tryz.f280,aix)) (tL f 281 (Tryz.f281,(gB Tryz.f281)))) (tN f 283 (tL f 282 (Tryz.f282,aiy)) (tL f 283 (Tryz.f283,aiz)))) (tN f 286 (tN f 285 (tL f 284 (Tryz.f284,aiA)) (tL f 285 (Tryz.f285,aiB))) (tN f 287 (tL f 286 (Tryz.f286,aiC)) (tN f 288 (tL f 287 (Tryz.f287,aiD)) (tL f 288 (Tryz.f288,aiE)))))) (tN f 294 (tN f 291 (tN f 290 (tL f 289 (Tryz.f289,(gB Tryz.f289))) (tL f 290 (Tryz.f290,(gB Tryz.f290)))) (tN f 292 (tL f 291 (Tryz.f291,(gB Tryz.f291))) (tN f 293 (tL f 292 (Tryz.f292,(gB Tryz.f292))) (tL f 293 (Tryz.f293,(EC Tryz.f293 57)))))) (tN f 297 (tN f 296 (tL f 294 (Tryz.f294,(gB Tryz.f294))) (tL f 296 (Tryz.f296,(gB Tryz.f296)))) (tN f 298 (tL f 297 (Tryz.f297,aiF)) (tN f 299 (tL f 298 (Tryz.f298,(gB Tryz.f298))) (tL f 299 (Tryz.f299,aiG))))))) (tN f 309 (tN f 304 (tN f 302 (tN f 301 (tL f 300 (Tryz.f300,(gB Tryz.f300))) (tL f 301 (Tryz.f301,(gB Tryz.f301)))) (tN f 303 (tL f 302 (Tryz.f302,(gBs Tryz.f302 agf))) (tL f 303 (Tryz.f303,(gB Tryz.f303))))) (tN f 306 (tN f 305 (tL f 304 (Tryz.f304,(gB Tryz.f304))) (tL f 305 (Tryz.f305,(gB Tryz.f305)))) (tN f 307 (tL f 306 (Tryz.f306,(gB Tryz.f306))) (tN f 308 (tL f 307 (Tryz.f307,(gB Tryz.f307))) (tL f 308 (Tryz.f308,(gB Tryz.f308))))))) (tN f 314 (tN f 311 (tN f 310 (tL f 309 (Tryz.f309,(EC Tryz.f309 61))) (tL f 310 (Tryz.f310,(EC Tryz.f310 62)))) (tN f 312 (tL f 311 (Tryz.f311,(gB Tryz.f311))) (tN f 313 (tL f 312 (Tryz.f312,(EC Tryz.f312 63))) (tL f 313 (Tryz.f313,(EC Tryz.f313 64)))))) (tN f 316 (tN f 315 (tL f 314 (Tryz.f314,(gB Tryz.f314))) (tL f 315 (Tryz.f315,(gB Tryz.f315)))) (tN f 317 (tL f 316 (Tryz.f316,(gB Tryz.f316))) (tN f 318 (tL f 317 (Tryz.f317,(gB Tryz.f317))) (tL f 318 (Tryz.f318,(gB Tryz.f318)))))))))))
def aei (f:Nat):Option ((Code×Cx)×gM):=(tN f 32 (tN f 16 (tN f 8 (tN f 4 (tN f 2 (tN f 1 (tL f 0 d0) (tL f 1 d1)) (tN f 3 (tL f 2 d2) (tL f 3 d3))) (tN f 6 (tN f 5 (tL f 4 d4) (tL f 5 d5)) (tN f 7 (tL f 6 d6) (tL f 7 d7)))) (tN f 12 (tN f 10 (tN f 9 (tL f 8 d8) (tL f 9 d9)) (tN f 11 (tL f 10 d10) (tL f 11 d11))) (tN f 14 (tN f 13 (tL f 12 d12) (tL f 13 d13)) (tN f 15 (tL f 14 d14) (tL f 15 d15))))) (tN f 24 (tN f 20 (tN f 18 (tN f 17 (tL f 16 d16) (tL f 17 d17)) (tN f 19 (tL f 18 d18) (tL f 19 d19))) (tN f 22 (tN f 21 (tL f 20 d20) (tL f 21 d21)) (tN f 23 (tL f 22 d22) (tL f 23 d23)))) (tN f 28 (tN f 26 (tN f 25 (tL f 24 d24) (tL f 25 d25)) (tN f 27 (tL f 26 d26) (tL f 27 d27))) (tN f 30 (tN f 29 (tL f 28 d28) (tL f 29 d29)) (tN f 31 (tL f 30 d30) (tL f 31 d31)))))) (tN f 48 (tN f 40 (tN f 36 (tN f 34 (tN f 33 (tL f 32 d32) (tL f 33 d33)) (tN f 35 (tL f 34 d34) (tL f 35 d35))) (tN f 38 (tN f 37 (tL f 36 d36) (tL f 37 d37)) (tN f 39 (tL f 38 d38) (tL f 39 d39)))) (tN f 44 (tN f 42 (tN f 41 (tL f 40 d40) (tL f 41 d41)) (tN f 43 (tL f 42 d42) (tL f 43 d43))) (tN f 46 (tN f 45 (tL f 44 d44) (tL f 45 d45)) (tN f 47 (tL f 46 d46) (tL f 47 d47))))) (tN f 56 (tN f 52 (tN f 50 (tN f 49 (tL f 48 d48) (tL f 49 d49)) (tN f 51 (tL f 50 d50) (tL f 51 d51))) (tN f 54 (tN f 53 (tL f 52 d52) (tL f 53 d53)) (tN f 55 (tL f 54 d54) (tL f 55 d55)))) (tN f 60 (tN f 58 (tN f 57 (tL f 56 d56) (tL f 57 d57)) (tN f 59 (tL f 58 d58) (tL f 59 d59))) (tN f 62 (tN f 61 (tL f 60 d60) (tL f 61 d61)) (tN f 63 (tL f 62 d62) (tN f 64 (tL f 63 d63) (tL f 64 d64))))))))
def Eo:HY:=⟨VK,aei⟩
def FO (f:Nat) (e:Func×gM):Prop:=(∀(c:CH) (a:LH) us H,e.2 c (Eo.loop a) us H=Xx wC c a e.1 us H)∧Tryz.prog.funcs[f]? = some e.1∧aS Tryz.prog f∧okF y e.1=true
def LO (e:(Code×Cx)×gM):Prop:=∀(c:CH) (a:LH) us H,e.2 c (Eo.loop a) us H=evL wC c a e.1.1 e.1.2 us H
theorem rF {f n:Nat} {x e:Func×gM} (h:FO n x):tL f n x=some e->FO f e:=rL h
theorem wW {f n:Nat} {x e:(Code×Cx)×gM} (h:LO x):tL f n x=some e->LO e:=rL (R:=λ_=>LO) h
theorem Ol {f:Nat} {e:Func×gM}:VK f=some e->FO f e:=(rN (rN (rN (rN (rN (rN (rN (rF ⟨λ_ _ _ _=>by kernel_rfl,Tryz.func6,Tryz.call6,by kernel_rfl⟩) (rF ⟨λ_ _ _ _=>by kernel_rfl,Tryz.func7,Tryz.call7,by kernel_rfl⟩)) (rN (rF ⟨λ_ _ _ _=>by kernel_rfl,Tryz.func17,Tryz.call17,by kernel_rfl⟩) (rF ⟨λ_ _ _ _=>by kernel_rfl,Tryz.func21,Tryz.call21,by kernel_rfl⟩))) (rN (rN (rF ⟨λ_ _ _ _=>by kernel_rfl,Tryz.func22,Tryz.call22,by kernel_rfl⟩) (rF ⟨λ_ _ _ _=>by kernel_rfl,Tryz.func23,Tryz.call23,by kernel_rfl⟩)) (rN (rF ⟨λ_ _ _ _=>by kernel_rfl,Tryz.func24,Tryz.call24,by kernel_rfl⟩) (rN (rF ⟨λ_ _ _ _=>by kernel_rfl,Tryz.func25,Tryz.call25,by kernel_rfl⟩) (rF ⟨λ_ _ _ _=>by kernel_rfl,Tryz.func26,Tryz.call26,by kernel_rfl⟩))))) (rN (rN (rN (rF ⟨λ_ _ _ _=>by kernel_rfl,Tryz.func57,Tryz.call57,by kernel_rfl⟩) (rF ⟨λ_ _ _ _=>by kernel_rfl,Tryz.func72,Tryz.call72,by kernel_rfl⟩)) (rN (rF ⟨λ_ _ _ _=>by kernel_rfl,Tryz.func87,Tryz.call87,by kernel_rfl⟩) (rF ⟨λ_ _ _ _=>by kernel_rfl,Tryz.func98,Tryz.call98,by kernel_rfl⟩))) (rN (rN (rF ⟨λ_ _ _ _=>by kernel_rfl,Tryz.func99,Tryz.call99,by kernel_rfl⟩) (rF ⟨λ_ _ _ _=>by kernel_rfl,Tryz.func100,Tryz.call100,by kernel_rfl⟩)) (rN (rF ⟨λ_ _ _ _=>by kernel_rfl,Tryz.func101,Tryz.call101,by kernel_rfl⟩) (rN (rF ⟨λ_ _ _ _=>by kernel_rfl,Tryz.func102,Tryz.call102,by kernel_rfl⟩) (rF ⟨λ_ _ _ _=>by kernel_rfl,Tryz.func103,Tryz.call103,by kernel_rfl⟩)))))) (rN (rN (rN (rN (rF ⟨λ_ _ _ _=>by kernel_rfl,Tryz.func104,Tryz.call104,by kernel_rfl⟩) (rF ⟨λ_ _ _ _=>by kernel_rfl,Tryz.func106,Tryz.call106,by kernel_rfl⟩)) (rN (rF ⟨λ_ _ _ _=>by kernel_rfl,Tryz.func108,Tryz.call108,by kernel_rfl⟩) (rF ⟨λ_ _ _ _=>by kernel_rfl,Tryz.func109,Tryz.call109,by kernel_rfl⟩))) (rN (rN (rF ⟨λ_ _ _ _=>by kernel_rfl,Tryz.func113,Tryz.call113,by kernel_rfl⟩) (rF ⟨λ_ _ _ _=>by kernel_rfl,Tryz.func114,Tryz.call114,by kernel_rfl⟩)) (rN (rF ⟨λ_ _ _ _=>by kernel_rfl,Tryz.func117,Tryz.call117,by kernel_rfl⟩) (rN (rF ⟨λ_ _ _ _=>by kernel_rfl,Tryz.func136,Tryz.call136,by kernel_rfl⟩) (rF ⟨λ_ _ _ _=>by kernel_rfl,Tryz.func137,Tryz.call137,by kernel_rfl⟩))))) (rN (rN (rN (rF ⟨λ_ _ _ _=>by kernel_rfl,Tryz.func138,Tryz.call138,by kernel_rfl⟩) (rF ⟨λ_ _ _ _=>by kernel_rfl,Tryz.func140,Tryz.call140,by kernel_rfl⟩)) (rN (rF ⟨λ_ _ _ _=>by kernel_rfl,Tryz.func145,Tryz.call145,by kernel_rfl⟩) (rN (rF ⟨λ_ _ _ _=>by kernel_rfl,Tryz.func147,Tryz.call147,by kernel_rfl⟩) (rF ⟨λ_ _ _ _=>by kernel_rfl,Tryz.func152,Tryz.call152,by kernel_rfl⟩)))) (rN (rN (rF ⟨λ_ _ _ _=>by kernel_rfl,Tryz.func172,Tryz.call172,by kernel_rfl⟩) (rF ⟨λ_ _ _ _=>by kernel_rfl,Tryz.func180,Tryz.call180,by kernel_rfl⟩)) (rN (rF ⟨λ_ _ _ _=>by kernel_rfl,Tryz.func181,Tryz.call181,by kernel_rfl⟩) (rN (rF ⟨λ_ _ _ _=>by kernel_rfl,Tryz.func182,Tryz.call182,by kernel_rfl⟩) (rF ⟨λ_ _ _ _=>by kernel_rfl,Tryz.func183,Tryz.call183,by kernel_rfl⟩))))))) (rN (rN (rN (rN (rN (rF ⟨λ_ _ _ _=>by kernel_rfl,Tryz.func184,Tryz.call184,by kernel_rfl⟩) (rF ⟨λ_ _ _ _=>by kernel_rfl,Tryz.func185,Tryz.call185,by kernel_rfl⟩)) (rN (rF ⟨λ_ _ _ _=>by kernel_rfl,Tryz.func186,Tryz.call186,by kernel_rfl⟩) (rF ⟨λ_ _ _ _=>by kernel_rfl,Tryz.func188,Tryz.call188,by kernel_rfl⟩))) (rN (rN (rF ⟨λ_ _ _ _=>by kernel_rfl,Tryz.func189,Tryz.call189,by kernel_rfl⟩) (rF ⟨λ_ _ _ _=>by kernel_rfl,Tryz.func191,Tryz.call191,by kernel_rfl⟩)) (rN (rF ⟨λ_ _ _ _=>by kernel_rfl,Tryz.func192,Tryz.call192,by kernel_rfl⟩) (rN (rF ⟨λ_ _ _ _=>by kernel_rfl,Tryz.func195,Tryz.call195,by kernel_rfl⟩) (rF ⟨λ_ _ _ _=>by kernel_rfl,Tryz.func196,Tryz.call196,by kernel_rfl⟩))))) (rN (rN (rN (rF ⟨λ_ _ _ _=>by kernel_rfl,Tryz.func197,Tryz.call197,by kernel_rfl⟩) (rF ⟨λ_ _ _ _=>by kernel_rfl,Tryz.func198,Tryz.call198,by kernel_rfl⟩)) (rN (rF ⟨λ_ _ _ _=>by kernel_rfl,Tryz.func199,Tryz.call199,by kernel_rfl⟩) (rF ⟨λ_ _ _ _=>by kernel_rfl,Tryz.func200,Tryz.call200,by kernel_rfl⟩))) (rN (rN (rF ⟨λ_ _ _ _=>by kernel_rfl,Tryz.func201,Tryz.call201,by kernel_rfl⟩) (rF ⟨λ_ _ _ _=>by kernel_rfl,Tryz.func202,Tryz.call202,by kernel_rfl⟩)) (rN (rF ⟨λ_ _ _ _=>by kernel_rfl,Tryz.func203,Tryz.call203,by kernel_rfl⟩) (rN (rF ⟨λ_ _ _ _=>by kernel_rfl,Tryz.func204,Tryz.call204,by kernel_rfl⟩) (rF ⟨λ_ _ _ _=>by kernel_rfl,Tryz.func205,Tryz.call205,by kernel_rfl⟩)))))) (rN (rN (rN (rN (rF ⟨λ_ _ _ _=>by kernel_rfl,Tryz.func206,Tryz.call206,by kernel_rfl⟩) (rF ⟨λ_ _ _ _=>by kernel_rfl,Tryz.func207,Tryz.call207,by kernel_rfl⟩)) (rN (rF ⟨λ_ _ _ _=>by kernel_rfl,Tryz.func209,Tryz.call209,by kernel_rfl⟩) (rF ⟨λ_ _ _ _=>by kernel_rfl,Tryz.func212,Tryz.call212,by kernel_rfl⟩))) (rN (rN (rF ⟨λ_ _ _ _=>by kernel_rfl,Tryz.func224,Tryz.call224,by kernel_rfl⟩) (rF ⟨λ_ _ _ _=>by kernel_rfl,Tryz.func225,Tryz.call225,by kernel_rfl⟩)) (rN (rF ⟨λ_ _ _ _=>by kernel_rfl,Tryz.func226,Tryz.call226,by kernel_rfl⟩) (rN (rF ⟨λ_ _ _ _=>by kernel_rfl,Tryz.func227,Tryz.call227,by kernel_rfl⟩) (rF ⟨λ_ _ _ _=>by kernel_rfl,Tryz.func228,Tryz.call228,by kernel_rfl⟩))))) (rN (rN (rN (rF ⟨λ_ _ _ _=>by kernel_rfl,Tryz.func229,Tryz.call229,by kernel_rfl⟩) (rF ⟨λ_ _ _ _=>by kernel_rfl,Tryz.func230,Tryz.call230,by kernel_rfl⟩)) (rN (rF ⟨λ_ _ _ _=>by kernel_rfl,Tryz.func232,Tryz.call232,by kernel_rfl⟩) (rN (rF ⟨λ_ _ _ _=>by kernel_rfl,Tryz.func233,Tryz.call233,by kernel_rfl⟩) (rF ⟨λ_ _ _ _=>by kernel_rfl,Tryz.func234,Tryz.call234,by kernel_rfl⟩)))) (rN (rN (rF ⟨λ_ _ _ _=>by kernel_rfl,Tryz.func237,Tryz.call237,by kernel_rfl⟩) (rF ⟨λ_ _ _ _=>by kernel_rfl,Tryz.func238,Tryz.call238,by kernel_rfl⟩)) (rN (rF ⟨λ_ _ _ _=>by kernel_rfl,Tryz.func239,Tryz.call239,by kernel_rfl⟩) (rN (rF ⟨λ_ _ _ _=>by kernel_rfl,Tryz.func240,Tryz.call240,by kernel_rfl⟩) (rF ⟨λ_ _ _ _=>by kernel_rfl,Tryz.func241,Tryz.call241,by kernel_rfl⟩)))))))) (rN (rN (rN (rN (rN (rN (rF ⟨λ_ _ _ _=>by kernel_rfl,Tryz.func242,Tryz.call242,by kernel_rfl⟩) (rF ⟨λ_ _ _ _=>by kernel_rfl,Tryz.func243,Tryz.call243,by kernel_rfl⟩)) (rN (rF ⟨λ_ _ _ _=>by kernel_rfl,Tryz.func244,Tryz.call244,by kernel_rfl⟩) (rF ⟨λ_ _ _ _=>by kernel_rfl,Tryz.func245,Tryz.call245,by kernel_rfl⟩))) (rN (rN (rF ⟨λ_ _ _ _=>by kernel_rfl,Tryz.func246,Tryz.call246,by kernel_rfl⟩) (rF ⟨λ_ _ _ _=>by kernel_rfl,Tryz.func247,Tryz.call247,by kernel_rfl⟩)) (rN (rF ⟨λ_ _ _ _=>by kernel_rfl,Tryz.func248,Tryz.call248,by kernel_rfl⟩) (rN (rF ⟨λ_ _ _ _=>by kernel_rfl,Tryz.func249,Tryz.call249,by kernel_rfl⟩) (rF ⟨λ_ _ _ _=>by kernel_rfl,Tryz.func250,Tryz.call250,by kernel_rfl⟩))))) (rN (rN (rN (rF ⟨λ_ _ _ _=>by kernel_rfl,Tryz.func251,Tryz.call251,by kernel_rfl⟩) (rF ⟨λ_ _ _ _=>by kernel_rfl,Tryz.func252,Tryz.call252,by kernel_rfl⟩)) (rN (rF ⟨λ_ _ _ _=>by kernel_rfl,Tryz.func253,Tryz.call253,by kernel_rfl⟩) (rF ⟨λ_ _ _ _=>by kernel_rfl,Tryz.func254,Tryz.call254,by kernel_rfl⟩))) (rN (rN (rF ⟨λ_ _ _ _=>by kernel_rfl,Tryz.func255,Tryz.call255,by kernel_rfl⟩) (rF ⟨λ_ _ _ _=>by kernel_rfl,Tryz.func257,Tryz.call257,by kernel_rfl⟩)) (rN (rF ⟨λ_ _ _ _=>by kernel_rfl,Tryz.func258,Tryz.call258,by kernel_rfl⟩) (rN (rF ⟨λ_ _ _ _=>by kernel_rfl,Tryz.func259,Tryz.call259,by kernel_rfl⟩) (rF ⟨λ_ _ _ _=>by kernel_rfl,Tryz.func260,Tryz.call260,by kernel_rfl⟩)))))) (rN (rN (rN (rN (rF ⟨λ_ _ _ _=>by kernel_rfl,Tryz.func261,Tryz.call261,by kernel_rfl⟩) (rF ⟨λ_ _ _ _=>by kernel_rfl,Tryz.func262,Tryz.call262,by kernel_rfl⟩)) (rN (rF ⟨λ_ _ _ _=>by kernel_rfl,Tryz.func263,Tryz.call263,by kernel_rfl⟩) (rF ⟨λ_ _ _ _=>by kernel_rfl,Tryz.func264,Tryz.call264,by kernel_rfl⟩))) (rN (rN (rF ⟨λ_ _ _ _=>by kernel_rfl,Tryz.func265,Tryz.call265,by kernel_rfl⟩) (rF ⟨λ_ _ _ _=>by kernel_rfl,Tryz.func266,Tryz.call266,by kernel_rfl⟩)) (rN (rF ⟨λ_ _ _ _=>by kernel_rfl,Tryz.func267,Tryz.call267,by kernel_rfl⟩) (rN (rF ⟨λ_ _ _ _=>by kernel_rfl,Tryz.func268,Tryz.call268,by kernel_rfl⟩) (rF ⟨λ_ _ _ _=>by kernel_rfl,Tryz.func269,Tryz.call269,by kernel_rfl⟩))))) (rN (rN (rN (rF ⟨λ_ _ _ _=>by kernel_rfl,Tryz.func270,Tryz.call270,by kernel_rfl⟩) (rF ⟨λ_ _ _ _=>by kernel_rfl,Tryz.func271,Tryz.call271,by kernel_rfl⟩)) (rN (rF ⟨λ_ _ _ _=>by kernel_rfl,Tryz.func272,Tryz.call272,by kernel_rfl⟩) (rN (rF ⟨λ_ _ _ _=>by kernel_rfl,Tryz.func273,Tryz.call273,by kernel_rfl⟩) (rF ⟨λ_ _ _ _=>by kernel_rfl,Tryz.func274,Tryz.call274,by kernel_rfl⟩)))) (rN (rN (rF ⟨λ_ _ _ _=>by kernel_rfl,Tryz.func275,Tryz.call275,by kernel_rfl⟩) (rF ⟨λ_ _ _ _=>by kernel_rfl,Tryz.func276,Tryz.call276,by kernel_rfl⟩)) (rN (rF ⟨λ_ _ _ _=>by kernel_rfl,Tryz.func277,Tryz.call277,by kernel_rfl⟩) (rN (rF ⟨λ_ _ _ _=>by kernel_rfl,Tryz.func278,Tryz.call278,by kernel_rfl⟩) (rF ⟨λ_ _ _ _=>by kernel_rfl,Tryz.func279,Tryz.call279,by kernel_rfl⟩))))))) (rN (rN (rN (rN (rN (rF ⟨λ_ _ _ _=>by kernel_rfl,Tryz.func280,Tryz.call280,by kernel_rfl⟩) (rF ⟨λ_ _ _ _=>by kernel_rfl,Tryz.func281,Tryz.call281,by kernel_rfl⟩)) (rN (rF ⟨λ_ _ _ _=>by kernel_rfl,Tryz.func282,Tryz.call282,by kernel_rfl⟩) (rF ⟨λ_ _ _ _=>by kernel_rfl,Tryz.func283,Tryz.call283,by kernel_rfl⟩))) (rN (rN (rF ⟨λ_ _ _ _=>by kernel_rfl,Tryz.func284,Tryz.call284,by kernel_rfl⟩) (rF ⟨λ_ _ _ _=>by kernel_rfl,Tryz.func285,Tryz.call285,by kernel_rfl⟩)) (rN (rF ⟨λ_ _ _ _=>by kernel_rfl,Tryz.func286,Tryz.call286,by kernel_rfl⟩) (rN (rF ⟨λ_ _ _ _=>by kernel_rfl,Tryz.func287,Tryz.call287,by kernel_rfl⟩) (rF ⟨λ_ _ _ _=>by kernel_rfl,Tryz.func288,Tryz.call288,by kernel_rfl⟩))))) (rN (rN (rN (rF ⟨λ_ _ _ _=>by kernel_rfl,Tryz.func289,Tryz.call289,by kernel_rfl⟩) (rF ⟨λ_ _ _ _=>by kernel_rfl,Tryz.func290,Tryz.call290,by kernel_rfl⟩)) (rN (rF ⟨λ_ _ _ _=>by kernel_rfl,Tryz.func291,Tryz.call291,by kernel_rfl⟩) (rN (rF ⟨λ_ _ _ _=>by kernel_rfl,Tryz.func292,Tryz.call292,by kernel_rfl⟩) (rF ⟨λ_ _ _ _=>by kernel_rfl,Tryz.func293,Tryz.call293,by kernel_rfl⟩)))) (rN (rN (rF ⟨λ_ _ _ _=>by kernel_rfl,Tryz.func294,Tryz.call294,by kernel_rfl⟩) (rF ⟨λ_ _ _ _=>by kernel_rfl,Tryz.func296,Tryz.call296,by kernel_rfl⟩)) (rN (rF ⟨λ_ _ _ _=>by kernel_rfl,Tryz.func297,Tryz.call297,by kernel_rfl⟩) (rN (rF ⟨λ_ _ _ _=>by kernel_rfl,Tryz.func298,Tryz.call298,by kernel_rfl⟩) (rF ⟨λ_ _ _ _=>by kernel_rfl,Tryz.func299,Tryz.call299,by kernel_rfl⟩)))))) (rN (rN (rN (rN (rF ⟨λ_ _ _ _=>by kernel_rfl,Tryz.func300,Tryz.call300,by kernel_rfl⟩) (rF ⟨λ_ _ _ _=>by kernel_rfl,Tryz.func301,Tryz.call301,by kernel_rfl⟩)) (rN (rF ⟨λ_ _ _ _=>by kernel_rfl,Tryz.func302,Tryz.call302,by kernel_rfl⟩) (rF ⟨λ_ _ _ _=>by kernel_rfl,Tryz.func303,Tryz.call303,by kernel_rfl⟩))) (rN (rN (rF ⟨λ_ _ _ _=>by kernel_rfl,Tryz.func304,Tryz.call304,by kernel_rfl⟩) (rF ⟨λ_ _ _ _=>by kernel_rfl,Tryz.func305,Tryz.call305,by kernel_rfl⟩)) (rN (rF ⟨λ_ _ _ _=>by kernel_rfl,Tryz.func306,Tryz.call306,by kernel_rfl⟩) (rN (rF ⟨λ_ _ _ _=>by kernel_rfl,Tryz.func307,Tryz.call307,by kernel_rfl⟩) (rF ⟨λ_ _ _ _=>by kernel_rfl,Tryz.func308,Tryz.call308,by kernel_rfl⟩))))) (rN (rN (rN (rF ⟨λ_ _ _ _=>by kernel_rfl,Tryz.func309,Tryz.call309,by kernel_rfl⟩) (rF ⟨λ_ _ _ _=>by kernel_rfl,Tryz.func310,Tryz.call310,by kernel_rfl⟩)) (rN (rF ⟨λ_ _ _ _=>by kernel_rfl,Tryz.func311,Tryz.call311,by kernel_rfl⟩) (rN (rF ⟨λ_ _ _ _=>by kernel_rfl,Tryz.func312,Tryz.call312,by kernel_rfl⟩) (rF ⟨λ_ _ _ _=>by kernel_rfl,Tryz.func313,Tryz.call313,by kernel_rfl⟩)))) (rN (rN (rF ⟨λ_ _ _ _=>by kernel_rfl,Tryz.func314,Tryz.call314,by kernel_rfl⟩) (rF ⟨λ_ _ _ _=>by kernel_rfl,Tryz.func315,Tryz.call315,by kernel_rfl⟩)) (rN (rF ⟨λ_ _ _ _=>by kernel_rfl,Tryz.func316,Tryz.call316,by kernel_rfl⟩) (rN (rF ⟨λ_ _ _ _=>by kernel_rfl,Tryz.func317,Tryz.call317,by kernel_rfl⟩) (rF ⟨λ_ _ _ _=>by kernel_rfl,Tryz.func318,Tryz.call318,by kernel_rfl⟩)))))))))
theorem aak {f:Nat} {e:(Code×Cx)×gM}:aei f=some e->LO e:=(rN (rN (rN (rN (rN (rN (wW λ_ _ _ _=>by kernel_rfl) (wW λ_ _ _ _=>by kernel_rfl)) (rN (wW λ_ _ _ _=>by kernel_rfl) (wW λ_ _ _ _=>by kernel_rfl))) (rN (rN (wW λ_ _ _ _=>by kernel_rfl) (wW λ_ _ _ _=>by kernel_rfl)) (rN (wW λ_ _ _ _=>by kernel_rfl) (wW λ_ _ _ _=>by kernel_rfl)))) (rN (rN (rN (wW λ_ _ _ _=>by kernel_rfl) (wW λ_ _ _ _=>by kernel_rfl)) (rN (wW λ_ _ _ _=>by kernel_rfl) (wW λ_ _ _ _=>by kernel_rfl))) (rN (rN (wW λ_ _ _ _=>by kernel_rfl) (wW λ_ _ _ _=>by kernel_rfl)) (rN (wW λ_ _ _ _=>by kernel_rfl) (wW λ_ _ _ _=>by kernel_rfl))))) (rN (rN (rN (rN (wW λ_ _ _ _=>by kernel_rfl) (wW λ_ _ _ _=>by kernel_rfl)) (rN (wW λ_ _ _ _=>by kernel_rfl) (wW λ_ _ _ _=>by kernel_rfl))) (rN (rN (wW λ_ _ _ _=>by kernel_rfl) (wW λ_ _ _ _=>by kernel_rfl)) (rN (wW λ_ _ _ _=>by kernel_rfl) (wW λ_ _ _ _=>by kernel_rfl)))) (rN (rN (rN (wW λ_ _ _ _=>by kernel_rfl) (wW λ_ _ _ _=>by kernel_rfl)) (rN (wW λ_ _ _ _=>by kernel_rfl) (wW λ_ _ _ _=>by kernel_rfl))) (rN (rN (wW λ_ _ _ _=>by kernel_rfl) (wW λ_ _ _ _=>by kernel_rfl)) (rN (wW λ_ _ _ _=>by kernel_rfl) (wW λ_ _ _ _=>by kernel_rfl)))))) (rN (rN (rN (rN (rN (wW λ_ _ _ _=>by kernel_rfl) (wW λ_ _ _ _=>by kernel_rfl)) (rN (wW λ_ _ _ _=>by kernel_rfl) (wW λ_ _ _ _=>by kernel_rfl))) (rN (rN (wW λ_ _ _ _=>by kernel_rfl) (wW λ_ _ _ _=>by kernel_rfl)) (rN (wW λ_ _ _ _=>by kernel_rfl) (wW λ_ _ _ _=>by kernel_rfl)))) (rN (rN (rN (wW λ_ _ _ _=>by kernel_rfl) (wW λ_ _ _ _=>by kernel_rfl)) (rN (wW λ_ _ _ _=>by kernel_rfl) (wW λ_ _ _ _=>by kernel_rfl))) (rN (rN (wW λ_ _ _ _=>by kernel_rfl) (wW λ_ _ _ _=>by kernel_rfl)) (rN (wW λ_ _ _ _=>by kernel_rfl) (wW λ_ _ _ _=>by kernel_rfl))))) (rN (rN (rN (rN (wW λ_ _ _ _=>by kernel_rfl) (wW λ_ _ _ _=>by kernel_rfl)) (rN (wW λ_ _ _ _=>by kernel_rfl) (wW λ_ _ _ _=>by kernel_rfl))) (rN (rN (wW λ_ _ _ _=>by kernel_rfl) (wW λ_ _ _ _=>by kernel_rfl)) (rN (wW λ_ _ _ _=>by kernel_rfl) (wW λ_ _ _ _=>by kernel_rfl)))) (rN (rN (rN (wW λ_ _ _ _=>by kernel_rfl) (wW λ_ _ _ _=>by kernel_rfl)) (rN (wW λ_ _ _ _=>by kernel_rfl) (wW λ_ _ _ _=>by kernel_rfl))) (rN (rN (wW λ_ _ _ _=>by kernel_rfl) (wW λ_ _ _ _=>by kernel_rfl)) (rN (wW λ_ _ _ _=>by kernel_rfl) (rN (wW λ_ _ _ _=>by kernel_rfl) (wW λ_ _ _ _=>by kernel_rfl))))))))
theorem Ad:Lz Eo wC:=⟨λh=>(Ol h).1,aak⟩
theorem aaj {f:Nat} {e:Func×gM} (h:VK f=some e):Tryz.prog.funcs[f]? = some e.1∧aS Tryz.prog f∧okF y e.1=true:=(Ol h).2
end
end Go.Gx
end
namespace Go.Gx
open Go Go.Sx
section
variable {P:Program} {gs:AP} {w0:fC gs} {tb:TB}
theorem QU:tW P w0 (λ_ _ _=>none):=λf b H g a h=>by cases h
theorem Kn:Jd P w0 tb (λ_ _ _ _=>none):=λb c d H a h=>by cases h
theorem acC {C:CH} {G:LH} (y:fV P tb) (Q:P.follows .mixedOrders=true) (k:∀w0:fC gs,tW P w0 C) (l:Jd P w0 tb G) {f:Nat} {d:Func} {J:List GV} {H:GH} {c:Qy} (L:P.funcs[f]? = some d) (A:okF tb d=true) (h:Xx tb C G d J H=some c) (O:c.e = .ret) {t:eP} {w:World} {s:List Value} (R:gF w0 t H w) (E:qL t J s):
  Calls P f s.toArray w λe u=>∃v a,e = .returned v∧t.le a∧gF w0 a c.H u∧Rl a (Xd c.vs) v:=by
 obtain⟨M,N⟩:=RD A;obtain⟨i,D,h⟩:=aF.1 (show ob d.body _=some c from h);obtain⟨K,m,h⟩:=sM h;rw[List.range_eq_range']at m;have r:=LC m;have S:s.length<=d.ntmps:=by rw[<-E.len,r];exact N
 refine vA L D ?_;have F:l_ t d.ntmps K {tmps:=s.toArray++Array.replicate (d.ntmps - s.toArray.size) undef,defers:=[]}:=by
  refine OQ Z (by simp;omega) E (λj v p=> ?_) m;have z:=bJ p;rw[Nat.zero_add,zB7 (by simpa using z)];simpa using p
 refine D_ y Q k l i _ _ _ ⟨K,H⟩ c t _ w _ (M i D) h F R ⟨λI a B u q b n o=> ?_,λid I a B u q b n o=> ?_,λI a B u q b n o=> ?_⟩
 ·obtain⟨x,v,p,g⟩:=IE (fn:=d) y Z n o q;exact Sx.body_end (.inr Z) n.defers g ⟨v,a,rfl,b,by rw[x];exact o,p⟩
 ·have:=BI q;rw[O]at this;cases this
 ·obtain⟨x,v,p,g⟩:=IE (fn:=d) y Z n o q;exact Sx.body_end (.inl Z) n.defers g ⟨v,a,rfl,b,by rw[x];exact o,p⟩
noncomputable def NQ (tb:TB) (f:Nat) (a:Func):CH:=λg b H=>bif Nat.beq g f then Oj (Xx tb (λ_ _ _=>none) (λ_ _ _ _=>none) a b H)else none
theorem Yz (m:fV P tb) (p:P.follows .mixedOrders=true) {f:Nat} {c:Func} (k:P.funcs[f]? = some c) (n:aS P f) (i:okF tb c=true):tW P w0 (NQ tb f c):=λg r H x j h t w s R q=>by
 unfold NQ at h;cases b:Nat.beq g f with
 |false=>rw[b]at h;cases h
 |true=>
 rw[b]at h;have b:=zA2 b;subst b;replace h:Oj (Xx tb (λ_ _ _=>none) (λ_ _ _ _=>none) c r H)=some (x,j):=h;unfold Oj at h;obtain⟨o,l,a⟩:=aF.1 h;cases d:o.e with
 |normal=>rw[d]at a;cases a
 |exit id=>rw[d]at a;cases a
 |ret=>
  rw[d]at a;cases a;exact .inr ⟨n _ w,acC m p (λ_=>QU) Kn k i l d R q⟩
theorem Xv {id:Nat} {o:Oper} {l:List Oper} {Q:Exit->Act->List Frame->World->Prop} {a:Act} {d:List Frame} {w:World} (x:l.all kM=true) (C:o.guard=none) (r:(execOp a.eval o).run P w = .ok .recover w)
  (q:recoverD d=none) (h:Sx.wpList P (o::l).toArray (λe g t=>Q e g d t) l (a.put o.dst .nilIface) w):(Code.region id (o::l).toArray false).wpSIn (FR none) 0 P Q a d w:=by
 intro b k B f u c;have y:(o::l).toArray[0]? = some o:=by simp
 obtain⟨e,g,t,E,i⟩:=wp_opsIn (F:=FR none) (n:=0) (Q:=λe g t=>Q e g d t) (ops:=(o::l).toArray) (List.range' 1 l.length) (a.put o.dst .nilIface) w
  (by rw[wpOpsIn_eq_wpListIn l 1 (by intro j;simp[Nat.add_comm 1 j])];exact Sx.wpList_in l _ w x h) b k d f u c
 have H:Region.wanted o (yielded (o::l).toArray a.tmps)=true:=by simp[Region.wanted,C]
 have A:(lone (b.atR a (.inRegion (o::l).toArray (0::List.range' 1 l.length)::k)) d w).fenced P (FR none):=fenced_oper u c y (λ_ _=>trivial);have p:=stepGR_op (P:=P) (b:=b) (k:=k) (cs:=d) (w:=w) (rest:=List.range' 1 l.length) y H;rw[f,Oper.semAt_none]at p;have m:∀v,(b.atR a (.inRegion (o::l).toArray (0::List.range' 1 l.length)::k)).finish v=b.atR (a.put o.dst v) (.inRegion (o::l).toArray (List.range' 1 l.length)::k):=by
  intro v;rw[Frame.finish_atR,y];rfl
 have D:(b.atR a (.inRegion (o::l).toArray (0::List.range' 1 l.length)::k)).kind = .deferred:=B;have s:=tryRecover_deferred D d;have G:List.range (o::l).toArray.size=0::List.range' 1 l.length:=by simp[List.range_eq_range',List.range'_succ]
 have z:=stepR_region (P:=P) (b:=b) (a:=a) (k:=k) (cs:=d) (w:=w) (id:=id) (ops:=(o::l).toArray);rw[G]at z;refine⟨e,g,d,t,rfl,E,.of_steps (.head (fenced_calm u c Z) z (.one A (step_lone_go ?_))) i⟩
 rw[p,<-m];simp only[Frame.atR,f]at s ⊢;simp[stepG.apply,r,s,q]
theorem Wz {ch:CH} {lp:LH} (I:fV P tb) (hm:P.follows .mixedOrders=true) {f:Nat} {i:Func} {id m d:Nat} {o:Oper} {l:List Oper} {b:Code} {U:Cx} {q:Qy} {a:Array Value} {w:World}
  (c:∀w0:fC noG,tW P w0 ch) (p:Jd P (fC.one w) tb lp) (X:P.funcs[f]? = some i) (V:i.body=some (.seq (.region id (o::l).toArray false) b)) (B:o.guard=none) (W:o.dst=some d) (A:d<i.ntmps)
  (u:∀ρ w,(execOp ρ o).run P w = .ok .recover w) (K:l.all (JB i.ntmps)=true) (hr:Ja tb i.ntmps b=true) (s:i.results = #[]) (aa:a.size<=i.ntmps)
  (h:GT tb ch (o::l) (evC tb ch lp b m U (ID [])) l ⟨[(d,.inil)],H0⟩=some q) (J:q.e = .normal):
  CallsDIn (FR none) 0 P f a .returning w λe u' E=>∃v,e = .returned v∧u' = .returning∧OE w E:=by
 have D:l.all kM=true:=zA5.2 λo C=>(vO (zA5.1 K o C)).1;refine callsDIn_of_wpSIn X V trivial λk T M=> ?_;have r:recoverD (k::T)=none:=by simp[recoverD,M]
 refine wpSIn_seq (Xv D B (u _ _) r ?_);have F:l_ (λ_=>none) i.ntmps [(d,.inil)] (({tmps:=a++Array.replicate (i.ntmps - a.size) undef,defers:=[]}:Act).put o.dst .nilIface):=by
  rw[W];refine l_.put ⟨rfl,by simp;omega,λt g B=>(by cases B)⟩ A ?_;exact .inil
 refine Ik I (c (fC.one w)) l ⟨[(d,.inil)],H0⟩ _ _ w K F (gF.start (fC.one w) Z) h λs' G S E Y L Q R=> ?_;refine wpSIn_of_wpIn Z ?_;refine D_ I hm c p b _ _ _ s' q G S E _ hr Y Q R ⟨λN x H O j n y z=> ?_,λid N x H O j n y z=> ?_,λN x H O j n y z=> ?_⟩
 ·refine⟨y.defers,k.mode,rfl,.tuple #[],?_,_,rfl,M,z.ext.ext⟩
  simp[results,s]
 ·have:=BI j;rw[J]at this;cases this
 ·have:=PS j;rw[J]at this;cases this
theorem Lm {o:Oper} {l:List Oper} {b:Array Oper} {Q:Exit->Act->World->Prop} {a:Act} {w w':World} {v:Value} (c:o.guard=none) (d:(execOp a.eval o).run P w = .ok (.value v) w') (h:Sx.wpList P b Q l (a.put o.dst v) w'):Sx.wpList P b Q (o::l) a w:=by
 unfold Sx.wpList;rw[if_pos (by simp[Region.wanted,c])];exact .inl (by simp only[Oper.wp,d,Oper.upon];exact h)
theorem SL {o:Oper} {l:List Oper} {b:Array Oper} {Q:Exit->Act->World->Prop} {a:Act} {w w':World} (c:o.guard=none) (d:(execOp a.eval o).run P w = .ok .skip w') (h:Sx.wpList P b Q l (a.put o.dst undef) w'):Sx.wpList P b Q (o::l) a w:=by
 unfold Sx.wpList;rw[if_pos (by simp[Region.wanted,c])];exact .inl (by simp only[Oper.wp,d,Oper.upon];exact h)
theorem Xw {o:Oper} {l:List Oper} {b:Array Oper} {Q:Exit->Act->World->Prop} {a:Act} {w:World} {f:Nat} {args:Array Value} {S:Value->World->Prop} (d:o.guard=none) (g:(execOp a.eval o).run P w = .ok (.enter f args) w)
  (c:Calls P f args w λe w'=>∃v,e = .returned v∧S v w') (h:∀v w',S v w'->Sx.wpList P b Q l (a.put o.dst v) w'):Sx.wpList P b Q (o::l) a w:=by
 unfold Sx.wpList;rw[if_pos (by simp[Region.wanted,d])];refine .inl ?_;simp only[Oper.wp,g,Oper.upon];refine c.mono ?_;rintro e w' ⟨v,rfl,i⟩;exact h v w' i
theorem afg (M:fV P tb) {c cc T1 T2 i0 i1 i2 i3 y0 y1 y2 y3 y4 y5 y6 y7:Nat} {p0 p1 p2 p3 p4 p5 p6 p7:String} {e0 e1 e2 e3 e4 e5 e6 e7:Array Edge} {z:Func} (hf:P.funcs[c]? = some z) (ag:aS P c) (ah:aS P cc)
  (hb:z.body=some (.seq (.region i0 #[⟨some 2,.alloc T1,y0,p0,e0,none⟩,⟨some 3,.alloc T2,y1,p1,e1,none⟩] false)
   (.seq (.region i1 #[⟨some 4,.makeFunc (.func cc) #[] #[.tmp 2,.tmp 3],y2,p2,e2,none⟩,⟨none,.defer ⟨.value (.tmp 4),#[],#[]⟩,y3,p3,e3,none⟩] false)
   (.seq (.region i2 #[⟨some 5,.move (.tmp 0),y4,p4,e4,none⟩,⟨some 6,.call ⟨.value (.tmp 5),#[],#[]⟩,y5,p5,e5,none⟩] false)
   (.seq (.region i3 #[⟨none,.store T1 (.tmp 2) (.const (.int .i64 0)),y6,p6,e6,none⟩,⟨none,.store T2 (.tmp 3) (.const (.int .i64 0)),y7,p7,e7,none⟩] false) .ret)))))
  (hn:z.ntmps=7) (Q:z.results = #[.cell 2 T1,.cell 3 T2])
  (aa:∀H,yJ tb T1 H=some (.ptr H.n 0,H.new (.cells [Ai]))) (ab:∀H,yJ tb T2 H=some (.ptr H.n 0,H.new (.cells [Ai])))
  (ae:∀H h c,GH.cells H h=some [c]->tO tb T1 (.ptr h 0) Ai H=some (.un,H.set h (.cells [Ai]))) (af:∀H h c,GH.cells H h=some [c]->tO tb T2 (.ptr h 0) Ai H=some (.un,H.set h (.cells [Ai])))
  (ac:∀H h,GH.cells H h=some [Ai]->uV tb T1 (.ptr h 0) H=some Ai) (ad:∀H h,GH.cells H h=some [Ai]->uV tb T2 (.ptr h 0) H=some Ai)
  (N:∀o w,o.size=2->CallsDIn (FR none) 0 P cc o .returning w λe u' l=>∃v,e = .returned v∧u' = .returning∧OE w l)
  {G:eP} {g:Nat} {k j:List Value} {w:World} {H s:GH} {c1 c2:GV} (R:gF w0 G H w) (hc:∀i l,G.le i->gF w0 i ((H.new (.cells [Ai])).new (.cells [Ai])) l->∃x,kN P w0 i g (k++j) l x s) (h1:s.cells H.n=some [c1]) (J:s.cells (H.n+1)=some [c2]):
  kN P w0 G c [.func (.func g) k.toArray j.toArray] w (.tup [Ai,Ai]) ((((s.set H.n (.cells [Ai])).set (H.n+1) (.cells [Ai])).del H.n).del (H.n+1)):=by
 refine .inr ⟨ag _ w,?_⟩;refine QV (r:=none) (n:=0) (callsIn_of_wp_defers hf hb trivial ?_);rw[hn];obtain⟨b,w1,ap,aj,C,R1,U⟩:=JU (P:=P) M R (aa H);obtain⟨d,y,I,ak,p,R2,V⟩:=JU (P:=P) M R1 (ab _);obtain⟨x,hx⟩:=hc I y (eP.le_trans C p) R2;refine wpIn_seq (uW Z ?_);refine Lm Z (v:=b) (w':=w1) (by simp[execOp,aj]) ?_;refine Lm Z (v:=d) (w':=y) (by simp[execOp,ak]) ?_;show Code.wpIn (FR none) 0 P _ _ (⟨#[.func (.func g) k.toArray j.toArray,undef,b,d,undef,undef,undef],[]⟩:Act) y;refine wpIn_seq (wpIn_region_lit ?_);refine wpListIn_plain Z λK hK=>⟨λ_ _=>trivial,?_⟩
 have hm:(Oper.semAt (FR none).round (⟨#[.func (.func g) k.toArray j.toArray,undef,b,d,undef,undef,undef],[]⟩:Act).eval ⟨some 4,.makeFunc (.func cc) #[] #[.tmp 2,.tmp 3],y2,p2,e2,none⟩).run P y = .ok (.value (.func (.func cc) #[] #[b,d])) y:=by
  rw[show(FR none).round=none from rfl,Oper.semAt_none];simp[execOp,Instr.makeFunc,Act.eval]
 rw[hm];refine hK _ _ ?_;show wpListIn _ _ _ _ _ _ (⟨#[.func (.func g) k.toArray j.toArray,undef,b,d,.func (.func cc) #[] #[b,d],undef,undef],[]⟩:Act) y;refine wpListIn_plain Z λK hK=>⟨λ_ _=>trivial,?_⟩
 have hm:(Oper.semAt (FR none).round (⟨#[.func (.func g) k.toArray j.toArray,undef,b,d,.func (.func cc) #[] #[b,d],undef,undef],[]⟩:Act).eval ⟨none,.defer ⟨.value (.tmp 4),#[],#[]⟩,y3,p3,e3,none⟩).run P y = .ok (.defer ⟨.fn (.func cc) #[b,d],#[]⟩) y:=by
  rw[show(FR none).round=none from rfl,Oper.semAt_none];simp[execOp,resolve,Act.eval,Deferred.ofValue]
 rw[hm];refine hK _ _ ?_;show Code.wpIn (FR none) 0 P _ _ (⟨#[.func (.func g) k.toArray j.toArray,undef,b,d,.func (.func cc) #[] #[b,d],undef,undef],[⟨.fn (.func cc) #[b,d],#[]⟩]⟩:Act) y;refine wpIn_seq (uW Z ?_);refine Lm Z (v:= .func (.func g) k.toArray j.toArray) (w':=y) (by simp[execOp,Act.eval]) ?_;show Sx.wpList _ _ _ _ (⟨#[.func (.func g) k.toArray j.toArray,undef,b,d,.func (.func cc) #[] #[b,d],.func (.func g) k.toArray j.toArray,undef],[⟨.fn (.func cc) #[b,d],#[]⟩]⟩:Act) y;have go:∀v D m,I.le m->gF w0 m s D->Code.wpIn (FR none) 0 P (.seq (.region i3 #[⟨none,.store T1 (.tmp 2) (.const (.int .i64 0)),y6,p6,e6,none⟩,⟨none,.store T2 (.tmp 3) (.const (.int .i64 0)),y7,p7,e7,none⟩] false) .ret) (bodyPostDIn (FR none) 0 P z λe l=>∃v i,e = .returned v∧G.le i∧gF w0 i ((((s.set H.n (.cells [Ai])).set (H.n+1) (.cells [Ai])).del H.n).del (H.n+1)) l∧Rl i (.tup [Ai,Ai]) v) (⟨#[.func (.func g) k.toArray j.toArray,undef,b,d,.func (.func cc) #[] #[b,d],.func (.func g) k.toArray j.toArray,v],[⟨.fn (.func cc) #[b,d],#[]⟩]⟩:Act) D:=by
  intro v D m a L;have hz:∀G,Rl G Ai (.int .i64 0):=λG=> .int _ _;obtain⟨_,w4,aq,al,q,R4⟩:=JW (P:=P) (T:=T1) M L ((U.le p).le a) (hz _) (ae _ _ _ h1);have Y:(s.set H.n (.cells [Ai])).cells (H.n+1)=some [c2]:=by
   rw[iZ]at J ⊢;rw[tY,if_neg (by omega)];exact J
  obtain⟨_,X,W,am,u,R5⟩:=JW (P:=P) (T:=T2) M R4 ((V.le a).le q) (hz _) (af _ _ _ Y);refine wpIn_seq (uW Z ?_);refine SL Z (w':=w4) (by simp[execOp,Act.eval,al]) ?_;refine SL Z (w':=X) (by simp[execOp,Act.eval,Act.put,am]) ?_;refine wpIn_ret ?_;show LeavesIn (FR none) 0 P z #[.func (.func g) k.toArray j.toArray,undef,b,d,.func (.func cc) #[] #[b,d],.func (.func g) k.toArray j.toArray,v] _ [⟨.fn (.func cc) #[b,d],#[]⟩] .returning X;refine leavesIn_cons (f:=cc) (args:= #[b,d]) (by simp) (by simp[FR,Fence.wide]) (by simp[invoke,ah _ X]) (λ_ _=>trivial) ?_;refine(N #[b,d] X Z).mono ?_;rintro e u' w6 ⟨x6,rfl,rfl,O⟩;have R6:=R5.ext' O;have F:l_ W 7 [(2,.ptr H.n 0),(3,.ptr (H.n+1) 0)] (⟨#[.func (.func g) k.toArray j.toArray,undef,b,d,.func (.func cc) #[] #[b,d],.func (.func g) k.toArray j.toArray,v],[]⟩:Act):=by
   refine⟨rfl,rfl,λt g B=> ?_⟩
   rw[BP]at B;by_cases J:t=2
   ·rw[if_pos J]at B;cases B;rw[J];exact(((U.le p).le a).le q).le u
   ·rw[if_neg J,BP]at B;by_cases h3:t=3
    ·rw[if_pos h3]at B;cases B;rw[h3];exact((V.le a).le q).le u
    ·rw[if_neg h3]at B;cases B
  have E:Ue tb ⟨z.results.toList,0,[]⟩ ⟨[(2,.ptr H.n 0),(3,.ptr (H.n+1) 0)],(s.set H.n (.cells [Ai])).set (H.n+1) (.cells [Ai])⟩=some ⟨.ret,[Ai,Ai],(s.set H.n (.cells [Ai])).set (H.n+1) (.cells [Ai])⟩:=by
   rw[Q];have q1:uV tb T1 (.ptr H.n 0) ((s.set H.n (.cells [Ai])).set (H.n+1) (.cells [Ai]))=some Ai:=ac _ _ (by rw[iZ,tY,if_neg (by omega),tY,if_pos Z]);have q2:uV tb T2 (.ptr (H.n+1) 0) ((s.set H.n (.cells [Ai])).set (H.n+1) (.cells [Ai]))=some Ai:=ad _ _ (by rw[iZ,tY,if_pos Z]);show ob (ob (uV tb T1 (.ptr H.n 0) _) λv=>ob (ob (uV tb T2 (.ptr (H.n+1) 0) _) λv=>ob (some []) λvs=>some (v::vs)) λvs=>some (v::vs)) _=_;rw[q1,q2];rfl
  obtain⟨_,v6,ao,an⟩:=IE (fn:=z) (P:=P) M Z F R6 E;exact⟨v6,an,v6,W,rfl,eP.le_trans C (eP.le_trans p (eP.le_trans a (eP.le_trans q u))),(R6.del _).del _,ao⟩
 rcases hx with⟨v,D,m,hr,a,L,_⟩|⟨hr,A⟩
 ·refine Lm Z (v:=v) (w':=D) (by simpa [execOp,resolve,Act.eval,Deferred.ofValue,invoke]using hr) ?_;exact go v D m a L
 ·refine Xw Z (f:=g) (args:=(k++j).toArray) (S:=λv l=>∃i,I.le i∧gF w0 i s l) (by simpa [execOp,resolve,Act.eval,Deferred.ofValue,invoke]using hr) (A.mono ?_) λv D ⟨m,a,L⟩=>go v D m a L;rintro e l ⟨v,i,rfl,ai,R',_⟩;exact⟨v,rfl,i,ai,R'⟩
end
noncomputable section
def TP (n c:Nat) (a:Nat):Nat->Option Nat:=Nat.rec (motive:=λ_=>Nat->Option Nat) (λ_=>none) (λ_ b i=>Bool.casesOn (motive:=λ_=>Option Nat) (Nat.beq (Nat.mod (Nat.shiftRight n (Nat.mul 8 i)) 256) c) (b (Nat.succ i)) (some i)) a
def aiX (k:IntKind):Bool:=match k with
 | .u8=>true
 |_=>false
def Zb (b:Nat) (f:Nat) (d:List GV):Option GV:=bif Nat.beq f b then List.casesOn (motive:=λ_=>Option GV) d none (λa r=>List.casesOn (motive:=λ_=>Option GV) r none λc r=>List.casesOn (motive:=λ_=>Option GV) r (ob a.asStr λs=>ob c.asI λp=>ob (asN p.2) λk=>
 bif aiX p.1 then(bif Nat.blt k 256 then Option.casesOn (motive:=λ_=>Option GV) (TP s.1 k s.2 0) (some (.int .i64 (.negSucc 0))) (λi=>some (.int .i64 (.ofNat i)))else none)else none) λ_ _=>none)else none
theorem Vp (x:List UInt8) (c:Nat) (m:c<256):∀k i,i+k=x.length->(match TP (mV x) c k i with|none=>(-1:Int)|some j=>(j:Int))=(if Lib.indexByte (x.drop i) c.toUInt8 = -1 then -1 else Lib.indexByte (x.drop i) c.toUInt8+i)
 |0,i,h=>by
  rw[List.drop_of_length_le (by omega)];simp[TP,Lib.indexByte]
 | k + 1, i, h => by
  have o:=Vp x c m k (i+1) (by omega);have g:i<x.length:=by omega
  have e:TP (mV x) c (k+1) i=Bool.casesOn (motive:=λ_=>Option Nat) (Nat.beq (Nat.mod (Nat.shiftRight (mV x) (Nat.mul 8 i)) 256) c) (TP (mV x) c k (i+1)) (some i):=rfl;rw[e,Vj x i g,List.drop_eq_getElem_cons g];have a:(x[i]).toNat=c↔x[i]=c.toUInt8:=by
   rw[<-UInt8.toNat_inj];have:c.toUInt8.toNat=c:=by simp[Nat.toUInt8];omega
   rw[this]
  unfold Lib.indexByte;cases d:Nat.beq (x[i]).toNat c with
  |true=>
   have:=a.1 (zA2 d);simp[this]
  | false =>
   have f:¬x[i]=c.toUInt8:=λl=>by
    have:=a.2 l;rw[this]at d;simp at d
   have n:=Lib.indexByte_ge (x.drop (i+1)) c.toUInt8;simp only[beq_iff_eq,f,if_false];rw[o];by_cases b:Lib.indexByte (x.drop (i+1)) c.toUInt8 = -1
   ·simp[b]
   ·rw[if_neg b,if_neg b,if_neg (by omega)]
    push_cast;omega
section
variable {P:Program} {gs:AP} {w0:fC gs}
theorem acH {u:Nat} {l:Func} (F:P.funcs[u]? = some l) (e:(l.name == "runtime.NumGoroutine")=false) (D:l.body.isNone=true) (I:Extern.findNext l=none) (E:Extern.find l=some Extern.BytealgIndexByte.indexByte)
  {f:Nat} {i:List GV} {g:GV} (h:Zb u f i=some g) (q:eP) (w:World) (o:List Value) (H:GH) (R:gF w0 q H w) (m:qL q i o):kN P w0 q f o w g H:=by
 unfold Zb at h;replace h:=bU.1 h;have C:=zA2 h.1;replace h:=h.2;subst C;cases i with
 |nil=>cases h
 |cons a i=>
 cases i with
 |nil=>cases h
 |cons c i=>
 cases i with
 |cons _ _=>cases h
 |nil=>
 obtain⟨s,L,h⟩:=aF.1 (show ob a.asStr _=some g from h);obtain⟨p,J,h⟩:=aF.1 h;obtain⟨k,G,h⟩:=aF.1 h;obtain⟨x,h⟩:=bU.1 h;obtain⟨d,h⟩:=bU.1 h;obtain⟨v,o,rfl,y,m⟩:=m.of_cons;obtain⟨N,o,rfl,b,m⟩:=m.of_cons;rw[m.of_nil];rw[rC L]at y;rw[pL J]at b;obtain⟨S,rfl,A,M⟩:=y.str_inv;have b:=b.int_inv;subst b;have t:p.1 = .u8:=by cases K:p.1<;>rw[K]at x<;>first|rfl|cases x
 have r:p.2=(k:Int):=Jf G;have d:k<256:=by simpa using d
 refine .inl ⟨.int .i64 (Lib.indexByte S.data.toList p.2.toNat.toUInt8),w,q,?_,eP.le_refl _,R,?_⟩
 ·rw[run_callFunc_extern F e D I E,t,Lib.run_indexByteString];rfl
 ·have n:=Vp (bQ S) k d s.2 0 (by omega);rw[A]at h;rw[List.drop_zero]at n;have B:Lib.indexByte S.data.toList p.2.toNat.toUInt8=(match TP (mV (bQ S)) k s.2 0 with|none=>(-1:Int)|some j=>(j:Int)):=by
   rw[n,r];have:bQ S=S.data.toList:=rfl;rw[this];simp only[zAc];split
   ·assumption
   ·omega
  rw[B];cases z:TP (mV (bQ S)) k s.2 0 with
  |none=>rw[z]at h;cases h;exact .int _ _
  |some j=>rw[z]at h;cases h;exact .int _ _
end
end
noncomputable section
def afn {a:Type} (c:Nat) (d:List GV->Option a) (n:Nat):List GV->Option (List a):=Nat.rec (motive:=λ_=>List GV->Option (List a)) (λ_=>some []) (λ_ e b=>ob (d (b.take c)) λy=>ob (e (b.drop c)) λf=>some (y::f)) n
def Kv {b:Type} (H:GH) (a:Nat) (d:List GV->Option b) (v:GV):Option (List b):=ob (vC H a v) λp=>bif Nat.ble p.1 1099511627776 then afn a d p.1 p.2 else none
def dI (k:IntKind) (a:List GV):Option Int:=List.casesOn (motive:=λ_=>Option Int) a none λc r=>List.casesOn (motive:=λ_=>Option Int) r (ob c.asI λp=>bif decide (p.1=k)then some p.2 else none) λ_ _=>none
def dP {b c:Type} (n:Nat) (d:List GV->Option b) (e:List GV->Option c) (a:List GV):Option (b×c):=ob (d (a.take n)) λx=>ob (e (a.drop n)) λy=>some (x,y)
def dS {a:Type} (H:GH) (e:Nat) (d:List GV->Option a) (b:List GV):Option (List a):=List.casesOn (motive:=λ_=>Option (List a)) b none λc r=>List.casesOn (motive:=λ_=>Option (List a)) r (Kv H e d c) λ_ _=>none
end
section
variable {P:Program} {gs:AP} {w0:fC gs} {w:World} {ρ:eP} {H:GH} {S:Nat->Prop}
def All (_:Nat):Prop:=True
def cN {b c:Type} (S:Nat->Prop) (ρ:eP) (w:World) (d:List GV->Option c) (r:fT b) (e:b->c):Prop:=∀gs a y,qL ρ gs a->d gs=some y->gs.length=r.sz->∃z,e z=y∧r.R w S a z
theorem cN.int (k:IntKind):cN S ρ w (dI k) (fT.int k) id:=λgs f y b h _=>by
 cases gs with
 |nil=>cases h
 |cons c gs=>
 cases gs with
 |cons _ _=>cases h
 |nil=>
 obtain⟨p,e,h⟩:=aF.1 (show ob c.asI _=some y from h);obtain⟨a,h⟩:=bU.1 h;cases h;obtain⟨v,f,rfl,d,b⟩:=b.of_cons;rw[b.of_nil];rw[pL e]at d;rw[d.int_inv];have a:=of_decide_eq_true a;exact⟨p.2,rfl,by rw[a];rfl⟩
theorem cN.pair {q t b c:Type} {d:List GV->Option b} {e:List GV->Option c} {r:fT q} {s:fT t} {m:q->b} {n:t->c} (u:cN S ρ w d r m) (A:cN S ρ w e s n):cN S ρ w (dP r.sz d e) (fT.pair r s) (λz=>(m z.1,n z.2)):=λgs l y f h p=>by
 obtain⟨x,B,h⟩:=aF.1 (show ob (d (gs.take r.sz)) _=some y from h);obtain⟨F,j,h⟩:=aF.1 h;cases h;have p:gs.length=r.sz+s.sz:=p;have E:=f.len;obtain⟨z,rfl,C⟩:=u _ (l.take r.sz) _ (by simpa using f.sub 0 r.sz) B (by simp;omega);obtain⟨D,rfl,k⟩:=A _ (l.drop r.sz) _ ⟨by simp;omega,λi g v o a=>by rw[zAt]at o a;exact f.at' _ _ _ o a⟩ j (by simp;omega);exact⟨(z,D),rfl,_,_,(List.take_append_drop r.sz l).symm,C,k⟩
theorem Vg {C D:Type} {d:List GV->Option D} {r:fT C} {E:C->D} (F:cN S ρ w d r E) (b:Nat):∀(n:Nat) (f:List GV) (m:List Value) (a:Nat) (l:List D),afn r.sz d n f=some l->qL ρ f m->f.length=n*r.sz->(∀(j:Nat) x,m[j]? = some x->w.cell? ⟨b,a+j,none⟩=some x)->
  ∃p:List C,p.map E=l∧p.length=n∧∀(i:Nat) z,p[i]? = some z->∃q,(∀(j:Nat) e,q[j]? = some e->w.cell? ⟨b,a+(i*r.sz+j),none⟩=some e)∧r.R w S q z
 |0,f,m,a,l,h,hr,hl,hc=>by
  cases h;exact⟨[],rfl,rfl,λi z t=>by simp at t⟩
 | n + 1, f, m, a, l, h, hr, hl, hc => by
  obtain⟨y,M,h⟩:=aF.1 (show ob (d (f.take r.sz)) (λy=>ob (afn r.sz d n (f.drop r.sz)) λl=>some (y::l))=some l from h);obtain⟨B,s,h⟩:=aF.1 h;cases h;rw[Nat.succ_mul]at hl;have O:=hr.len;obtain⟨z,rfl,t⟩:=F _ (m.take r.sz) _ (by simpa using hr.sub 0 r.sz) M (by simp;omega);obtain⟨p,rfl,u,A⟩:=Vg F b n (f.drop r.sz) (m.drop r.sz) (a+r.sz) B s ⟨by simp;omega,λi g v G o=>by rw[zAt]at G o;exact hr.at' _ _ _ G o⟩ (by simp;omega) (λj x J=>by
   rw[zAt]at J;rw[Nat.add_assoc];exact hc _ _ J)
  refine⟨z::p,rfl,by simp[u],λi N c=> ?_⟩
  cases i with
  | zero =>
   simp at c;subst c;refine⟨_,λj e k=> ?_,t⟩
   rw[zAs]at k;by_cases I:j<r.sz
   ·rw[if_pos I]at k;have:=hc j e k;simpa using this
   ·rw[if_neg I]at k;cases k
  |succ i=>
   simp at c;obtain⟨q,K,L⟩:=A i N c;refine⟨q,λj e k=> ?_,L⟩
   have:=K j e k;rw[Nat.succ_mul];rw[show a+(i*r.sz+r.sz+j)=a+r.sz+(i*r.sz+j) by omega];exact this
theorem QZ (R:gF w0 ρ H w) {v:GV} {V:Value} {B:Nat} {p:Nat×List GV} (t:Rl ρ v V) (h:vC H B v=some p):
  p.2.length=p.1*B∧∃a c,V = .slice a p.1 c∧p.1<=c∧(p.1=0∨∃b i o,a=some ⟨b,i,none⟩∧w0.mine b∧qL ρ p.2 o∧∀(j:Nat) x,o[j]? = some x->w.cell? ⟨b,i+j,none⟩=some x):=by
 obtain⟨o,C⟩:=DZ R t h;refine⟨by rw[C.rel.len,C.len],?_⟩
 obtain⟨f,c,y,D,F⟩:=C.val;refine⟨f,c,y,D,?_⟩
 rcases F with⟨_,m,_⟩|⟨A,rfl,d⟩
 ·exact .inl m
 ·by_cases m:p.1=0
  ·exact .inl m
  ·refine .inr ?_;unfold vC at h;cases z:v.isSnil with
   |true=>rw[z]at h;cases h;exact absurd Z m
   | false =>
    rw[z]at h;obtain⟨s,I,h⟩:=aF.1 (show ob v.asS _=some p from h);rw[CY I,y]at t;obtain⟨l,u,K,G,e,E,n⟩:=t.sl_inv;injection e with k M N;injection k with k;rcases n with n|⟨n,_⟩
    ·omega
    ·rw[n]at k;subst k;have r:w0.mine l.b:=by
      obtain⟨_,h⟩:=bU.1 h;obtain⟨L,q,_⟩:=aF.1 h;obtain⟨O,g,r,_⟩:=R.live _ _ (iZ.1 q);rw[G]at g;cases g;exact r
     exact⟨l.b,l.off+s.2.1,o,rfl,r,C.rel,λj x J=>by have:=d j x J;rwa[fR]at this⟩
theorem AD {m n:Type} {d:List GV->Option n} {r:fT m} {o:m->n} (R:gF w0 ρ H w) (t:∀k,w0.mine k->S k) (u:cN S ρ w d r o) {v:GV} {V:Value} {j:List n} (B:Rl ρ v V) (h:Kv H r.sz d v=some j):∃l:List m,l.map o=j∧OJ r w S V l:=by
 obtain⟨p,z,h⟩:=aF.1 (show ob (vC H r.sz v) _=some j from h);obtain⟨g,h⟩:=bU.1 h;have g:p.1<=1099511627776:=by simpa using g
 obtain⟨i,a,f,rfl,E,x⟩:=QZ R B z;rcases x with q|⟨b,e,D,rfl,y,A,c⟩
 ·rw[q]at h;cases h;exact⟨[],rfl,a,f,by rw[q];rfl,by simp,.inl Z⟩
 ·obtain⟨l,rfl,s,C⟩:=Vg u b p.1 p.2 D e j h A i c;exact⟨l,rfl,some ⟨b,e,none⟩,f,by rw[s],by rw[s];omega,.inr ⟨b,e,rfl,t b y,C⟩⟩
theorem cN.sl {e f:Type} {d:List GV->Option f} {r:fT e} {b:e->f} (R:gF w0 ρ H w) (g:∀k,w0.mine k->S k) (i:cN S ρ w d r b):cN S ρ w (dS H r.sz d) (fT.sl r) (λz=>z.2.map b):=λgs vs y a h n=>by
 cases gs with
 |nil=>cases h
 |cons c gs=>
 cases gs with
 |cons _ _=>cases h
 |nil=>
 have h:Kv H r.sz d c=some y:=h;obtain⟨v,vs,rfl,j,a⟩:=a.of_cons;rw[a.of_nil];obtain⟨m,rfl,l⟩:=AD R g i j h;exact⟨(v,m),rfl,rfl,l⟩
end
noncomputable section
def xM {c:Type} (e:Nat) (g:c->List GV) (a:List (List c)):GH->List GV×GH:=List.rec (motive:=λ_=>GH->List GV×GH) (λH=>([],H)) (λb _ d H=>let r:=d (H.new (.cells (b.flatMap g)));(.sl H.n 0 b.length e::r.1,r.2)) a
end
section
variable {P:Program} {gs:AP} {w0:fC gs} {w:World} {ρ:eP} {H:GH}
def GL (ρ:eP) (H:GH) (B:Nat->Prop):Prop:=∀h o l,H.get h=some o->ρ h=some l->¬B l.b
theorem GL.mono {B b:Nat->Prop} (h:GL ρ H B) (f:∀k,b k->B k):GL ρ H b:=λa o l c d e=>h a o l c d (f _ e)
theorem GL.start (R:gF w0 ρ H w):GL ρ H (λk=>w.heap.size<=k):=λh o l b c e=>by
 obtain⟨f,a,_,d⟩:=R.live h o b;rw[c]at a;cases a;have:=d.lt;omega
theorem Jv {N:Type} {e:fQ N} {d:List N} {cs:List GV} {v:Value} {B F:Nat->Prop} (R:gF w0 ρ H w) (A:GL ρ H B) (U:∀k,B k->w0.mine k) (s:∀k,F k->B k) (V:FU e w F v d) (E:d≠[]) (t:qL ρ cs (cellsOf e d)):
  ∃f,ρ.le f∧gF w0 f (H.new (.cells cs)) w∧Rl f (.sl H.n 0 d.length e.sz) v∧GL f (H.new (.cells cs)) (λk=>B k∧¬F k):=by
 obtain⟨_,y,W⟩:=V;rcases W with⟨_,S⟩|⟨b,p,r,T,c,rfl,C,I,D,G,a⟩
 ·exact absurd S E
 have M:(cellsOf e d).length=d.length*e.sz:=by
  rw[<-a];simp;have:d.length*e.sz<=r*e.sz:=zB5 _ D;omega
 have u:ρ.le (ρ.upd H.n ⟨b,p,c.size,.cells c T (0,0),.cells cs⟩):=Aq (R.fresh _ (zAe _));have J:d.length*e.sz<=r*e.sz:=zB5 _ D;obtain⟨_,O⟩:=R.new (o:= .cells cs) (l:=⟨b,p,c.size,.cells c T (0,0),.cells cs⟩) R.ext (λh o' Y j m=>⟨rfl,λQ=>A h o' Y j m (by rw[Q];exact s _ C)⟩) (U _ (s _ C)) ⟨c,T,I,rfl,by
   show p+cs.length<=c.size;have:=t.len;omega,λi g j=>by
   obtain⟨x,q,X⟩:=t.get j;refine⟨x,?_,X.le u,zA5.1 y x (zAv q)⟩
   rw[<-a,zAs]at q;by_cases K:i<d.length*e.sz
   ·rw[if_pos K,zAt,zAg]at q;exact q
   ·rw[if_neg K]at q;cases q⟩ I
 refine⟨_,u,O,.sl (by simp[eP.upd];rfl) D (.inr ⟨rfl,G⟩),λh o l j m L=> ?_⟩
 rw[sC]at j;by_cases z:h=H.n
 ·rw[z]at m;simp[eP.upd]at m;subst m;exact L.2 C
 ·rw[if_neg z]at j;simp only[eP.upd,if_neg z]at m;exact A h o l j m L.1
theorem Po {b:Type} {e:fQ b} {g:b->List GV} (c:∀x,qL ρ (g x) (e.enc x)):∀a:List b,qL ρ (a.flatMap g) (cellsOf e a)
 | []=> .nil
 |x::a=>(c x).append (Po c a)
theorem Ml {o:Type} {e:fQ o} {g:o->List GV} (r:∀ρ x,qL ρ (g x) (e.enc x)):∀(a:List (List o)) (vs:List Value) (G:Nat->Nat->Prop) (B:Nat->Prop) (ρ:eP) (H:GH),gF w0 ρ H w->GL ρ H B->(∀k,B k->w0.mine k)->vs.length=a.length->
  (∀xs∈a,xs≠[])->(∀i v xs,vs[i]? = some v->a[i]? = some xs->FU e w (G i) v xs)->(∀i k,G i k->B k)->(∀i j k,G i k->G j k->i=j)->
  ∃c,ρ.le c∧gF w0 c (xM e.sz g a H).2 w∧qL c (xM e.sz g a H).1 vs∧GL c (xM e.sz g a H).2 (λk=>B k∧∀i,¬G i k)
 | [],vs,G,B,ρ,H,R,A,hB,hl,_,h1,h2,h3=>by
  have:vs=[]:=zAq hl;subst this;exact⟨ρ,eP.le_refl _,R,.nil,A.mono λk b=>b.1⟩
 |xs::a,[],G,B,ρ,H,R,A,hB,hl,_,h1,h2,h3=>by simp at hl
 |xs::a,v::vs,G,B,ρ,H,R,A,hB,hl,hne,h1,h2,h3=>by
  obtain⟨p,f,u,F,s⟩:=Jv R A hB (h2 0) (h1 0 v xs Z Z) (hne xs (by simp)) (Po (r ρ) xs);obtain⟨q,d,z,l,t⟩:=Ml r a vs (λi=>G (i+1)) _ p _ u s (λk b=>hB k b.1) (by simpa using hl) (λy I=>hne y (by simp[I])) (λi J n h m=>h1 (i+1) J n (by simpa using h) (by simpa using m)) (λi k b=>⟨h2 _ k b,λC=>by have:=h3 _ _ k b C;omega⟩) (λi j k D E=>by have:=h3 _ _ k D E;omega);refine⟨q,eP.le_trans f d,z,.cons (F.le d) l,t.mono λk b=>⟨⟨b.1,b.2 0⟩,λi=>b.2 (i+1)⟩⟩
theorem Oi:∀vs:List Value,cellsOf fQ.raw vs=vs
 | []=>rfl
 |v::vs=>by show v::cellsOf fQ.raw vs=_;rw[Oi vs]
end
section
variable {P:Program} {gs:AP} {w0:fC gs} {w:World} {ρ:eP} {H:GH}
theorem Hu {f:Nat} {a:List Value} {L:List bF} {V:Value} {g:GV} (c:aS P f) (d:aY P f a.toArray L (λ_:Unit=>V) (λ_ l=>l) (λ_ l=>l)) (R:gF w0 ρ H w) (b:∀h∈L,h.p w All) (i:∀ρ,Rl ρ g V):kN P w0 ρ f a w g H:=by
 refine .inr ⟨c _ w,(d w All b).mono ?_⟩;rintro e j ⟨_,rfl,t⟩;exact⟨V,ρ,rfl,eP.le_refl _,R.ext' t.old.ext,i _⟩
theorem TO {V W:Type} {e:fQ V} {g:V->List GV} {q:fQ W} {s:W->List GV} (hg:∀ρ x,qL ρ (g x) (e.enc x)) (I:∀ρ x,qL ρ (s x) (q.enc x)) {f:Nat} {S:List Value} {L:List bF} {r:List V×List (List W)} (C:r.1≠[]) (D:r.2≠[]) (h3:∀U∈r.2,U≠[]) (hb:aS P f)
  (hm:aY P f S.toArray L (λx:Value×Value×List Value=>Value.agg #[x.1,x.2.1]) (λx l=>Ar e x.1 r.1::Ar fQ.raw x.2.1 x.2.2::nH q x.2.2 r.2::l) (λ_ l=>l)) (R:gF w0 ρ H w) (hL:∀h∈L,h.p w All):
  kN P w0 ρ f S w (.agg [.sl H.n 0 r.1.length e.sz,.sl (xM q.sz s r.2 (H.new (.cells (r.1.flatMap g)))).2.n 0 r.2.length 1]) ((xM q.sz s r.2 (H.new (.cells (r.1.flatMap g)))).2.new (.cells (xM q.sz s r.2 (H.new (.cells (r.1.flatMap g)))).1)):=by
 refine .inr ⟨hb _ w,(hm w All hL).mono ?_⟩;rintro en A ⟨x,rfl,t⟩;obtain⟨F,O,_⟩:=t.own;have q0:FU _ A (F 0) x.1 r.1:=O.res 0 _ Z;have q1:FU fQ.raw A (F 1) x.2.1 x.2.2:=O.res 1 _ Z;obtain⟨z,G,q2,Q,q4⟩:(nH q x.2.2 r.2).p A (F 2):=O.res 2 _ Z;have R':=R.ext' t.old.ext;have E:∀i k,F i k->w.heap.size<=k:=λi k c=>by
  rcases(O.rng i k c).1 with h|h
  ·exact h
  exact h.elim
 obtain⟨X,y,R1,K,A1⟩:=Jv (B:=λk=>w.heap.size<=k) R' (λa o l C D=>GL.start R a o l C D) (λk c=> .inl (zB4 R.ext.size c)) (E 0) q0 C (Po (hg ρ) r.1);obtain⟨ad,j,R2,M,A2⟩:=Ml I r.2 x.2.2 G _ X _ R1 A1 (λk c=> .inl (zB4 R.ext.size c.1)) z h3 q2 (λi k c=>⟨E _ _ (Q i k c),λu=>by have:=O.dis _ _ k (Q i k c) u;omega⟩) q4;have J:x.2.2≠[]:=λu=>by rw[u]at z;exact D (zAq z.symm)
 obtain⟨Y,m,R3,N,_⟩:=Jv (cs:=(xM q.sz s r.2 (H.new (.cells (r.1.flatMap g)))).1) (F:=F 1) R2 A2 (λk c=> .inl (zB4 R.ext.size c.1.1)) (λk c=>⟨⟨E _ _ c,λu=>by have:=O.dis _ _ k c u;omega⟩,λi hi=>by have:=O.dis _ _ k c (Q i k hi);omega⟩) q1 J (by rw[Oi];exact M);refine⟨_,Y,rfl,eP.le_trans y (eP.le_trans j m),R3,?_⟩
 refine HX (vs:=[x.1,x.2.1]) (.cons ((K.le j).le m) (.cons (by rw[<-z];exact N) .nil)) λv hv=>?_;have d:∀{γ:Type} {e:fQ γ} {F:Nat->Prop} {v:Value} {U:List γ},FU e A F v U->one v=true:=λh=>by
  obtain⟨_,_,h⟩:=h;rcases h with⟨rfl,_⟩|⟨b,ac,aa,T,ab,rfl,_⟩<;>rfl
 simp at hv;rcases hv with rfl|rfl
 ·exact d q0
 exact d q1
end
noncomputable section
def NR (H:GH) (v:GV):Option (List Int):=Kv H 1 (dI .i64) v
def YH (H:GH) (v:GV):Option (List (List (Int×Int))):=Kv H 1 (dS H 2 (dP 1 (dI .i64) (dI .i64))) v
def YG (H:GH) (v:GV):Option (List Int×List (List (Int×Int))):=ob v.asA λc=>List.casesOn (motive:=λ_=>Option (List Int×List (List (Int×Int)))) c none λa r=>List.casesOn (motive:=λ_=>Option (List Int×List (List (Int×Int)))) r none λb r=>List.casesOn (motive:=λ_=>Option (List Int×List (List (Int×Int)))) r (ob (NR H a) λx=>ob (YH H b) λy=>some (x,y)) λ_ _=>none
end
section
variable {P:Program} {gs:AP} {w0:fC gs} {w:World} {ρ:eP} {H:GH}
theorem Ih (R:gF w0 ρ H w) {v:GV} {V:Value} {a:List Int} (b:Rl ρ v V) (h:NR H v=some a):(Sl (fT.int .i64) V a).p w All:=by
 obtain⟨d,rfl,c⟩:=AD R (λ_ _=>trivial) (cN.int .i64) b h;rw[List.map_id];exact c
theorem WH (R:gF w0 ρ H w) {v:GV} {V:Value} {b:List (List (Int×Int))} (c:Rl ρ v V) (h:YH H v=some b):∃a,(S2 (fT.pair (fT.int .i64) (fT.int .i64)) V a b).p w All:=by
 obtain⟨a,rfl,d⟩:=AD R (λ_ _=>trivial) (cN.sl R (λ_ _=>trivial) (cN.pair (cN.int .i64) (cN.int .i64))) c h;exact⟨a,d,by simp⟩
theorem WG (R:gF w0 ρ H w) {v:GV} {V:Value} {p:List Int×List (List (Int×Int))} (j:Rl ρ v V) (h:YG H v=some p):∃e f i,V = .agg #[e,f]∧(Sl (fT.int .i64) e p.1).p w All∧(S2 (fT.pair (fT.int .i64) (fT.int .i64)) f i p.2).p w All:=by
 obtain⟨c,g,h⟩:=aF.1 (show ob v.asA _=some p from h);rw[LD g]at j;obtain⟨k,rfl,d,_⟩:=j.agg_inv;cases c with
 |nil=>cases h
 |cons a c=>
 cases c with
 |nil=>cases h
 |cons b c=>
 cases c with
 |cons _ _=>cases h
 |nil=>
 obtain⟨x,n,h⟩:=aF.1 (show ob (NR H a) _=some p from h);obtain⟨y,o,h⟩:=aF.1 h;cases h;obtain⟨e,k,rfl,l,d⟩:=d.of_cons;obtain⟨f,k,rfl,m,d⟩:=d.of_cons;rw[d.of_nil];obtain⟨i,q⟩:=WH R m o;exact⟨e,f,i,rfl,Ih R l n,q⟩
end
noncomputable section
section
variable {α R:Type}
def a0 (a:List α) (k:Option R):Option R:=List.casesOn (motive:=λ_=>Option R) a k (λ_ _=>none)
def a1 (b:List α) (k:α->Option R):Option R:=List.casesOn (motive:=λ_=>Option R) b none λa r=>a0 r (k a)
def a2 (b:List α) (k:α->α->Option R):Option R:=List.casesOn (motive:=λ_=>Option R) b none λa r=>a1 r (k a)
def a3 (b:List α) (k:α->α->α->Option R):Option R:=List.casesOn (motive:=λ_=>Option R) b none λa r=>a2 r (k a)
def a4 (b:List α) (k:α->α->α->α->Option R):Option R:=List.casesOn (motive:=λ_=>Option R) b none λa r=>a3 r (k a)
def a5 (us:List α) (k:α->α->α->α->α->Option R):Option R:=List.casesOn (motive:=λ_=>Option R) us none λa r=>a4 r (k a)
def a6 (b:List α) (k:α->α->α->α->α->α->Option R):Option R:=List.casesOn (motive:=λ_=>Option R) b none λa r=>a5 r (k a)
theorem abg {a:List α} {k:Option R} {r:R} (h:a0 a k=some r):a=[]∧k=some r:=by
 cases a with
 |nil=>exact⟨rfl,h⟩
 |cons _ _=>cases h
theorem UD {a:List α} {k:α->Option R} {r:R} (h:a1 a k=some r):∃x,a=[x]∧k x=some r:=by
 cases a with
 |nil=>cases h
 |cons x a=>obtain⟨rfl,h⟩:=abg h;exact⟨x,rfl,h⟩
theorem UE {a:List α} {k:α->α->Option R} {r:R} (h:a2 a k=some r):∃x y,a=[x,y]∧k x y=some r:=by
 cases a with
 |nil=>cases h
 |cons x a=>obtain⟨y,rfl,h⟩:=UD h;exact⟨x,y,rfl,h⟩
theorem abh {a:List α} {k:α->α->α->Option R} {r:R} (h:a3 a k=some r):∃x y z,a=[x,y,z]∧k x y z=some r:=by
 cases a with
 |nil=>cases h
 |cons x a=>obtain⟨y,z,rfl,h⟩:=UE h;exact⟨x,y,z,rfl,h⟩
theorem OM {a:List α} {k:α->α->α->α->Option R} {r:R} (h:a4 a k=some r):∃x y z u,a=[x,y,z,u]∧k x y z u=some r:=by
 cases a with
 |nil=>cases h
 |cons x a=>obtain⟨y,z,u,rfl,h⟩:=abh h;exact⟨x,y,z,u,rfl,h⟩
theorem abi {a:List α} {k:α->α->α->α->α->Option R} {r:R} (h:a5 a k=some r):∃x y z u v,a=[x,y,z,u,v]∧k x y z u v=some r:=by
 cases a with
 |nil=>cases h
 |cons x a=>obtain⟨y,z,u,v,rfl,h⟩:=OM h;exact⟨x,y,z,u,v,rfl,h⟩
theorem abj {a:List α} {k:α->α->α->α->α->α->Option R} {r:R} (h:a6 a k=some r):∃x y z u v w,a=[x,y,z,u,v,w]∧k x y z u v w=some r:=by
 cases a with
 |nil=>cases h
 |cons x a=>obtain⟨y,z,u,v,w,rfl,h⟩:=abi h;exact⟨x,y,z,u,v,w,rfl,h⟩
end
def dSc (k:IntKind) (v:GV):Option Int:=ob v.asI λp=>bif eqK p.1 k then some p.2 else none
def YI (H:GH) (v:GV):Option (List Int):=Kv H 1 (dI .u32) v
def agX (H:GH) (v:GV):Option (Int×List Int×List Int×List Int×Bool×Bool):=ob v.asA λg=>a6 g λa b c d e f=>ob (dSc .i64 a) λn=>ob (NR H b) λx=>ob (NR H c) λy=>ob (NR H d) λz=>ob e.asB λp=>ob f.asB λq=>some (n,x,y,z,p,q)
def gI (n:Int):List GV:=[.int .i64 n]
def gP (p:Int×Int):List GV:=[.int .i64 p.1,.int .i64 p.2]
def fcI {R:Type} (l:List Int):(List Int->R)->R:=List.rec (motive:=λ_=>(List Int->R)->R) (λk=>k []) (λx _ a k=>fi x λx=>a λr=>k (x::r)) l
def fcP {R:Type} (l:List (Int×Int)):(List (Int×Int)->R)->R:=List.rec (motive:=λ_=>(List (Int×Int)->R)->R) (λk=>k []) (λx _ c k=>fi x.1 λa=>fi x.2 λb=>c λr=>k ((a,b)::r)) l
def fcR {R:Type} (l:List (List (Int×Int))):(List (List (Int×Int))->R)->R:=List.rec (motive:=λ_=>(List (List (Int×Int))->R)->R) (λk=>k []) (λx _ a k=>fcP x λx=>a λr=>k (x::r)) l
theorem YT {R:Type}:∀(l:List Int) (k:List Int->R),fcI l k=k l
 | [],k=>rfl
 |x::l,k=>by
  show fi x (λx=>fcI l λr=>k (x::r))=_;rw[NX,YT l]
theorem YU {R:Type}:∀(l:List (Int×Int)) (k:List (Int×Int)->R),fcP l k=k l
 | [],k=>rfl
 |x::l,k=>by
  show fi x.1 (λa=>fi x.2 λb=>fcP l λr=>k ((a,b)::r))=_;rw[NX,NX,YU l]
theorem YV {R:Type}:∀(l:List (List (Int×Int))) (k:List (List (Int×Int))->R),fcR l k=k l
 | [],k=>rfl
 |x::l,k=>by
  show fcP x (λx=>fcR l λr=>k (x::r))=_;rw[YU,YV l]
def ZL (b:Bool) (H:GH):OR:=Bool.casesOn (motive:=λ_=>OR) b (some (.bool false,H)) (some (.bool true,H))
def TZ (r:List Int×List (List (Int×Int))) (H:GH):OR:=fcI r.1 λx=>fcR r.2 λy=>bif Nat.beq x.length 0 then none else bif Nat.beq y.length 0 then none else bif y.any λl=>Nat.beq l.length 0 then none else
 fc (x.flatMap gI) λl=>H.newK (.cells l) λh a=>fc (xM 2 gP y a).1 λd=>sn x.length λn=>sn y.length λm=>(xM 2 gP y a).2.newK (.cells d) λc b=>some (.agg [.sl h 0 n 1,.sl c 0 m 1],b)
end
section
variable {P:Program} {gs:AP} {w0:fC gs} {w:World} {ρ:eP} {H H':GH} {g:GV}
theorem qL.one {x:GV} {vs:List Value} (h:qL ρ [x] vs):∃V,vs=[V]∧Rl ρ x V:=by
 obtain⟨v,vs,rfl,a,b⟩:=h.of_cons;rw[b.of_nil];exact⟨v,rfl,a⟩
theorem Fq {k:IntKind} {v:GV} {V:Value} {n:Int} (a:Rl ρ v V) (h:dSc k v=some n):V = .int k n:=by
 obtain⟨p,c,h⟩:=aF.1 (show ob v.asI _=some n from h);obtain⟨b,h⟩:=bU.1 h;cases h;rw[pL c]at a;rw[a.int_inv,Jm b]
theorem Ym {v:GV} {V:Value} {b:Bool} (a:Rl ρ v V) (h:v.asB=some b):V = .bool b:=by
 rw[CX h]at a;exact a.bool_inv
theorem Ra (R:gF w0 ρ H w) {v:GV} {V:Value} {a:List Int} (b:Rl ρ v V) (h:YI H v=some a):(Sl (fT.int .u32) V a).p w All:=by
 obtain⟨d,rfl,c⟩:=AD R (λ_ _=>trivial) (cN.int .u32) b h;rw[List.map_id];exact c
theorem acw (R:gF w0 ρ H w) {v:GV} {V:Value} {p:Int×List Int×List Int×List Int×Bool×Bool} (l:Rl ρ v V) (h:agX H v=some p):
  ∃m o s,V = .agg #[.int .i64 p.1,m,o,s,.bool p.2.2.2.2.1,.bool p.2.2.2.2.2]∧(Sl (fT.int .i64) m p.2.1).p w All∧(Sl (fT.int .i64) o p.2.2.1).p w All∧(Sl (fT.int .i64) s p.2.2.2.1).p w All:=by
 obtain⟨T,k,h⟩:=aF.1 (show ob v.asA _=some p from h);obtain⟨a,b,c,d,e,f,rfl,h⟩:=abj h;obtain⟨n,I,h⟩:=aF.1 h;obtain⟨x,L,h⟩:=aF.1 h;obtain⟨y,M,h⟩:=aF.1 h;obtain⟨z,N,h⟩:=aF.1 h;obtain⟨q,J,h⟩:=aF.1 h;obtain⟨r,K,h⟩:=aF.1 h;cases h;rw[LD k]at l;obtain⟨j,rfl,i,_⟩:=l.agg_inv;obtain⟨U,j,rfl,B,i⟩:=i.of_cons;obtain⟨O,j,rfl,C,i⟩:=i.of_cons;obtain⟨Q,j,rfl,D,i⟩:=i.of_cons;obtain⟨S,j,rfl,E,i⟩:=i.of_cons;obtain⟨W,j,rfl,F,i⟩:=i.of_cons;obtain⟨X,rfl,G⟩:=i.one;have t:=Fq B I;have u:=Ym F J;have A:=Ym G K;subst t u A;exact⟨O,Q,S,rfl,Ih R C L,Ih R D M,Ih R E N⟩
theorem Mz {b:Bool} (h:ZL b H=some (g,H')):g = .bool b∧H'=H:=by
 cases b<;>cases h<;>exact⟨rfl,rfl⟩
theorem RB {r:List Int×List (List (Int×Int))} (h:TZ r H=some (g,H')):r.1≠[]∧r.2≠[]∧(∀a∈r.2,a≠[])∧
  g = .agg [.sl H.n 0 r.1.length 1,.sl (xM 2 gP r.2 (H.new (.cells (r.1.flatMap gI)))).2.n 0 r.2.length 1]∧H'=(xM 2 gP r.2 (H.new (.cells (r.1.flatMap gI)))).2.new (.cells (xM 2 gP r.2 (H.new (.cells (r.1.flatMap gI)))).1):=by
 unfold TZ at h;rw[YT,YV]at h;obtain⟨b,h⟩:=lR.1 h;obtain⟨c,h⟩:=lR.1 h;obtain⟨d,h⟩:=lR.1 h;rw[Vl,jU,Vl,yS,yS,jU]at h;cases h;refine⟨λe=>(by rw[e]at b;cases b),λe=>(by rw[e]at c;cases c),λa f e=>?_,rfl,rfl⟩
 have:=List.any_eq_false.1 d a f;rw[e]at this;exact this Z
theorem ahb (ρ:eP) (x:Int):qL ρ (gI x) [.int .i64 x]:= .cons (.int _ _) .nil
theorem ahc (ρ:eP) (x:Int×Int):qL ρ (gP x) [.int .i64 x.1,.int .i64 x.2]:= .cons (.int _ _) (.cons (.int _ _) .nil)
def glb (b:Nat) (a:List Value) (T:Nat):AP:=⟨[(b,.cells a.toArray T (0,0))],[]⟩
theorem Pu {b:Nat} {a:List Value} (w:World) (S:Nat->Prop) (h:∀h∈[Gb b a],h.p w S):∃T,JZ (glb b a T) w λ_=>False:=by
 obtain⟨_,T,c⟩:=h _ (List.mem_singleton.2 Z);exact⟨T,λp d=>by obtain rfl:=List.mem_singleton.1 d;exact⟨c,id⟩⟩
theorem gF.glb {b:Nat} {a:List Value} {T:Nat} {c:fC (glb b a T)} {w:World} {ρ:eP} {H:GH} (R:gF c ρ H w):(Gb b a).p w All:=⟨trivial,T,(R.glo _ (List.mem_singleton.2 Z)).1⟩
theorem PI {gs:Nat->AP} {f:Nat} {V:Value} {L:List bF} (q:∀w S,(∀h∈L,h.p w S)->∃T,JZ (gs T) w λ_=>False) (r:aS P f) (y:∀ρ d,Rl ρ g d->d=V) (h:∀T (b:fC (gs T)),kN P b (λ_=>none) f [] b.w g H'):aY P f #[] L (λ_:Unit=>V) (λ_ l=>l) (λ_ l=>l):=by
 intro w0 o z;obtain⟨T,n⟩:=q w0 o z;rcases h T (.of w0 n)with⟨v,A,c,a,_⟩|⟨_,s⟩
 ·have x:=r #[] w0;rw[show([]:List Value).toArray = #[]from rfl]at a;rw[show(fC.of w0 n).w=w0 from rfl,x]at a;cases a
 refine s.mono ?_;rintro e A ⟨v,c,rfl,_,R,a⟩;exact⟨(),by rw[y _ _ a],R.ext,λ_ _=>False,⟨λi m u=>by simp at u,λi k h=>h.elim,λi j k h=>h.elim⟩,λf t=>by simp at t⟩
section
variable {tb:TB} {T:TypeId}
theorem UF (h:Dg tb T=some [Ai]) (H:GH):yJ tb T H=some (.ptr H.n 0,H.new (.cells [Ai])):=by
 unfold yJ;rw[h];show H.newK (.cells [Ai]) (λh H'=>some (GV.ptr h 0,H'))=_;rw[jU]
theorem VQ {t:Ty} (h:tb T=some t) (e:t.size=1) (H:GH) (k:Nat) (c:GV) (d:GH.cells H k=some [c]):tO tb T (.ptr k 0) Ai H=some (.un,H.set k (.cells [Ai])):=by
 show ob (H.cells k) (λb=>ob (tb T) λt=>bif Nat.beq 1 t.size then bif Nat.beq t.size 0 then none else ob (Il [Ai] 0 b) λa=>H.setK k (.cells a) λH'=>some (GV.un,H')else none)=_;rw[d,h];show(bif Nat.beq 1 t.size then bif Nat.beq t.size 0 then none else ob (Il [Ai] 0 [c]) λa=>H.setK k (.cells a) λH'=>some (GV.un,H')else none)=_;rw[e];show H.setK k (.cells [Ai]) (λH'=>some (GV.un,H'))=_;rw[Ao]
theorem Zs {t:Ty} (h:tb T=some t) (b:zB t.desc=false) (H:GH) (k:Nat) (c:GH.cells H k=some [Ai]):uV tb T (.ptr k 0) H=some Ai:=by
 show ob (H.cells k) (λa=>ob (tb T) λt=>CO t a 0)=_;rw[c,h];show CO t [Ai] 0=_;unfold CO;rw[b];rfl
end
def O_ (a:Func):List Oper:=match a.body with
 |some (.seq (.region _ ops _) _)=>ops.toList
 |_=>[]
def Yw (a:Func):Code:=match a.body with
 |some (.seq _ c)=>c
 |_=> .skip
def acu (a:Func):Nat:=match O_ a with
 |o::_=>o.dst.getD 0
 | []=>0
def okN (r:RS):Bool:=match r with
 |some o=>match o.e with
  | .normal=>true
  |_=>false
 |none=>false
theorem ZM {r:RS} (h:okN r=true):∃a,r=some a∧a.e = .normal:=by
 unfold okN at h;cases r with
 |none=>cases h
 |some o=>
  refine⟨o,rfl,?_⟩
  cases b:o.e<;>simp only[b]at h<;>first|rfl|cases h
def okT (r:OR):Bool:=match r with
 |some (.bool true,_)=>true
 |_=>false
theorem ZN {r:OR} (h:okT r=true):∃H',r=some (.bool true,H'):=by
 unfold okT at h;split at h
 ·exact⟨_,rfl⟩
 ·cases h
end
end Go.Gx
namespace Go.Proofs.YtcnnfkapmjhnaaaGreatDoor
open Go.Sx
def pI  (a:Unit):Option Bool:=
 some (true)
def jE (d:aO) (a:Int×List (Bool)) (c:(Int×List (Bool))->Option Bool) (b:Bool):Option Bool:=
 if b=true then(some (false))else(ck ((0<=(at' d a.1)∧(at' d a.1)<((256:Nat):Int))∧a.2.length=256) (c ((wI .i64 (a.1+(1:Int))),(List.set a.2 (Int.toNat (at' d a.1)) true))))
def gY (b:aO) (a:Int×List (Bool)) (c:(Int×List (Bool))->Option Bool):Option Bool:=
 if a.1<(b.length:Int)then(ck (0<=a.1∧a.1<(b.length:Int)) (if(at' b a.1)<(0:Int)then(jE b a c (true))else(if(255:Int)<(at' b a.1)then(jE b a c (true))else(ck ((0<=(at' b a.1)∧(at' b a.1)<((256:Nat):Int))∧a.2.length=256) (jE b a c ((at' a.2 (at' b a.1))))))))else(pI  (()))
def kI (U:Nat) (a:aO):Option Bool:=
 bH (gY a) U ((0:Int),(List.replicate 256 false))
theorem abI:aS Tryz.prog 176:=Tryz.call176
theorem FI (U:Nat) {d:aO} (n:Value) (r:Bool) (h:kI U d=some r):
  aY Tryz.prog 176 #[n] [Sl bP n d] (λx:Unit=>vB (r)) (λx l=>l) (λ_ l=>l):=by
 refine aY.of Tryz.func176 Z Tryz.ntmps176 Z λc=>?_;unfold kI at h;refine aP<|aC Z<|aJ<|aP ?_;refine aG (aI.alloc (cs:=cellsOf EBo (List.replicate 256 false)) Z (by kernel_rfl)) Z λm=>?_;refine aJ<|aK<|eJ (λk=>pI  k=some r) (λk o=>[]) (λk o=>[]) ?_ ?_
 ·refine aP<|aA Z<|gS (aE.fact 0 Z) Z<|aA Z<|aJ<|aR<|eO (gY d) (λa p=>[(3,vP m),(6,n),(7,vI (d.length:Int)),(8,vI (a.1))]) (λa p=>[bM m (cellsOf EBo a.2) 188]) ((0:Int),(List.replicate 256 false)) () h SF (a_.refl _) ?_;intro q a p h;refine aP<|cO Z<|aJ<|aK ?_;refine dK h Z (λh=>?_) λh=>?_
  ·refine cG<|aK<|aR<|aP<|dQ h λg h=>aD (aZ Z Z (aE.fact 0 Z) Z Z g) Z<|aD (bV Z (aE.fact 0 Z) Z Z Z cT g) Z<|aC Z<|aJ<|aK<|aK<|eJ (λb=>jE d a (bH (gY d) q) b=some r) (λb f=>[(3,vP m),(5,vI (at' d a.1)),(6,n),(7,vI (d.length:Int)),(8,vI (a.1)),(22,vB (b))]) (λb f=>[bM m (cellsOf EBo a.2) 188]) ?_ ?_
   ·refine aQ<|aA Z<|cO Z<|aA Z ?_;refine Eb h Z (λ_ h=>?_) λ_ h=>?_
    ·refine aL Z<|aL Z<|eK Z<|aA Z<|aL Z<|aL Z<|aL Z<|eK Z<|aJ ?_;exact iH (true) () h SF Z
    refine eG Z<|aW Z (Bp Z Z) Z<|fY Z<|aA Z ?_;refine Eb h Z (λ_ h=>?_) λ_ h=>?_
    ·refine aL Z<|aL Z<|aL Z<|eK Z<|aJ ?_;exact iH (true) () h SF Z
    refine eG Z<|dQ h λj h=>aW Z (lP Z Z Z Z Z j.1) Z<|aW Z (Wp (e:=EBo) Z (aE.res 0 Z) Z Z Z Z j) Z<|fY Z<|aJ ?_;exact iH ((at' a.2 (at' d a.1))) () h SF Z
   intro b f h;refine yW h Z (λ_ h=>?_) λ_ h=>?_
   ·refine aP<|aC Z<|aJ<|aU<|aH<|bN<|aH<|aH<|bN<|aH ?_;cases h;exact sB Z
   refine cG<|aQ<|aA Z<|dQ h λi h=>aD (lP Z Z Z Z Z i.1) Z<|Ls 0 (e:=EBo) true i Z Z Z Z Z Z Z<|eV<|lU<|aQ<|cH Z<|aA Z<|aJ ?_;exact AS ((wI .i64 (a.1+(1:Int))),(List.set a.2 (Int.toNat (at' d a.1)) true)) () h SF Z
  refine fL ?_;exact bW () (()) h SF .nil (aB.refl _ _)
 intro k o h;unfold pI at h;refine aP<|aC Z<|aJ<|aU ?_;cases h;exact kY Z
end Go.Proofs.YtcnnfkapmjhnaaaGreatDoor