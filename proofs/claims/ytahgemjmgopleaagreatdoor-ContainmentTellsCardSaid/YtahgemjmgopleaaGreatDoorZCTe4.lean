/- Models and proofs. Conditions: none. -/
import Derived.Test.YtahgemjmgopleaaGreatDoorZCTe3
import Derived.Test.YtahgemjmgopleaaGreatDoorZCTe1
import Derived.RecoverIn
import Derived.DefersIn
import Derived.Lib.Bytealg
import Derived.Test.YtahgemjmgopleaaGreatDoorZCTe2
set_option linter.unusedVariables false
set_option linter.unusedSimpArgs false
set_option maxHeartbeats 4000000
set_option maxRecDepth 20000
namespace Go.Gx
open Go Go.Sx Go.RowKit
section
variable {R α:Type}
theorem Ba (r:OR) (k:GV->GH->Option R):mS r k=mS (mS r KV) k:=by
 cases r with
 |none=>rfl
 |some p=>rfl
theorem eR (x:Option α) {f:α->Option R} {g:α->OR} {k:GV->GH->Option R} (h:∀a,f a=mS (g a) k):ob x f=mS (ob x g) k:=by
 cases x with
 |none=>rfl
 |some a=>exact h a
theorem acC {n:TB} {s:CH} {d:GF} {H:GH} (o:Op) (k:GV->GH->Option R):Qs n s o d H k=mS (Qs n s o d H KV) k:=by
 have e:∀x (f:GV->Option GV),k1 x f d H k=mS (k1 x f d H KV) k:=λx f=>eR _ λx=>eR _ λv=>eR _ λg=>rfl;have j:∀x y (f:GV->GV->Option GV),k2 x y f d H k=mS (k2 x y f d H KV) k:=λx y f=>eR _ λx=>eR _ λv=>eR _ λu=>eR _ λg=>rfl;have B:∀x y z (f:GV->GV->GV->Option GV),k3 x y z f d H k=mS (k3 x y z f d H KV) k:=λx y z f=>eR _ λx=>eR _ λv=>eR _ λu=>eR _ λt=>eR _ λg=>rfl;cases o with
 |move x=>exact eR _ λv=>rfl
 |assign x=>exact eR _ λv=>rfl
 |pick c x y=>exact B _ _ _ _
 |alloc T=>exact Ba _ _
 |box T x=>exact eR _ λv=>Ba _ _
 |build T G=>exact eR _ λJ=>eR _ λg=>rfl
 |buildSlice T m G=>exact eR _ λx=>Ba _ _
 |load T x=>exact eR _ λv=>eR _ λg=>rfl
 |store T x y=>exact eR _ λv=>eR _ λu=>Ba _ _
 |nilCheck x=>exact e _ _
 |binOp F T x y A=>exact j _ _ _
 |unOp F T x=>exact e _ _
 |convert S D x=>exact e _ _
 |makeFunc C first r=>
  cases C with
  |func f=>exact eR _ λI=>eR _ λJ=>rfl
  |_=>rfl
 |makeMap T q=>
  cases q with
  |none=>exact Ba _ _
  |some x=>rfl
 |makeSlice T x y=>exact eR _ λv=>eR _ λu=>Ba _ _
 |slice T x L K E=>
  cases E with
  |none=>exact eR _ λv=>eR _ λl=>eR _ λh=>eR _ λg=>rfl
  |some y=>rfl
 |fieldAddr T x f=>exact e _ _
 |field T x f=>exact e _ _
 |indexAddr T x y=>exact j _ _ _
 |index T x y=>exact j _ _ _
 |lookup T x y M=>exact eR _ λv=>eR _ λu=>eR _ λg=>rfl
 |mapUpdate T x y z=>exact eR _ λv=>eR _ λu=>eR _ λt=>Ba _ _
 |extract x i=>exact e _ _
 | call c =>
  obtain⟨p,a,w⟩:=c;cases p with
  |value f=>exact eR _ λv=>eR _ λg=>eR _ λI=>Ba _ _
  |invoke x m=>rfl
  | builtin b =>
   show TW n a w b d H k=mS (TW n a w b d H KV) k;obtain⟨a⟩:=a;cases b with
   |len=>
    match a with
    | []=>rfl
    | [x]=>exact eR _ λT=>eR _ λv=>eR _ λg=>rfl
    |_::_::_=>rfl
   |max=>
    match a with
    | []=>rfl
    | [x]=>rfl
    | [x,y]=>exact j _ _ _
    |_::_::_::_=>rfl
   |min=>
    match a with
    | []=>rfl
    | [x]=>rfl
    | [x,y]=>exact j _ _ _
    |_::_::_::_=>rfl
   |append=>
    match a with
    | []=>rfl
    | [x]=>rfl
    | [x,y]=>exact eR _ λT=>eR _ λA=>eR _ λv=>eR _ λu=>Ba _ _
    |_::_::_::_=>rfl
   |copy=>
    match a with
    | []=>rfl
    | [x]=>rfl
    | [x,y]=>exact eR _ λT=>eR _ λv=>eR _ λu=>Ba _ _
    |_::_::_::_=>rfl
   |cap=>
    match a with
    | []=>rfl
    | [x]=>exact eR _ λT=>eR _ λv=>eR _ λg=>rfl
    |_::_::_=>rfl
   |_=>rfl
 |_=>rfl
theorem EL {b a:GF}:∀{xs:List Operand},(∀x∈xs,lA b x=lA a x)->HR b xs=HR a xs
 | [],_=>rfl
 |x::xs,h=>by
  show ob (lA b x) (λv=>ob (HR b xs) λc=>some (v::c))=ob (lA a x) (λv=>ob (HR a xs) λc=>some (v::c));rw[h x zAa,EL λy d=>h y (zAg _ d)]
theorem EM {b a:GF}:∀{xs:List (Nat×Operand)},(∀x∈xs,lA b x.2=lA a x.2)->wO b xs=wO a xs
 | [],_=>rfl
 |x::xs,h=>by
  show ob (lA b x.2) (λv=>ob (wO b xs) λc=>some ((x.1,v)::c))=ob (lA a x.2) (λv=>ob (wO a xs) λc=>some ((x.1,v)::c));rw[h x zAa,EM λy d=>h y (zAg _ d)]
theorem LP {b a:GF} {o:Option Operand} (h:∀x∈o.toArray,lA b x=lA a x):Jx b o=Jx a o:=by
 cases o with
 |none=>rfl
 |some x=>
  show ob (lA b x) (λv=>some (some v))=ob (lA a x) (λv=>some (some v));rw[h x (by simp)]
theorem WQ {n:TB} {G:CH} {j a:GF} {H:GH} {o:Op} {k:GV->GH->Option R} (h:∀x∈o.operands,lA j x=lA a x):Qs n G o j H k=Qs n G o a H k:=by
 have s:∀x (f:GV->Option GV),lA j x=lA a x->k1 x f j H k=k1 x f a H k:=λx f e=>by simp only[k1,ob,e]
 have t:∀x y (f:GV->GV->Option GV),lA j x=lA a x->lA j y=lA a y->k2 x y f j H k=k2 x y f a H k:=λx y f e w=>by simp only[k2,ob,e,w]
 have J:∀x y z (f:GV->GV->GV->Option GV),lA j x=lA a x->lA j y=lA a y->lA j z=lA a z->k3 x y z f j H k=k3 x y z f a H k:=λx y z f e w A=>by simp only[k3,ob,e,w,A]
 cases o with
 |move x=>show Kh x j H k=Kh x a H k;simp only[Kh,ob,h x (by simp[Op.operands])]
 |assign x=>show Kh x j H k=Kh x a H k;simp only[Kh,ob,h x (by simp[Op.operands])]
 |pick c x y=>exact J _ _ _ _ (h _ (by simp[Op.operands])) (h _ (by simp[Op.operands])) (h _ (by simp[Op.operands]))
 |alloc T=>rfl
 |box T x=>show acJ x j H k=acJ x a H k;simp only[acJ,ob,h x (by simp[Op.operands])]
 | build T ps =>
  show ob (wO j ps.toList) _=ob (wO a ps.toList) _;rw[EM λx d=>h x.2 (by
   have:x∈ps:=by simpa using d
   simp only[Op.operands,List.mem_toArray,zB5];exact⟨x,d,rfl⟩)]
 | buildSlice T m ps =>
  show ob (wO j ps.toList) _=ob (wO a ps.toList) _;rw[EM λx d=>h x.2 (by
   simp only[Op.operands,List.mem_toArray,zB5];exact⟨x,d,rfl⟩)]
 |load T x=>show Vi n T x j H k=Vi n T x a H k;simp only[Vi,ob,h x (by simp[Op.operands])]
 |store T x y=>show Pv n T x y j H k=Pv n T x y a H k;simp only[Pv,ob,h x (by simp[Op.operands]),h y (by simp[Op.operands])]
 |nilCheck x=>exact s _ _ (h _ (by simp[Op.operands]))
 |binOp L T x y M=>exact t _ _ _ (h _ (by simp[Op.operands])) (h _ (by simp[Op.operands]))
 |unOp L T x=>exact s _ _ (h _ (by simp[Op.operands]))
 |convert S D x=>exact s _ _ (h _ (by simp[Op.operands]))
 | makeFunc fn first caps =>
  cases fn with
  | func f =>
   show ob (HR j first.toList) _=ob (HR a first.toList) _;rw[EL λx d=>h x (by simp only[Op.operands,Array.mem_append];exact .inl (by simpa using d)),
    EL (xs:=caps.toList) λx d=>h x (by simp only[Op.operands,Array.mem_append];exact .inr (by simpa using d))]
  |_=>rfl
 |makeMap T q=>
  cases q with
  |none=>rfl
  |some x=>rfl
 |makeSlice T x y=>show Vk n T x y j H k=Vk n T x y a H k;simp only[Vk,ob,h x (by simp[Op.operands]),h y (by simp[Op.operands])]
 | slice T x lo hi mx =>
  cases mx with
  |none=>
   show ob (some x) (λx=>ob (lA j x) λv=>ob (Jx j lo) λl=>ob (Jx j hi) λh=>ob (If n T v l h H) λg=>k g H)=ob (some x) (λx=>ob (lA a x) λv=>ob (Jx a lo) λl=>ob (Jx a hi) λh=>ob (If n T v l h H) λg=>k g H);have C:Jx j lo=Jx a lo:=LP λy F=>h y (by simp only[Op.operands,Array.mem_append];exact .inl (.inl (.inr F)));have B:Jx j hi=Jx a hi:=LP λy F=>h y (by simp only[Op.operands,Array.mem_append];exact .inl (.inr F));have d:lA j x=lA a x:=h x (by simp only[Op.operands,Array.mem_append];exact .inl (.inl (.inl (by simp))));simp only[ob,C,B,d]
  |some y=>rfl
 |fieldAddr T x f=>exact s _ _ (h _ (by simp[Op.operands]))
 |field T x f=>exact s _ _ (h _ (by simp[Op.operands]))
 |indexAddr T x y=>exact t _ _ _ (h _ (by simp[Op.operands])) (h _ (by simp[Op.operands]))
 |index T x y=>exact t _ _ _ (h _ (by simp[Op.operands])) (h _ (by simp[Op.operands]))
 |lookup T x y I=>show Vj n T x y I j H k=Vj n T x y I a H k;simp only[Vj,ob,h x (by simp[Op.operands]),h y (by simp[Op.operands])]
 |mapUpdate T x y z=>show Pu n T x y z j H k=Pu n T x y z a H k;simp only[Pu,ob,h x (by simp[Op.operands]),h y (by simp[Op.operands]),h z (by simp[Op.operands])]
 |extract x i=>exact s _ _ (h _ (by simp[Op.operands]))
 | call c =>
  obtain⟨u,p,r⟩:=c;cases u with
  |value f=>
   have K:lA j f=lA a f:=h f (by simp[Op.operands,Call.operands]);have E:HR j p.toList=HR a p.toList:=EL λx d=>h x (by simp[Op.operands,Call.operands];exact .inr (by simpa using d));show ob (lA j f) _=ob (lA a f) _;simp only[ob,K,E]
  |invoke x m=>rfl
  | builtin b =>
   show TW n p r b j H k=TW n p r b a H k;have d:∀x∈p,lA j x=lA a x:=λx d=>h x (by simp[Op.operands,Call.operands];exact d);obtain⟨p⟩:=p;cases b with
   |len=>
    match p,d with
    | [],_=>rfl
    | [x],d=>show WW n r.toList x j H k=WW n r.toList x a H k;simp only[WW,ob,d x (by simp)]
    |_::_::_,_=>rfl
   |max=>
    match p,d with
    | [],_=>rfl
    | [x],_=>rfl
    | [x,y],d=>exact t _ _ _ (d _ (by simp)) (d _ (by simp))
    |_::_::_::_,_=>rfl
   |min=>
    match p,d with
    | [],_=>rfl
    | [x],_=>rfl
    | [x,y],d=>exact t _ _ _ (d _ (by simp)) (d _ (by simp))
    |_::_::_::_,_=>rfl
   |append=>
    match p,d with
    | [],_=>rfl
    | [x],_=>rfl
    | [x,y],d=>show Zu n r.toList x y j H k=Zu n r.toList x y a H k;simp only[Zu,ob,d x (by simp),d y (by simp)]
    |_::_::_::_,_=>rfl
   |copy=>
    match p,d with
    | [],_=>rfl
    | [x],_=>rfl
    | [x,y],d=>show Ro n r.toList x y j H k=Ro n r.toList x y a H k;simp only[Ro,ob,d x (by simp),d y (by simp)]
    |_::_::_::_,_=>rfl
   |cap=>
    match p,d with
    | [],_=>rfl
    | [x],d=>show WV n r.toList x j H k=WV n r.toList x a H k;simp only[WV,ob,d x (by simp)]
    |_::_::_,_=>rfl
   |_=>rfl
 |_=>rfl
end
noncomputable def Ha (c:TB) (b:CH) (all:List Oper) (o:Oper) (a:GF) (H:GH):OR:=Option.casesOn (motive:=λ_=>OR) o.guard (Qs c b o.op a H KV) λg=>ob (Jj all g.1) λe=>ob e.dst λd=>ob (Hb a d) λv=>evG c b o ⟨a,H⟩ g.2 v
theorem acs {b:TB} {a:CH} {all:List Oper} {o:Oper} {k:GS->RS} {s:GS}:LG b a all o k s=mS (Ha b a all o s.σ s.H) (opK o.dst s k):=by
 unfold LG Ha;cases o.guard with
 |none=>exact acC _ _
 |some g=>exact eR _ λd=>eR _ λc=>eR _ λv=>rfl
theorem GI {d:TB} {c:CH} {all:List Oper} {o:Oper} {k:GS->RS} {s:GS} {a:QI} (h:LG d c all o k s=some a):∃g b,Ha d c all o s.σ s.H=some (g,b)∧k ⟨putD o.dst g s.σ,b⟩=some a:=by
 rw[acs]at h;obtain⟨g,b,e,f⟩:=oJ h;exact⟨g,b,e,f⟩
theorem TJ {c:TB} {b:CH} {all:List Oper} {o:Oper} {d a:GF} {H:GH} (h:∀t∈o.looksAt all.toArray,Hb d t=Hb a t):Ha c b all o d H=Ha c b all o a H:=by
 have e:Qs c b o.op d H KV=Qs c b o.op a H KV:=WQ λx l=>by
  cases x with
  |tmp t=>exact h t (List.mem_append_left _ (List.mem_filterMap.2 ⟨.tmp t,by simpa using l,rfl⟩))
  |_=>rfl
 unfold Ha;cases j:o.guard with
 |none=>exact e
 | some g =>
  show ob (Jj all g.1) _=ob (Jj all g.1) _;cases f:Jj all g.1 with
  |none=>rfl
  | some oj =>
   show ob oj.dst _=ob oj.dst _;cases i:oj.dst with
   |none=>rfl
   | some dj =>
    have k:dj∈o.looksAt all.toArray:=by
     rw[wP]at f;simp[Oper.looksAt,j,f,i]
    show ob (Hb d dj) (λv=>evG c b o ⟨d,H⟩ g.2 v)=ob (Hb a dj) (λv=>evG c b o ⟨a,H⟩ g.2 v);rw[h dj k];cases Hb a dj with
    |none=>rfl
    | some v =>
     show evG c b o ⟨d,H⟩ g.2 v=evG c b o ⟨a,H⟩ g.2 v;cases v with
     |bool q=>
      show Bool.casesOn (motive:=λ_=>OR) (Vd q g.2) (some (.un,H)) (Qs c b o.op d H KV)=Bool.casesOn (motive:=λ_=>OR) (Vd q g.2) (some (.un,H)) (Qs c b o.op a H KV);rw[e]
     |_=>rfl
section
variable {P:Program} {tb:TB} {gs:BA} {w0:fQ gs}
theorem GG {u:CH} {all:List Oper} {n:Nat} {o:Oper} {r:GF} {H k:GH} {g:GV} {ρ:fC} {a:Act} (F:lY ρ n r a) (h:Ha tb u all o r H=some (g,k)):
  (Region.wanted o (yielded all.toArray a.tmps)=true∧Qs tb u o.op r H KV=some (g,k))∨(Region.wanted o (yielded all.toArray a.tmps)=false∧g = .un∧k=H):=by
 unfold Ha at h;cases l:o.guard with
 |none=>
  rw[l]at h;exact .inl ⟨by simp[Region.wanted,l],h⟩
 | some gd =>
  rw[l]at h;obtain⟨A,m,h⟩:=aF.1 (show ob (Jj all gd.1) _=some (g,k)from h);obtain⟨i,s,h⟩:=aF.1 h;obtain⟨v,y,j⟩:=aF.1 h;have e:=F.slot i v y;rw[wP]at m;have t:yielded all.toArray a.tmps gd.1=(match a.tmps[i]? with|some (.bool b)=>some b|_=>none):=by
   unfold yielded;have:(all.toArray[gd.1]?).bind (·.dst)=some i:=by simp[m,s]
   rw[this];rfl
  cases v with
  | bool q =>
   have d:=e.bool_inv;have x:a.tmps[i]? = some (.bool q):=by
    simp only[Act.eval,Array.getD_eq_getD_getElem?]at d;cases p:a.tmps[i]? with
    |none=>rw[p]at d;cases d
    |some z=>rw[p]at d;simp at d;rw[d]
   rw[x]at t;have c:Bool.casesOn (motive:=λ_=>OR) (Vd q gd.2) (some (.un,H)) (Qs tb u o.op r H KV)=some (g,k):=j;rw[HP]at c;have w:Region.wanted o (yielded all.toArray a.tmps)=(q==gd.2):=by
    simp only[Region.wanted,l];rw[t];cases q<;>cases gd.2<;>rfl
   cases f:(q==gd.2)with
   |true=>rw[f]at c;exact .inl ⟨by rw[w,f],c⟩
   |false=>rw[f]at c;cases c;exact .inr ⟨by rw[w,f],rfl,rfl⟩
  | un =>
   have d:=e.un_inv;cases j;refine .inr ⟨?_,rfl,rfl⟩;simp only[Region.wanted,l];rw[t];have:(match a.tmps[i]? with|some (.bool b)=>some b|_=>none)=(none:Option Bool):=by
    simp only[Act.eval,Array.getD_eq_getD_getElem?]at d;cases p:a.tmps[i]? with
    |none=>rfl
    |some z=>rw[p]at d;simp at d;rw[d];rfl
   rw[this];rfl
  |_=>cases j
theorem KM {f:CH} (k:fV P tb) (c:tW P w0 f) {all:List Oper} {n:Nat} {o:Oper} {e:GF} {H b:GH} {g:GV} {d:fC} {a:Act} {w:World} (p:JF n o=true) (F:lY d n e a) (R:gH w0 d H w) (h:Ha tb f all o e H=some (g,b)):
  (Region.wanted o (yielded all.toArray a.tmps)=true∧DX P w0 d e a w o g H b)∨(Region.wanted o (yielded all.toArray a.tmps)=false∧g = .un∧b=H):=by
 obtain⟨_,_,j⟩:=vT p;rcases GG F h with⟨r,l⟩|h
 ·obtain⟨s,i,m,q⟩:=TQ k c F R j l;cases m;exact .inl ⟨r,q⟩
 ·exact .inr h
def aao (tb:TB) (T:TypeId):Bool:=match tb T with
 |some t=>(match t.desc with|.array .. => false|_=>true)
 |none=>false
def pureOp (tb:TB):Op->Bool
 | .move _ | .assign _ | .pick .. | .build .. | .nilCheck _ | .binOp .. | .unOp .. | .convert .. | .makeFunc .. | .fieldAddr .. | .field .. | .indexAddr .. | .index .. | .extract .. => true
 | .slice T _ _ _ _=>aao tb T
 | .call ⟨.builtin .len,_,_⟩ | .call ⟨.builtin .max,_,_⟩ | .call ⟨.builtin .min,_,_⟩=>true
 |_=>false
def isFloat:Op->Bool
 | .buildSlice .. | .alloc .. | .box .. => true
 |_=>false
theorem iD {b:fC} {g:GV} {s:Sem Value} {a:Act} {o:Oper} (h:Ev P b s g) (c:∀w v,s.run P w = .ok v w->(execOp a.eval o).run P w = .ok (.value v) w):∃v,Rl b g v∧∀w,(execOp a.eval o).run P w = .ok (.value v) w:=
 let ⟨v,hv,hr⟩:=h;⟨v,hv,λw=>c w v (hr w)⟩
theorem Zo {ih:CH} (E:fV P tb) {ρ:fC} {n:Nat} {s:GF} {a:Act} (F:lY ρ n s a) {o:Oper} {H r:GH} {g:GV} (R:pureOp tb o.op=true) (aa:Mh o.op=true) (h:Qs tb ih o.op s H KV=some (g,r)):
  r=H∧∃v,Rl ρ g v∧∀w,(execOp a.eval o).run P w = .ok (.value v) w:=by
 obtain⟨d,W,J,ad,ac,gd⟩:=o;cases W with
 |move x=>
  obtain⟨v,q,h⟩:=aF.1 (show ob (lA s x) _=some (g,r)from h);cases h;exact⟨rfl,_,dG F q,λw=>by simp[execOp]⟩
 |assign x=>
  obtain⟨v,q,h⟩:=aF.1 (show ob (lA s x) _=some (g,r)from h);cases h;exact⟨rfl,_,dG F q,λw=>by simp[execOp]⟩
 |pick c x y=>
  obtain⟨v,q,h⟩:=aF.1 (show ob (lA s c) _=some (g,r)from h);obtain⟨u,C,h⟩:=aF.1 h;obtain⟨t,ht,h⟩:=aF.1 h;obtain⟨z,k,h⟩:=aF.1 h;cases h;obtain⟨b,hb,k⟩:=aF.1 (show ob v.asB _=some g from k);have Y:=dG F q;rw[Dt hb]at Y;cases b with
  |true=>cases k;exact⟨rfl,_,dG F C,λw=>by simp[execOp,Y.bool_inv,asBool]⟩
  |false=>cases k;exact⟨rfl,_,dG F ht,λw=>by simp[execOp,Y.bool_inv,asBool]⟩
 | build T ps =>
  obtain⟨vs,N,h⟩:=aF.1 (show ob (wO s ps.toList) _=some (g,r)from h);obtain⟨z,k,h⟩:=aF.1 h;cases h;exact⟨rfl,iD (Oy E (Ee F N) k) (λw v j=>by
   have e:(ps.toList.map λp=>(p.1,a.eval p.2)).toArray=ps.map λp=>(p.1,a.eval p.2):=by apply Array.toList_inj.1;simp
   rw[e]at j;simp[execOp,j])⟩
 |nilCheck x=>
  obtain⟨v,q,h⟩:=aF.1 (show ob (lA s x) _=some (g,r)from h);obtain⟨z,k,h⟩:=aF.1 h;cases h;obtain⟨rfl,j⟩:=RA (P:=P) (dG F q) k;exact⟨rfl,_,dG F q,λw=>j _ x a.eval Z Z w⟩
 | binOp W T x y T' =>
  obtain⟨v,q,h⟩:=aF.1 (show ob (lA s x) _=some (g,r)from h);obtain⟨u,C,h⟩:=aF.1 h;obtain⟨z,k,h⟩:=aF.1 h;cases h;exact⟨rfl,iD (VU E x y (dG F q) (dG F C) k) (λw v j=>by
   simp only[execOp];simp at j ⊢;cases V:Sem.run P (eqGuard W T x y (a.eval x) (a.eval y)) w with
   |ok u w1=>rw[V]at j;simp at j;simp[j]
   |halt h1 w1=>rw[V]at j;cases j)⟩
 |unOp W T x=>
  obtain⟨v,q,h⟩:=aF.1 (show ob (lA s x) _=some (g,r)from h);obtain⟨z,k,h⟩:=aF.1 h;cases h;exact⟨rfl,iD (aaH (dG F q) k) (λw v j=>by simp[execOp,j])⟩
 |convert S D x=>
  obtain⟨v,q,h⟩:=aF.1 (show ob (lA s x) _=some (g,r)from h);obtain⟨z,k,h⟩:=aF.1 h;cases h;exact⟨rfl,iD (Sy E (dG F q) k) (λw v j=>by simp[execOp,j])⟩
 | makeFunc fn first caps =>
  cases fn with
  |func f=>
   obtain⟨us,ab,h⟩:=aF.1 (show ob (HR s first.toList) _=some (g,r)from h);obtain⟨vs,N,h⟩:=aF.1 h;cases h;refine⟨rfl,_,Rl.fn' (GJ F ab) (GJ F N),λw=> ?_⟩
   have e1:(first.toList.map a.eval).toArray=first.map a.eval:=by apply Array.toList_inj.1;simp
   have e2:(caps.toList.map a.eval).toArray=caps.map a.eval:=by apply Array.toList_inj.1;simp
   rw[e1,e2];simp[execOp,Instr.makeFunc]
  |_=>cases h
 |fieldAddr T x f=>
  obtain⟨v,q,h⟩:=aF.1 (show ob (lA s x) _=some (g,r)from h);obtain⟨z,k,h⟩:=aF.1 h;cases h;exact⟨rfl,iD (Oz E (dG F q) k) (λw v j=>by simp[execOp,j])⟩
 |field T x f=>
  obtain⟨v,q,h⟩:=aF.1 (show ob (lA s x) _=some (g,r)from h);obtain⟨z,k,h⟩:=aF.1 h;cases h;exact⟨rfl,iD (SC E (dG F q) k) (λw v j=>by simp[execOp,j])⟩
 |indexAddr T x y=>
  obtain⟨v,q,h⟩:=aF.1 (show ob (lA s x) _=some (g,r)from h);obtain⟨u,C,h⟩:=aF.1 h;obtain⟨z,k,h⟩:=aF.1 h;cases h;exact⟨rfl,iD (OA E (dG F q) (dG F C) k) (λw v j=>by simp[execOp,j])⟩
 |index T x y=>
  obtain⟨v,q,h⟩:=aF.1 (show ob (lA s x) _=some (g,r)from h);obtain⟨u,C,h⟩:=aF.1 h;obtain⟨z,k,h⟩:=aF.1 h;cases h;exact⟨rfl,iD (aay E (dG F q) (dG F C) k) (λw v j=>by simp[execOp,j])⟩
 | slice T x lo hi mx =>
  cases mx with
  | none =>
   obtain⟨v,q,h⟩:=aF.1 (show ob (lA s x) _=some (g,r)from h);obtain⟨l,hl,h⟩:=aF.1 h;obtain⟨e,he,h⟩:=aF.1 h;obtain⟨z,k,h⟩:=aF.1 h;cases h;have hA:∀t,tb T=some t->tdA t.desc=none:=λt ht=>by
    have U:aao tb T=true:=R;unfold aao at U;rw[ht]at U;simp only at U;cases V:t.desc<;>rw[V]at U<;>first|rfl|cases U
   exact⟨rfl,iD (OB (gs:=noG) E (.inr hA) (dG F q) (KP F hl) (KP F he) k) (λw v j=>by simp[execOp,j])⟩
  |some y=>cases h
 |extract x i=>
  obtain⟨v,q,h⟩:=aF.1 (show ob (lA s x) _=some (g,r)from h);obtain⟨z,k,h⟩:=aF.1 h;cases h;exact⟨rfl,iD (VW (dG F q) k) (λw v j=>by simp[execOp,j])⟩
 | call c =>
  obtain⟨X,Q,B⟩:=c;cases X with
  |value f=>cases R
  |invoke x m=>cases R
  | builtin b =>
   have A:B.size=Q.size:=zA3 aa;have h:TW tb Q B b s H KV=some (g,r):=h;cases b with
   | len =>
    obtain⟨x,O,h⟩:=EO (show LW Q.toList (WW tb B.toList) s H KV=some (g,r)from h);obtain⟨T,M,h⟩:=aF.1 (show ob (Jj B.toList 0) _=some (g,r)from h);obtain⟨v,q,h⟩:=aF.1 h;obtain⟨z,k,h⟩:=aF.1 h;cases h;have L:=La O;subst L;have K:B = #[T]:=by
     rw[wP]at M;obtain⟨l⟩:=B
     match l,A with
     | [t],_=>simp at M;subst M;rfl
    subst K;exact⟨rfl,iD (VX E (ty:=J) (dG F q) k) (λw v j=>by simp[execOp,resolve,invoke,builtin,j])⟩
   | cap =>
    obtain⟨x,O,h⟩:=EO (show LW Q.toList (WV tb B.toList) s H KV=some (g,r)from h);obtain⟨T,M,h⟩:=aF.1 (show ob (Jj B.toList 0) _=some (g,r)from h);obtain⟨v,q,h⟩:=aF.1 h;obtain⟨z,k,h⟩:=aF.1 h;cases h;have L:=La O;subst L;have K:B = #[T]:=by
     rw[wP]at M;obtain⟨l⟩:=B
     match l,A with
     | [t],_=>simp at M;subst M;rfl
    subst K;exact⟨rfl,iD (VV E (ty:=J) (dG F q) k) (λw v j=>by simp[execOp,resolve,invoke,builtin,j])⟩
   | max =>
    obtain⟨x,y,O,h⟩:=AT (show FY Q.toList (λx y=>k2 x y Xr) s H KV=some (g,r)from h);obtain⟨v,q,h⟩:=aF.1 (show ob (lA s x) _=some (g,r)from h);obtain⟨u,C,h⟩:=aF.1 h;obtain⟨z,k,h⟩:=aF.1 h;cases h;have L:=GZ O;subst L;obtain⟨G,I,K⟩:∃G I,B = #[G,I]:=by
     obtain⟨l⟩:=B
     match l,A with
     | [t,t'],_=>exact⟨t,t',rfl⟩
    subst K;exact⟨rfl,iD (V_ (t1:=G) (t2:=I) (ty:=J) (dG F q) (dG F C) k) (λw v j=>by simp[execOp,resolve,invoke,builtin,j])⟩
   | min =>
    obtain⟨x,y,O,h⟩:=AT (show FY Q.toList (λx y=>k2 x y aaG) s H KV=some (g,r)from h);obtain⟨v,q,h⟩:=aF.1 (show ob (lA s x) _=some (g,r)from h);obtain⟨u,C,h⟩:=aF.1 h;obtain⟨z,k,h⟩:=aF.1 h;cases h;have L:=GZ O;subst L;obtain⟨G,I,K⟩:∃G I,B = #[G,I]:=by
     obtain⟨l⟩:=B
     match l,A with
     | [t,t'],_=>exact⟨t,t',rfl⟩
    subst K;exact⟨rfl,iD (Wa (t1:=G) (t2:=I) (ty:=J) (dG F q) (dG F C) k) (λw v j=>by simp[execOp,resolve,invoke,builtin,j])⟩
   |_=>cases R
 |_=>cases R
theorem Sw (hG:fV P tb) {T:TypeId} {n:Nat} {l:List (Nat×GV)} {parts:List (Nat×Value)} {ρ:fC} {H H':GH} {g:GV} (hp:RlP ρ l parts) (h:Ff tb T n l H=some (g,H')):
  ∃cs a' T' len sz,H'=H.new (.cells cs)∧g = .sl H.n 0 len sz∧Wm ρ cs a'∧cs.length=a'.size∧∀w:World,∃V,(Instr.buildSlice T n parts.toArray).run P w = .ok V (w.alloc (.cells a' T'))∧∀ρ':fC,ρ' H.n=some ⟨w.heap.size,0,a'.size,.cells a' T',.cells cs⟩->Rl ρ' g V:=by
 obtain⟨te,hte,h⟩:=aF.1 (show ob (CB tb T) _=some (g,H')from h);obtain⟨zc,hz,h⟩:=aF.1 h;obtain⟨hlen,h⟩:=bV.1 h;obtain⟨hbig,h⟩:=bV.1 h;obtain⟨h0,h⟩:=lQ.1 h;obtain⟨cs,hfill,h⟩:=aF.1 h;rw[jR]at h;cases h;obtain⟨⟨d,hd,hde⟩,hE,htab⟩:=AQ hG hte;obtain⟨dz,hdz,_,hC⟩:=zC (ρ:=ρ) hG hz;rw[htab]at hdz;cases hdz;have hlen:zc.length=te.2.size:=zA3 hlen;have h0:te.2.size≠0:=λe=>by rw[e]at h0;cases h0
 have hbig:n*te.2.size<16777216:=by simpa [zAw]using hbig
 have hrep:=KY hC (by omega) n;rw[hlen]at hrep;obtain⟨a',f1,f2⟩:=GK hp hrep hfill;have hsz0:cs.length=a'.size:=by have:=f2.r.len;simpa using this
 have hsz:a'.size=n*te.2.size:=by
  have e1:=f2.r.len;have:cs.length=(SS zc n).length:=HS hfill;rw[this,IM,hlen]at e1;simp at e1;omega
 refine⟨cs,a',te.1,n,te.2.size,rfl,rfl,f2,hsz0,λw=>⟨.slice (some ⟨w.heap.size,0,none⟩) n n,?_,λρ' hρ=> .sl (l:=⟨w.heap.size,0,a'.size,.cells a' te.1,.cells cs⟩) hρ (zAd _) (.inr ⟨rfl,by simp[hsz]⟩)⟩⟩
 have hu:=hd.run_und w;rw[hde]at hu;by_cases hn:n*te.2.size=0
 ·have hz0:n=0:=by rcases Nat.mul_eq_zero.1 hn with h|h;exact h;exact absurd h h0
  subst hz0;have e0:(Array.range (0*te.2.size)).map (te.2.zero.cells[· % te.2.zero.cells.size]!)=(#[]:Array Value):=by simp
  rw[e0]at f1;have e1:(Array.range 0).map (λ_=>(default:Value)) = #[]:=by simp
  simp[Instr.buildSlice,hu,hE.run_size w,newRow];simp[e1,f1]
 ·simp[Instr.buildSlice,hu,hE.run_size w,hE.run_zero w,hn,f1,newRow,show¬(16777216<n*te.2.size) by omega]
theorem X_ {t u w:fC} (x:∀h A l,t h=some A->u h=some l->w h=some l) {g:GV} {v:Value} (C:Rl u g v):∀{r:Value},Rl t g r->Rl w g v:=by
 induction C with
 |int k n=>exact λ_=> .int k n
 |bool b=>exact λ_=> .bool b
 |str s=>exact λ_=> .str s
 |ptr y q=>exact λj=>by cases j with|ptr _ m=>exact .ptr y (x _ _ _ m q)
 |pnil=>exact λ_=> .pnil
 |sl q E D=>exact λj=>by cases j with|sl m _ _=>exact .sl (x _ _ _ m q) E D
 |snil=>exact λ_=> .snil
 |map q=>exact λj=>by cases j with|map m=>exact .map (x _ _ _ m q)
 | fn f a b c d ihb ihd =>
   intro r j;cases j with
   | fn _ z p B d0 =>
    refine .fn f a (λi g v e o=> ?_) c (λi g v e o=> ?_)
    ·have:=bL e;exact ihb i g v e o (p i g _ e (zA0 (by omega)))
    ·have:=bL e;exact ihd i g v e o (d0 i g _ e (zA0 (by omega)))
 |fnil=>exact λ_=> .fnil
 |inil=>exact λ_=> .inil
 | agg a b c ihb =>
   intro r j;cases j with
   |agg z p B=>
    refine .agg a (λi g v e o=> ?_) c;have:=bL e;exact ihb i g v e o (p i g _ e (zA0 (by omega)))
 | tup a b ihb =>
   intro r j;cases j with
   |tup z p=>
    refine .tup a (λi g v e o=> ?_);have:=bL e;exact ihb i g v e o (p i g _ e (zA0 (by omega)))
 |un=>exact λ_=> .un
 |bad v=>exact λ_=> .bad v
 | opn v h hx =>
   intro r j;obtain⟨A,a,_⟩:=j.opn_inv;exact .opn v (x _ _ _ a h) hx
structure Trc (tb:TB) (ih:CH) (all l:List Oper) (S:Nat->GF) (HH:Nat->GH) (gg:Nat->GV):Prop where
 st:∀i o,l[i]? = some o->Ha tb ih all o (S i) (HH i)=some (gg i,HH (i+1))
 up:∀i o,l[i]? = some o->S (i+1)=putD o.dst (gg i) (S i)
theorem NX {d:CH} {all:List Oper} {k:GS->RS} {b:QI}:∀(l:List Oper) (s:GS),Hn tb d all k l s=some b->∃S c e,S 0=s.σ∧c 0=s.H∧Trc tb d all l S c e∧k ⟨S l.length,c l.length⟩=some b
 | [],s,h=>⟨λ_=>s.σ,λ_=>s.H,λ_=> .un,rfl,rfl,⟨λi o a=>by simp at a,λi o a=>by simp at a⟩,h⟩
 | o :: l, s, h => by
  obtain⟨g,t,p,q⟩:=GI (show LG tb d all o (Hn tb d all k l) s=some b from h);obtain⟨S,c,e,m,n,j,r⟩:=NX l _ q;refine⟨λi=>Nat.casesOn i s.σ S,λi=>Nat.casesOn i s.H c,λi=>Nat.casesOn i g e,rfl,rfl,⟨λi f a=> ?_,λi f a=> ?_⟩,r⟩
  ·cases i with
   |zero=>simp at a;subst a;show Ha tb d all o s.σ s.H=some (g,c 0);rw[p,n]
   |succ i=>exact j.st i f (by simpa using a)
  ·cases i with
   |zero=>simp at a;subst a;exact m
   |succ i=>exact j.up i f (by simpa using a)
theorem CI {o:Op} (h:pH o=true):fI o=false:=by
 cases o<;>first|rfl|cases h
structure Vrs (all l:List Oper) (m:List Nat) (i:Nat) (S:Nat->GF) (HH:Nat->GH) (pr:List (Nat×Option (Nat×Nat))) (hs:List (Nat×GH)):Prop where
 pr:∀q h v,(q,some (h,v))∈pr->∀j oj,l[j]? = some oj->fI oj.op=true->before m (i+j) q=false->(HH (j+1)).ver h=some v
 hs:∀k ok h,l[k]? = some ok->pH ok.op=true->ldH (S k) ok.op=some h->∃v,(HH k).ver h=some v∧∀q Hq,(q,Hq)∈hs->before m (i+k) q=false->Hq.ver h=some v
 lo:∀k ok h v,l[k]? = some ok->pH ok.op=true->ldH (S k) ok.op=some h->(HH k).ver h=some v->
  (∀j oj,j<k->l[j]? = some oj->fI oj.op=true->before m (i+k) (i+j)=false->(HH j).ver h=some v)∧(∀j oj,k<j->l[j]? = some oj->fI oj.op=true->before m (i+j) (i+k)=false->(HH (j+1)).ver h=some v)
theorem Vrs.cons {all l:List Oper} {m:List Nat} {i:Nat} {S:Nat->GF} {B:Nat->GH} {G x:List (Nat×Option (Nat×Nat))} {F u:List (Nat×GH)} {o:Oper} {L:GF} {H:GH} (V:Vrs all l m (i+1) S B x u)
  (E:∀p∈G,p∈x) (C:∀p∈F,p∈u) (I:fI o.op=true->(i,H)∈u∧∀p∈G,before m i p.1=false->∀d,p.2=some d->(B 0).ver d.1=some d.2)
  (J:pH o.op=true->∀h,ldH L o.op=some h->∃v,H.ver h=some v∧(i,some (h,v))∈x∧∀q y,(q,y)∈F->before m i q=false->y.ver h=some v):
  Vrs all (o::l) m i (λj=>Nat.casesOn j L S) (λj=>Nat.casesOn j H B) G F:=by
 have e:∀j,i+(j+1)=i+1+j:=λj=>by omega
 refine⟨λq h v z j w g s f=> ?_,λk A h n s t=> ?_,λk A h v n s t d=>⟨λj w D g r f=> ?_,λj w D g r f=> ?_⟩⟩
 ·cases j with
  |zero=>simp at g;subst g;exact(I s).2 _ z (by simpa using f) _ Z
  |succ j=>exact V.pr q h v (E _ z) j w (by simpa using g) s (by rw[<-e];exact f)
 ·cases k with
  |zero=>
   simp at n;subst n;obtain⟨v,a,_,c⟩:=J s h t;exact⟨v,a,λq y z f=>c q y z (by simpa using f)⟩
  |succ k=>
   obtain⟨v,a,b⟩:=V.hs k A h (by simpa using n) s t;exact⟨v,a,λq y z f=>b q y (C _ z) (by rw[<-e];exact f)⟩
 ·cases k with
  |zero=>omega
  | succ k =>
   have n:l[k]? = some A:=by simpa using n
   cases j with
   |zero=>
    simp at g;subst g;obtain⟨K,a,b⟩:=V.hs k A h n s t;have a:(B k).ver h=some K:=a;have d:(B k).ver h=some v:=d;rw[a]at d;cases d;exact b i H (I r).1 (by rw[<-e];simpa using f)
   |succ j=>exact(V.lo k A h v n s t d).1 j w (by omega) (by simpa using g) r (by rw[<-e,<-e];exact f)
 ·cases j with
  |zero=>omega
  | succ j =>
   have g:l[j]? = some w:=by simpa using g
   cases k with
   |zero=>
    simp at n;subst n;obtain⟨K,a,b,_⟩:=J s h t;have d:H.ver h=some v:=d;rw[a]at d;cases d;exact V.pr i h v b j w g r (by rw[<-e];simpa using f)
   |succ k=>exact(V.lo k A h v (by simpa using n) s t d).2 j w (by omega) g r (by rw[<-e,<-e];exact f)
theorem KN {x:CH} {all:List Oper} {m:List Nat} {k:GS->RS} {A:QI}:∀(l:List Oper) (i:Nat) (J:List (Nat×Option (Nat×Nat))) (D:List (Nat×GH)) (s:GS),evW tb x all m k l i J D s=some A->
  ∃S a r,S 0=s.σ∧a 0=s.H∧Trc tb x all l S a r∧Vrs all l m i S a J D∧k ⟨S l.length,a l.length⟩=some A
 | [],i,J,D,s,h=>⟨λ_=>s.σ,λ_=>s.H,λ_=> .un,rfl,rfl,⟨λi o d=>by simp at d,λi o d=>by simp at d⟩,⟨λ_ _ _ _ j Y V=>by simp at V,λk X h f=>by simp at f,λk X h v f=>by simp at f⟩,h⟩
 | o :: l, i, J, D, s, h => by
  have t:Zb tb x all m o (evW tb x all m k l) i J D s=some A:=h;have B:∀{g:GV} {C:GH} {S:Nat->GF} {a:Nat->GH} {r:Nat->GV},Ha tb x all o s.σ s.H=some (g,C)->S 0=putD o.dst g s.σ->a 0=C->Trc tb x all l S a r->Trc tb x all (o::l) (λj=>Nat.casesOn j s.σ S) (λj=>Nat.casesOn j s.H a) (λj=>Nat.casesOn j g r):=λ{g C S a r} z y n w=>⟨λi O d=>by
    cases i with
    |zero=>simp at d;subst d;show Ha tb x all o s.σ s.H=some (g,a 0);rw[z,n]
    |succ i=>exact w.st i O (by simpa using d),λi O d=>by
    cases i with
    |zero=>simp at d;subst d;exact y
    |succ i=>exact w.up i O (by simpa using d)⟩
  unfold Zb at t;cases b:fI o.op with
  |true=>
   rw[b]at t;obtain⟨g,C,z,E⟩:=GI t;obtain⟨_,u,K⟩:=aF.1 E;have u:=FQ u;obtain⟨S,a,r,y,n,w,I,f⟩:=KN l _ _ _ _ K;refine⟨_,_,_,rfl,rfl,B z y n w,I.cons (λ_ h=>h) (λp G=>zAg _ G) (λ_=>⟨zAa,λp G L M U=>by rw[n];exact u p G L M U⟩) (λc=>by rw[CI c]at b;cases b),f⟩
  | false =>
   rw[b]at t;cases c:pH o.op with
   |true=>
    simp only[c]at t;obtain⟨g,C,z,E⟩:=GI t;obtain⟨e,u,K⟩:=aF.1 E;obtain⟨S,a,r,y,n,w,I,f⟩:=KN l _ _ _ _ K;refine⟨_,_,_,rfl,rfl,B z y n w,I.cons (λp G=>zAg _ G) (λ_ h=>h) (λh=>by rw[b]at h;cases h) (λ_ Q F=> ?_),f⟩
    rw[F]at u;obtain⟨v,N,u⟩:=aF.1 (show ob (s.H.ver Q) (λv=>LA m i Q v D)=some e from u);obtain⟨rfl,T⟩:=FS u;exact⟨v,N,zAa,λq R W L=>T (q,R) W L⟩
   |false=>
    simp only[c]at t;obtain⟨g,C,z,E⟩:=GI t;obtain⟨S,a,r,y,n,w,I,f⟩:=KN l _ _ _ _ E;exact⟨_,_,_,rfl,rfl,B z y n w,I.cons (λ_ h=>h) (λ_ h=>h) (λh=>by rw[b]at h;cases h) (λh=>by rw[c]at h;cases h),f⟩
theorem Za {s:CH} (t:fV P tb) (p:tW P w0 s) {all:List Oper} {n:Nat} {o:Oper} {q:GF} {H k:GH} {g:GV} {d:fC} {a:Act} {w:World} (r:JF n o=true) (F:lY d n q a) (R:gH w0 d H w) (h:Ha tb s all o q H=some (g,k)):
  ∃b i e,d.le b∧gH w0 b k e∧lY b n (putD o.dst g q) i:=by
 obtain⟨_,c,_⟩:=vT r;rcases KM t p r F R h with⟨_,x⟩|⟨_,rfl,rfl⟩
 ·rcases x with⟨_,_,_,rfl,v,f,_⟩|⟨_,_,rfl,v,_,_,_,_,_,f,_⟩|⟨_,_,rfl,v,f,_⟩|⟨_,u⟩
  ·exact⟨d,_,w,fC.le_refl _,R,F.putD c f⟩
  ·exact⟨d,_,w,fC.le_refl _,R,F.putD c f⟩
  ·exact⟨d,_,w,fC.le_refl _,R,F.putD c f⟩
  ·obtain⟨i,e,b,v,j,l,m,rfl⟩:=RE (u (λi e=>∃b v,d.le b∧gH w0 b k e∧Rl b g v∧i=a.put o.dst v) λb e v j l m=>⟨b,v,j,l,m,rfl⟩);exact⟨b,_,e,j,l,(F.le j).putD c m⟩
 ·exact⟨d,_,w,fC.le_refl _,R,F.putD c .un⟩
theorem Ov {q:CH} (p:fV P tb) (f:tW P w0 q) {all:List Oper} {n:Nat} (c:all.all (JF n)=true) {S:Nat->GF} {g:Nat->GH} {u:Nat->GV} (T:Trc tb q all all S g u) {k:fC} {a:Act} {w:World} (F:lY k n (S 0) a) (R:gH w0 k (g 0) w):
    ∀m,m<=all.length->∃b:Nat->fC,(∀i,i<=m->∃a w,gH w0 (b i) (g i) w∧lY (b i) n (S i) a)∧∀i,i<m->(b i).le (b (i+1))
  | 0, _ => ⟨λ_ => k, λi h => by
      have : i = 0 := by omega
      subst this;exact⟨a,w,R,F⟩,λi h=>by omega⟩
  | m + 1, hm => by
    obtain⟨b,o,v⟩:=Ov p f c T F R m (by omega);obtain⟨A,B,s,r⟩:=o m (zAd _);have d:all[m]? = some all[m]:=zA0 (by omega);obtain⟨l,t,z,j,x,y⟩:=Za p f (zA4.1 c _ (zB7 (by omega))) r s (T.st m _ d);refine⟨λi=>if i<=m then b i else l,λi h=> ?_,λi h=> ?_⟩
    · by_cases e:i<=m
      · simp only[e,if_true];exact o i e
      · have:i=m+1:=by omega
        subst this;simp only[e,if_false];exact⟨t,z,x,by rw[T.up m _ d];exact y⟩
    · by_cases e:i+1<=m
      · simp only[e,show i<=m by omega,if_true];exact v i (by omega)
      · have:i=m:=by omega
        subst this;simp only[e,zAd,if_true,if_false];exact j
theorem Sp {a:Nat->GH} {m:Nat} (b:∀i,i<m->(a i).n<=(a (i+1)).n) {i:Nat}:∀{j:Nat},i<=j->j<=m->(a i).n<=(a j).n
  | 0, h, _ => by
      have : i = 0 := by omega
      subst this;exact zAd _
  | j + 1, h, hj => by
    by_cases e:i=j+1
    · subst e;exact zAd _
    · exact zB0 (Sp b (by omega) (by omega)) (b j (by omega))
theorem MN {w:CH} {all:List Oper} {S:Nat->GF} {u:Nat->GH} {n:Nat->GV} (T:Trc tb w all all S u n) {t:Nat} {g:GV}:∀k,k<=all.length->Hb (S k) t=some g->
  (∃i o,i<k∧all[i]? = some o∧o.dst=some t∧n i=g∧∀j a,i<j->j<k->all[j]? = some a->a.dst≠some t)∨((∀j a,j<k->all[j]? = some a->a.dst≠some t)∧Hb (S 0) t=some g)
 |0,_,h=> .inr ⟨λj a s=>by omega,h⟩
 | k + 1, hk, h => by
  have c:all[k]? = some all[k]:=zA0 (by omega);rw[T.up k _ c]at h;have m:all[k].dst≠some t->Hb (S k) t=some g->_:=λl h=>
   match MN T k (by omega) h with
   | .inl ⟨i, o, q, p, h3, h4, h5⟩ => (.inl ⟨i, o, by omega, p, h3, h4, λj a r s b => by
     by_cases e:j=k
     ·subst e;rw[c]at b;cases b;exact l
     ·exact h5 j a r (by omega) b⟩:(∃i o,i<k+1∧all[i]? = some o∧o.dst=some t∧n i=g∧∀j a,i<j->j<k+1->all[j]? = some a->a.dst≠some t)∨((∀j a,j<k+1->all[j]? = some a->a.dst≠some t)∧Hb (S 0) t=some g))
   | .inr ⟨q, p⟩ => .inr ⟨λj a s b => by
     by_cases e:j=k
     ·subst e;rw[c]at b;cases b;exact l
     ·exact q j a (by omega) b,p⟩
  cases f:all[k].dst with
  |none=>
   rw[f]at h;exact m (by rw[f];simp) h
  | some d =>
   rw[f]at h;have h:Hb ((d,n k)::S k) t=some g:=h;rw[CE]at h;by_cases e:t=d
   ·subst e;rw[if_pos Z]at h;cases h;exact .inl ⟨k,_,by omega,c,f,rfl,λj a q p=>by omega⟩
   ·rw[if_neg e]at h;exact m (by rw[f];intro v;cases v;exact e Z) h
def sN (o:Op):Bool:=fI o && !isFloat o
def LY (tb:TB) (x o:Op):Bool:=pureOp tb x||pureOp tb o||isFloat o||(!fI x && !fI o)||(pH x&&fI o)||(fI x&&pH o)
def chkF (tb:TB) (l:List Oper) (m:List Nat):Bool:=
 (List.range l.length).all λi=>match l[i]? with
  |none=>false
  |some o=>
   (wD o).all (λe=>Nat.blt e i&&before m i e&&(List.range i).all (λk=> !before m e k||before m i k)) &&
   (List.range l.length).all (λk=> !before m i k||(Nat.blt k i&&(wD o).any (λe=>Nat.beq e k||before m e k))) &&
   !Ef o.op &&
   (List.range i).all (λx=>before m i x||(match l[x]? with|none=>false|some a=>a.apart l.toArray o&&LY tb a.op o.op))
structure XC (tb:TB) (l:List Oper) (m:List Nat):Prop where
 edge:∀(i:Nat) (o:Oper),l[i]? = some o->∀e∈wD o,e<i∧before m i e=true
 trans:∀(i:Nat) (o:Oper),l[i]? = some o->∀k,before m i k=true->k<l.length->k<i∧∃e∈wD o,e=k∨before m e k=true
 ind:∀(i x:Nat) (oi ox:Oper),l[i]? = some oi->l[x]? = some ox->x<i->before m i x=false->ox.apart l.toArray oi=true∧LY tb ox.op oi.op=true
theorem Js {l:List Oper} {m:List Nat} (h:chkF tb l m=true):XC tb l m:=by
 have b:∀(i:Nat) (o:Oper),l[i]? = some o->
   ((wD o).all (λe=>Nat.blt e i&&before m i e&&(List.range i).all (λk=> !before m e k||before m i k))=true)∧
   ((List.range l.length).all (λk=> !before m i k||(Nat.blt k i&&(wD o).any (λe=>Nat.beq e k||before m e k)))=true)∧Ef o.op=false∧
   ((List.range i).all (λx=>before m i x||(match l[x]? with|none=>false|some g=>g.apart l.toArray o&&LY tb g.op o.op))=true):=by
  intro i o c;have:=zA4.1 h i (zAn.2 (bL c));simp only[c,zA1,Bool.not_eq_true']at this;exact⟨this.1.1.1,this.1.1.2,this.1.2,this.2⟩
 refine⟨?_,?_,?_⟩
 ·intro i o c e f;have:=zA4.1 (b i o c).1 e f;simp only[zA1,zAw]at this;exact⟨this.1.1,this.1.2⟩
 ·intro i o c k q a;have:=zA4.1 (b i o c).2.1 k (zAn.2 a);simp only[q,Bool.not_true,Bool.false_or,zA1,zAw,List.any_eq_true,zAu]at this;obtain⟨j,e,f,d⟩:=this;refine⟨j,e,f,?_⟩
  rcases d with d|d
  ·exact .inl (zA3 d)
  ·exact .inr d
 ·intro i x s g p r a n;have:=(b i s p).2.2.2;have:=zA4.1 this x (zAn.2 a);simp only[n,Bool.false_or,r,zA1]at this;exact this
theorem Oa {X:CH} (I:fV P tb) {all:List Oper} {n:Nat} {o:Oper} {z:GF} {H f:GH} {g:GV} {y:fC} {a:Act} (S:isFloat o.op=true) (F:lY y n z a) (h:Ha tb X all o z H=some (g,f)):
  (Region.wanted o (yielded all.toArray a.tmps)=false∧g = .un∧f=H)∨
  (Region.wanted o (yielded all.toArray a.tmps)=true∧∃k i u,f=H.new (.cells k)∧Wm y k i∧k.length=i.size∧∀w:World,∃V,(execOp a.eval o).run P w = .ok (.value V) (w.alloc (.cells i u))∧∀c:fC,c H.n=some ⟨w.heap.size,0,i.size,.cells i u,.cells k⟩->Rl c g V):=by
 rcases GG F h with⟨U,b⟩|h
 ·refine .inr ⟨U,?_⟩;obtain⟨d,op,ty,aa,L,gd⟩:=o;cases op with
  |buildSlice T m D=>
   obtain⟨vs,C,b⟩:=aF.1 (show ob (wO z D.toList) _=some (g,f)from b);obtain⟨E,q,b,s⟩:=oJ b;cases s;obtain⟨k,i,u,Y,sz,A,h2,M,N,O⟩:=Sw (P:=P) I (Ee F C) b;refine⟨k,i,u,A,M,N,λw=> ?_⟩
   obtain⟨V,t,B⟩:=O w;refine⟨V,?_,B⟩
   have e:(D.toList.map λp=>(p.1,a.eval p.2)).toArray=D.map λp=>(p.1,a.eval p.2):=by apply Array.toList_inj.1;simp
   rw[e]at t;simp[execOp,t]
  |alloc T=>
   obtain⟨E,q,b,s⟩:=oJ (show mS (Av tb T H) KV=some (g,f)from b);cases s;obtain⟨K,W,b⟩:=aF.1 (show ob (DV tb T) _=some (g,f)from b);rw[jR]at b;cases b;obtain⟨d,hd,Q,G⟩:=zC (ρ:=y) I W;refine⟨K,d.zero.cells,T,rfl,G,by have:=G.r.len;simpa using this,λw=>⟨_,?_,λc j=> .ptr (l:=⟨w.heap.size,0,d.zero.cells.size,.cells d.zero.cells T,.cells K⟩) 0 j⟩⟩
   simp[execOp,JJ w Q]
  |box T x=>
   obtain⟨v,B,b⟩:=aF.1 (show ob (lA z x) (λv=>mS (Qp v H) KV)=some (g,f)from b);obtain⟨E,q,b,s⟩:=oJ b;cases s;obtain⟨J,R,b⟩:=aF.1 (show ob v.cells _=some (g,f)from b);rw[jR]at b;cases b;obtain⟨vs,e,t,A⟩:=(dG F B).cells R;refine⟨J,(a.eval x).cells,T,rfl,by rw[e];exact⟨t,A⟩,by rw[e];have:=t.len;simpa using this,λw=>⟨_,?_,λc j=> .ptr (l:=⟨w.heap.size,0,(a.eval x).cells.size,.cells (a.eval x).cells T,.cells J⟩) 0 j⟩⟩
   simp[execOp,Instr.box,newVar,newRow]
  |_=>cases S
 ·exact .inl h
end
def Ig (b a:fC):fC:=λh=>match b h with
 |some l=>some l
 |none=>a h
theorem zP {a b:fC} {h:Nat} {l:NJ} (e:a h=some l):Ig a b h=some l:=by simp[Ig,e]
theorem zO {b a:fC} {h:Nat} (e:b h=none):Ig b a h=a h:=by simp[Ig,e]
theorem ID {a b:fC}:a.le (Ig a b):=λ_ _ e=>zP e
def SlD (all:List Oper) (b:GF) (c:Nat->GV) (D:Nat->Bool) (t:Nat) (g:GV):Prop:=
 (∃i o,D i=true∧all[i]? = some o∧o.dst=some t∧c i=g∧∀j a,D j=true->all[j]? = some a->a.dst=some t->j<=i)∨((∀j a,D j=true->all[j]? = some a->a.dst≠some t)∧Hb b t=some g)
def ins (D:Nat->Bool) (k:Nat):Nat->Bool:=λj=>j==k||D j
theorem CG (D:Nat->Bool) (k:Nat):ins D k k=true:=by simp[ins]
theorem BV {D:Nat->Bool} {k j:Nat} (h:j≠k):ins D k j=D j:=by simp[ins,h]
theorem CF {D:Nat->Bool} {k j:Nat} (h:D j=true):ins D k j=true:=by simp[ins,h]
noncomputable def Fi (σ:GF) (L:lW):GF:=L.filterMap λt=>(Hb σ t).map λg=>(t,g)
theorem Ed {σ:GF} {t:Nat}:∀{L:lW},Hb (Fi σ L) t=if t∈L then Hb σ t else none
 | []=>rfl
 | x :: L => by
  have c:=Ed (σ:=σ) (t:=t) (L:=L);cases b:Hb σ x with
  |none=>
   have e:Fi σ (x::L)=Fi σ L:=by simp[Fi,b]
   rw[e,c];by_cases a:t=x
   ·subst a;simp[b]
   ·simp[a]
  |some g=>
   have e:Fi σ (x::L)=(x,g)::Fi σ L:=by simp[Fi,b]
   rw[e,CE,c];by_cases a:t=x
   ·subst a;simp[b]
   ·simp[a]
section
variable {P:Program} {tb:TB} {gs:BA} {w0:fQ gs} {ih:CH} {all:List Oper} {n:Nat} {S:Nat->GF} {HH:Nat->GH} {gg:Nat->GV}
structure yP (P:Program) (tb:TB) {gs:BA} (w0:fQ gs) (ih:CH) (all:List Oper) (n:Nat) (S:Nat->GF) (HH:Nat->GH) (gg:Nat->GV):Prop where
 tab:fV P tb
 call:∀w0:fQ gs,tW P w0 ih
 ops:all.all (JF n)=true
 chk:XC tb all (qJ all)
 trc:Trc tb ih all all S HH gg
 vrs:∀k ok h v,all[k]? = some ok->pH ok.op=true->ldH (S k) ok.op=some h->(HH k).ver h=some v->
  (∀j oj,j<k->all[j]? = some oj->fI oj.op=true->before (qJ all) k j=false->(HH j).ver h=some v)∧(∀j oj,k<j->all[j]? = some oj->fI oj.op=true->before (qJ all) j k=false->(HH (j+1)).ver h=some v)
 chain:∃ρs:Nat->fC,(∀i,i<=all.length->∃a w,gH w0 (ρs i) (HH i) w∧lY (ρs i) n (S i) a)∧∀i,i<all.length->(ρs i).le (ρs (i+1))
theorem yP.ghost (E:yP P tb w0 ih all n S HH gg) (i:Nat) (c:i<=all.length):∃b a w,gH w0 b (HH i) w∧lY b n (S i) a:=
 let ⟨ρs,h,_⟩:=E.chain
 ⟨ρs i,h i c⟩
theorem yP.mono (E:yP P tb w0 ih all n S HH gg) (i:Nat) (a:i<all.length):(HH i).n<=(HH (i+1)).n:=by
 obtain⟨e,h,b⟩:=E.chain;obtain⟨_,_,c,_⟩:=h i (Nat.le_of_lt a);obtain⟨_,_,d,_⟩:=h (i+1) a;exact c.mono d (b i a)
theorem Rf {a:Nat->fC} {m:Nat} (h:∀i,i<m->(a i).le (a (i+1))) {i:Nat}:∀{j:Nat},i<=j->j<=m->(a i).le (a j)
  | 0, h1, _ => by
      have : i = 0 := by omega
      subst this;exact fC.le_refl _
  | j + 1, h1, hj => by
    by_cases e:i=j+1
    · subst e;exact fC.le_refl _
    · exact fC.le_trans (Rf h (by omega) (by omega)) (h j (by omega))
theorem yP.same (E:yP P tb w0 ih all n S HH gg) {i j:Nat} (b:i<=j) (u:j<=all.length) {h v:Nat} (q:(HH i).ver h=some v) (r:(HH j).ver h=some v):(HH i).get h=(HH j).get h:=by
 obtain⟨J,s,e⟩:=E.chain;have A:=Rf e b u;obtain⟨_,K,l,_⟩:=s i (by omega);obtain⟨_,L,m,_⟩:=s j u;have a:∀{k:Nat},(HH k).ver h=some v->∃o,(HH k).get h=some o:=λ{k} hv=>by
  obtain⟨p,B,_⟩:=aF.1 (show ob ((HH k).t.get h) _=some v from hv);exact⟨p.2,by unfold GH.get;rw[B];rfl⟩
 obtain⟨H,f⟩:=a q;obtain⟨I,g⟩:=a r;obtain⟨C,c,_⟩:=l.live h H f;obtain⟨D,d,_⟩:=m.live h I g;obtain⟨F,w,_,y⟩:=l.vers h v C q c;obtain⟨G,x,_,z⟩:=m.vers h v D r d;have:=A _ _ w;rw[x]at this;cases this;rw[y,z]
theorem yP.op (E:yP P tb w0 ih all n S HH gg) {k:Nat} {o:Oper} (a:all[k]? = some o):JF n o=true:=zA4.1 E.ops o (zAq a)
theorem yP.quiet (E:yP P tb w0 ih all n S HH gg) {k:Nat} {o:Oper} (b:all[k]? = some o) (c:fI o.op=false):HH (k+1)=HH k:=by
 obtain⟨e,a,w,R,F⟩:=E.ghost k (Nat.le_of_lt (bL b));rcases KM E.tab (E.call w0) (E.op b) F R (E.trc.st k o b)with⟨_,d⟩|⟨_,_,h⟩
 ·rcases d with⟨_,_,_,h,_⟩|⟨_,_,h,_⟩|⟨_,_,h,_⟩|⟨h,_⟩
  ·exact h
  ·exact h
  ·exact h
  ·rw[c]at h;cases h
 ·exact h
theorem yP.floats (E:yP P tb w0 ih all n S HH gg) {k:Nat} {o:Oper} (c:all[k]? = some o) (d:isFloat o.op=true):HH (k+1)=HH k∨∃b,HH (k+1)=(HH k).new (.cells b):=by
 obtain⟨e,a,w,R,F⟩:=E.ghost k (Nat.le_of_lt (bL c));rcases Oa (P:=P) E.tab d F (E.trc.st k o c)with⟨_,_,h⟩|⟨_,b,_,_,h,_⟩
 ·exact .inl h
 ·exact .inr ⟨b,h⟩
theorem ZK {H:GH} {o:GO} (h:H=H.new o):False:=by
 have:H.n=H.n+1:=congrArg GH.n h;omega
theorem Xc {H:GH} {c a:List GV} (h:H.new (.cells c)=H.new (.cells a)):c=a:=by
 have b:=rY H (.cells c) H.n;have d:=rY H (.cells a) H.n;rw[if_pos Z]at b d;rw[h,d]at b;cases b;rfl
theorem yP.mono' (E:yP P tb w0 ih all n S HH gg) {i j:Nat} (h:i<=j) (a:j<=all.length):(HH i).n<=(HH j).n:=Sp E.mono h a
theorem yP.apart (E:yP P tb w0 ih all n S HH gg) {i j:Nat} {b c:List GV} (k:i<all.length) (l:j<all.length) (d:HH (i+1)=(HH i).new (.cells b)) (f:HH (j+1)=(HH j).new (.cells c)) (h:(HH i).n=(HH j).n):i=j:=by
 have e:(HH (i+1)).n=(HH i).n+1:=by rw[d];rfl
 have g:(HH (j+1)).n=(HH j).n+1:=by rw[f];rfl
 rcases zB1 i j with a|a|a
 ·have:=E.mono' (i:=i+1) (j:=j) (by omega) (by omega);omega
 ·exact a
 ·have:=E.mono' (i:=j+1) (j:=i) (by omega) (by omega);omega
structure zD {gs:BA} (w0:fQ gs) (ρb:fC) (n:Nat) (all:List Oper) (S0:GF) (HH:Nat->GH) (gg:Nat->GV) (D:Nat->Bool) (a:Act) (w:World) (t:Nat) (ρ pm:fC):Prop where
 tm:t<=all.length
 lou:∀j o,all[j]? = some o->sN o.op=true->(D j=true↔j<t)
 flo:∀j o,all[j]? = some o->isFloat o.op=true->j<t->D j=true
 rel:gH w0 ρ (HH t) w
 up:ρb.le ρ
 defers:a.defers=[]
 size:a.tmps.size=n
 slot:∀s g,SlD all S0 gg D s g->Rl (Ig ρ pm) g (a.eval (.tmp s))
 pend:∀i o cs,all[i]? = some o->isFloat o.op=true->HH (i+1)=(HH i).new (.cells cs)->t<=i->D i=true->∃l,pm (HH i).n=some l∧w0.mine l.b∧¬XF ρ (HH t) l.b∧w.heap[l.b]? = some l.x∧Az (Ig ρ pm) w l (.cells cs)∧l.o = .cells cs
 only:∀h l,pm h=some l->∃i o cs,all[i]? = some o∧isFloat o.op=true∧HH (i+1)=(HH i).new (.cells cs)∧t<=i∧D i=true∧h=(HH i).n
 inj:∀h h' l l',pm h=some l->pm h'=some l'->l.b=l'.b->h=h'
variable {D:Nat->Bool} {a:Act} {w:World} {t:Nat} {ρ pm ρb:fC}
theorem zD.low (E:yP P tb w0 ih all n S HH gg) (I:zD w0 ρb n all (S 0) HH gg D a w t ρ pm) {h:Nat} {l:NJ} (d:pm h=some l):(HH t).n<=h:=by
 obtain⟨i,o,e,b,_,_,c,_,rfl⟩:=I.only h l d;exact E.mono' c (Nat.le_of_lt (bL b))
theorem zD.adopt (E:yP P tb w0 ih all n S HH gg) (I:zD w0 ρb n all (S 0) HH gg D a w t ρ pm) {o:Oper} (Y:all[t]? = some o) (hl:sN o.op=false) (hf:isFloat o.op=true->D t=true):
  ∃c b,zD w0 ρb n all (S 0) HH gg D a w (t+1) c b∧Ig c b=Ig ρ pm:=by
 have ht:=bL Y;have G:∀j o,all[j]? = some o->sN o.op=true->(D j=true↔j<t+1):=λj oj N Q=>by
  have q:j≠t:=λe=>by subst e;rw[Y]at N;cases N;rw[hl]at Q;cases Q
  rw[I.lou j oj N Q];omega
 have C:∀j o,all[j]? = some o->isFloat o.op=true->j<t+1->D j=true:=λj oj N ab ah=>by
  by_cases e:j=t
  ·subst e;rw[Y]at N;cases N;exact hf ab
  ·exact I.flo j oj N ab (by omega)
 -- nothing is taken up
 have H:HH (t+1)=HH t->∃c b,zD w0 ρb n all (S 0) HH gg D a w (t+1) c b∧Ig c b=Ig ρ pm:=λe=>
  ⟨ρ,pm,⟨ht,G,C,by rw[e];exact I.rel,I.up,I.defers,I.size,I.slot,λi W B f r y h4 K=>by rw[e];exact I.pend i W B f r y (by omega) K,λh l hp=>by
   obtain⟨i,W,B,f,r,y,h4,K,h6⟩:=I.only h l hp;refine⟨i,W,B,f,r,y,?_,K,h6⟩
   by_cases e':i=t
   ·subst e';rw[e]at y;exact(ZK y).elim
   ·omega,I.inj⟩,rfl⟩
 cases z:isFloat o.op with
 |false=>exact H (E.quiet Y (by simpa [sN,z]using hl))
 | true =>
  rcases E.floats Y z with e|⟨B,e⟩
  ·exact H e
  obtain⟨l,hp,U,M,hx,ad,ag⟩:=I.pend t o B Y z e (zAd _) (hf z);have m:ρ (HH t).n=none:=I.rel.fresh _ (zAd _);let c:=ρ.upd (HH t).n l;let b:fC:=λh=>if h=(HH t).n then none else pm h;have k:c (HH t).n=some l:=by simp[c,fC.upd]
  have u:∀h,h≠(HH t).n->c h=ρ h:=λh hh=>by simp[c,fC.upd,hh]
  have O:Ig c b=Ig ρ pm:=by
   funext h;by_cases d:h=(HH t).n
   ·subst d;rw[zP k,zO m,hp]
   ·unfold Ig;rw[u h d];simp[b,d]
  have hn:(HH (t+1)).n=(HH t).n+1:=by rw[e];rfl
  -- what the object holds is older
  have aa:∀{g:GV} {v v0:Value} {x:fC},(∀h l,x h=some l->h<(HH (t+1)).n)->Rl (Ig ρ pm) g v->Rl x g v0->Rl c g v:=λ{g v v0 x} hlow f h0=>by
   refine X_ (λh l0 l1 e0 X=> ?_) f h0;have ah:=hlow h l0 e0;by_cases d:h=(HH t).n
   ·subst d;rw[zO m,hp]at X;rw[k];exact X
   ·rw[u h d];cases hr:ρ h with
    |some l2=>rw[zP hr]at X;exact X
    |none=>
     rw[zO hr]at X;have:=I.low E X;omega
  obtain⟨x,a0,wg,R0,F0⟩:=E.ghost (t+1) ht;have R:∀h l,x h=some l->h<(HH (t+1)).n:=λh l hl=>by
   rcases zAm h (HH (t+1)).n with J|J
   ·exact J
   ·rw[R0.fresh h J]at hl;cases hl
  have L:(HH (t+1)).get (HH t).n=some (.cells B):=by rw[e,rY,if_pos Z]
  obtain⟨l0,_,_,ac⟩:=R0.live _ _ L;obtain⟨ai,T0,q1,q2,q3,q4⟩:=ac;have V:Az c w l (.cells B):=by
   obtain⟨ae,T,p1,p2,p3,p4⟩:=ad;refine⟨ae,T,p1,p2,p3,λi g F=> ?_⟩
   obtain⟨v,r1,r2,r3⟩:=p4 i g F;obtain⟨v0,_,s2,_⟩:=q4 i g F;exact⟨v,r1,aa R r2 s2,r3⟩
  obtain⟨af,R'⟩:=I.rel.new (o:= .cells B) (l:=l) I.rel.ext (λh o' l' F p=>⟨rfl,λeb=>M ⟨h,o',l',F,p,eb⟩⟩) U V hx ag;rw[<-e]at R';refine⟨c,b,⟨ht,G,C,R',fC.le_trans I.up af,I.defers,I.size,λs g hs=>by rw[O];exact I.slot s g hs,λi W ci f r y h4 K=> ?_,λh l1 A=> ?_,λh J l1 l2 f r hb=> ?_⟩,O⟩
  ·obtain⟨li,a1,a2,a3,a4,a5,a6⟩:=I.pend i W ci f r y (by omega) K;have q:(HH i).n≠(HH t).n:=λd=>by
    have:=E.apart (bL f) ht y e d;omega
   refine⟨li,by simp[b,q,a1],a2,?_,a4,by rw[O];exact a5,a6⟩
   rintro⟨h,o',l',F,p,eb⟩;rw[e,rY]at F;by_cases d:h=(HH t).n
   ·subst d;rw[k]at p;cases p;exact q (I.inj _ _ _ _ a1 hp eb.symm)
   ·rw[if_neg d]at F;rw[u h d]at p;exact a3 ⟨h,o',l',F,p,eb⟩
  ·have q:h≠(HH t).n:=λd=>by subst d;simp[b]at A
   have A:pm h=some l1:=by simpa [b,q]using A
   obtain⟨i,W,ci,f,r,y,h4,K,h6⟩:=I.only h l1 A;refine⟨i,W,ci,f,r,y,?_,K,h6⟩
   by_cases e':i=t
   ·subst e';exact absurd h6 q
   ·omega
  ·have f:pm h=some l1:=by
    by_cases d:h=(HH t).n
    ·simp[b,d]at f
    ·simpa [b,d]using f
   have r:pm J=some l2:=by
    by_cases d:J=(HH t).n
    ·simp[b,d]at r
    ·simpa [b,d]using r
   exact I.inj h J l1 l2 f r hb
theorem zD.adoptTo (E:yP P tb w0 ih all n S HH gg):∀(d t k:Nat) (ρ pm:fC),zD w0 ρb n all (S 0) HH gg D a w t ρ pm->t+d=k->k<=all.length->(∀j o,t<=j->j<k->all[j]? = some o->sN o.op=false∧(isFloat o.op=true->D j=true))->
  ∃c b,zD w0 ρb n all (S 0) HH gg D a w k c b∧Ig c b=Ig ρ pm
 |0,t,k,ρ,pm,I,hd,hk,_=>by
  have:t=k:=by omega
  subst this;exact⟨ρ,pm,I,rfl⟩
 |d+1,t,k,ρ,pm,I,hd,hk,h=>by
  have p:all[t]? = some all[t]:=zA0 (by omega);obtain⟨m,e⟩:=h t _ (zAd _) (by omega) p;obtain⟨i,f,q,s⟩:=I.adopt E p m e;obtain⟨l,g,r,u⟩:=zD.adoptTo E d (t+1) k i f q (by omega) hk (λj o m e=>h j o (by omega) e);exact⟨l,g,r,by rw[u,s]⟩
def Cl (all:List Oper) (D:Nat->Bool):Prop:=∀j k,D j=true->before (qJ all) j k=true->k<all.length->D k=true
structure Ti (all:List Oper) (D:Nat->Bool) (k:Nat) (o:Oper):Prop where
 get:all[k]? = some o
 undone:D k=false
 past:∀j,before (qJ all) k j=true->j<all.length->D j=true
theorem Ti.behind (C:XC tb all (qJ all)) (c:Cl all D) {k:Nat} {o:Oper} (e:Ti all D k o) {j:Nat} {b:Oper} (h:all[j]? = some b) (g:D j=true) (d:k<j):o.apart all.toArray b=true∧LY tb o.op b.op=true:=by
 cases f:before (qJ all) j k with
 |false=>exact C.ind j k b o h e.get d f
 |true=>
  have:=c j k g f (bL e.get);rw[e.undone]at this;cases this
theorem Ti.ahead (C:XC tb all (qJ all)) {k:Nat} {o:Oper} (f:Ti all D k o) {j:Nat} {b:Oper} (e:all[j]? = some b) (c:j<k):D j=true∨b.apart all.toArray o=true∧LY tb b.op o.op=true:=by
 cases d:before (qJ all) k j with
 |true=>exact .inl (f.past j d (bL e))
 |false=>exact .inr (C.ind k j o b f.get e c d)
theorem Ti.look (E:yP P tb w0 ih all n S HH gg) (q:Cl all D) {k:Nat} {o:Oper} (p:Ti all D k o) {s:Nat} {g:GV} (u:s∈o.looksAt all.toArray) (y:Hb (S k) s=some g):SlD all (S 0) gg D s g:=by
 have b:∀j c,D j=true->all[j]? = some c->c.dst=some s->j<k:=λj c d f e=>by
  rcases zB1 j k with h|h|h
  ·exact h
  ·subst h;rw[p.undone]at d;cases d
  ·obtain⟨l,_⟩:=p.behind E.chk q f d h;exact absurd u ((Oper.apart_spec l).2.2 s e)
 rcases MN E.trc k (Nat.le_of_lt (bL p.get)) y with⟨i,z,l,m,r,v,x⟩|⟨l,m⟩
 ·refine .inl ⟨i,z,?_,m,r,v,λj c d f e=> ?_⟩
  ·rcases p.ahead E.chk m l with h|⟨h,_⟩
   ·exact h
   ·exact absurd u ((Oper.apart_spec h).1 s r)
  ·have:=b j c d f e;rcases zAm i j with h|h
   ·exact absurd e (x j c h this f)
   ·exact h
 ·exact .inr ⟨λj c d f e=>l j c (b j c d f e) f e,m⟩
theorem Ti.slot (C:XC tb all (qJ all)) (F:Cl all D) {K:GF} {k:Nat} {o:Oper} (y:Ti all D k o) (x:∀d,o.dst=some d->d<n) (I:a.tmps.size=n) {z u:fC} (G:z.le u) (q:∀s g,SlD all K gg D s g->Rl z g (a.eval (.tmp s))) {v:Value} (Q:Rl u (gg k) v):
  ∀s g,SlD all K gg (ins D k) s g->Rl u g ((a.put o.dst v).eval (.tmp s)):=λs g L=>by
 have c:∀j r,D j=true->all[j]? = some r->o.dst=some s->r.dst=some s->j<k:=λj r m O f p=>by
  rcases zB1 j k with h|h|h
  ·exact h
  ·subst h;rw[y.undone]at m;cases m
  ·obtain⟨b,_⟩:=y.behind C F O m h;exact absurd p ((Oper.apart_spec b).2.1 s f)
 by_cases f:o.dst=some s
 ·have N:gg k=g:=by
   rcases L with⟨i,J,b,l,A,B,E⟩|⟨b,_⟩
   ·have R:=E k o (CG D k) y.get f;by_cases e:i=k
    ·subst e;exact B
    ·rw[BV e]at b;have:=c i J b l f A;omega
   ·exact absurd f (b k o (CG D k) y.get)
  rw[f,<-N];have H:=x s f;have:(a.put (some s) v).eval (.tmp s)=v:=by simp[Act.put,Act.eval,I,H]
  rw[this];exact Q
 ·have M:(a.put o.dst v).eval (.tmp s)=a.eval (.tmp s):=Act.eval_put λd p e=>by cases e;exact f p
  rw[M];refine(q s g ?_).le G;rcases L with⟨i,J,b,l,A,B,E⟩|⟨b,l⟩
  ·have e:i≠k:=λe=>by subst e;rw[y.get]at l;cases l;exact f A
   rw[BV e]at b;exact .inl ⟨i,J,b,l,A,B,λj r m=>E j r (CF m)⟩
  ·exact .inr ⟨λj r m=>b j r (CF m),l⟩
theorem GX (a:Act) (d:Option Tmp) (v:Value):(a.put d v).defers=a.defers∧(a.put d v).tmps.size=a.tmps.size:=by
 cases d with
 |none=>exact⟨rfl,rfl⟩
 |some d=>exact⟨rfl,by simp[Act.put]⟩
theorem zD.plain (E:yP P tb w0 ih all n S HH gg) (u:Cl all D) (I:zD w0 ρb n all (S 0) HH gg D a w t ρ pm) {k:Nat} {o:Oper} (q:Ti all D k o) (F:sN o.op=false) (C:isFloat o.op=true->HH (k+1)=HH k) {v:Value} (H:Rl (Ig ρ pm) (gg k) v):
  zD w0 ρb n all (S 0) HH gg (ins D k) (a.put o.dst v) w t ρ pm:=by
 obtain⟨_,f,_⟩:=vT (E.op q.get);obtain⟨J,K⟩:=GX a o.dst v;refine⟨I.tm,λj A g b=> ?_,λj A g x y=>CF (I.flo j A g x y),I.rel,I.up,by rw[J];exact I.defers,by rw[K];exact I.size,q.slot E.chk u f I.size (fC.le_refl _) I.slot H,λi z r c m d s p=> ?_,λh l G=> ?_,I.inj⟩
 ·have e:j≠k:=λe=>by subst e;rw[q.get]at g;cases g;rw[F]at b;cases b
  rw[BV e];exact I.lou j A g b
 ·have e:i≠k:=λe=>by
   subst e;rw[q.get]at c;cases c;rw[C m]at d;exact ZK d
  rw[BV e]at p;exact I.pend i z r c m d s p
 ·obtain⟨i,z,r,c,m,d,s,p,B⟩:=I.only h l G;exact⟨i,z,r,c,m,d,s,CF p,B⟩
def OO (all:List Oper) (D:Nat->Bool) (t:Nat):Prop:=t=0∨∃o,all[t - 1]? = some o∧sN o.op=true∧D (t - 1)=true
theorem OO.ins {k:Nat} (h:OO all D t):OO all (ins D k) t:=by
 rcases h with h|⟨o,b,c,d⟩
 ·exact .inl h
 ·exact .inr ⟨o,b,c,CF d⟩
theorem GW {o:Op} (h:pureOp tb o=true):fI o=false:=by
 unfold pureOp at h;split at h<;>first|rfl|cases h
theorem HQ {o:Op} (h:isFloat o=true):fI o=true:=by
 unfold isFloat at h;split at h<;>first|rfl|cases h
theorem LK {o:Op} (h:isFloat o=true):pureOp tb o=false:=by
 cases b:pureOp tb o with
 |false=>rfl
 |true=>have:=GW b;rw[HQ h]at this;cases this
theorem zD.reach (E:yP P tb w0 ih all n S HH gg) (u:Cl all D) (I:zD w0 ρb n all (S 0) HH gg D a w t ρ pm) (i:OO all D t) {k:Nat} {o:Oper} (r:Ti all D k o) (z:pureOp tb o.op=false) (B:isFloat o.op=false) (m:pH o.op=false):
  ∃q p,zD w0 ρb n all (S 0) HH gg D a w k q p∧Ig q p=Ig ρ pm:=by
 have F:=bL r.get;have C:t<=k:=by
  rcases i with h|⟨d,x,f,s⟩
  ·omega
  ·rcases zAm (t - 1) k with h|h
   ·omega
   ·exfalso;by_cases e:t - 1=k
    ·rw[e,r.undone]at s;cases s
    ·obtain⟨_,A⟩:=r.behind E.chk u x s (by omega);simp only[sN,zA1,Bool.not_eq_true']at f;have:pureOp tb d.op=false:=by
      cases v:pureOp tb d.op with
      |false=>rfl
      |true=>have:=GW v;rw[f.1]at this;cases this
     have c:pH d.op=false:=by
      cases v:pH d.op with
      |false=>rfl
      |true=>rw[CI v]at f;cases f.1
     simp[LY,z,this,f.1,f.2,m,c]at A
 refine I.adoptTo E (k - t) t k ρ pm (by omega) (by omega) λj d x f y=> ?_;have g:D j=true∨fI d.op=false∨pureOp tb d.op=true:=by
  rcases r.ahead E.chk y f with h|⟨_,h⟩
  ·exact .inl h
  ·simp only[LY,z,B,m,Bool.or_false,Bool.and_false,zAu,zA1,Bool.not_eq_true']at h;rcases h with(h|h)|h
   ·exact .inr (.inr h)
   ·exact .inr (.inl h.1)
   ·exact .inr (.inl (CI h.1))
 refine⟨?_,λl=> ?_⟩
 ·cases c:sN d.op with
  |false=>rfl
  |true=>
   exfalso;have b:=c;simp only[sN,zA1,Bool.not_eq_true']at b;rcases g with h|h|h
   ·have:=(I.lou j d y c).1 h;omega
   ·rw[b.1]at h;cases h
   ·have:=GW h;rw[b.1]at this;cases this
 ·rcases g with h|h|h
  ·exact h
  ·rw[HQ l]at h;cases h
  ·rw[LK l]at h;cases h
theorem zD.frame (E:yP P tb w0 ih all n S HH gg) (c:Cl all D) (I:zD w0 ρb n all (S 0) HH gg D a w t ρ pm) {k:Nat} {o:Oper} (e:Ti all D k o):lY (Ig ρ pm) n (Fi (S k) (o.looksAt all.toArray)) a:=
 ⟨I.defers,I.size,λs g b=>by
  rw[Ed]at b;by_cases d:s∈o.looksAt all.toArray
  ·rw[if_pos d]at b;exact I.slot s g (e.look E c d b)
  ·rw[if_neg d]at b;cases b⟩
theorem zD.frame' (E:yP P tb w0 ih all n S HH gg) (e:Cl all D) {k:Nat} (I:zD w0 ρb n all (S 0) HH gg D a w k ρ pm) {o:Oper} (i:Ti all D k o):lY ρ n (Fi (S k) (o.looksAt all.toArray)) a:=by
 have F:=I.frame E e i;obtain⟨u,v,z,p,m⟩:=E.ghost k (Nat.le_of_lt (bL i.get));refine⟨F.defers,F.size,λs g b=> ?_⟩
 have q:=F.slot s g b;rw[Ed]at b;by_cases j:s∈o.looksAt all.toArray
 ·rw[if_pos j]at b;refine X_ (λh x l f d=> ?_) q (m.slot s g b);cases c:ρ h with
  |some y=>rw[zP c]at d;exact d
  |none=>
   rw[zO c]at d;have r:=I.low E d;rw[p.fresh h r]at f;cases f
 ·rw[if_neg j]at b;cases b
theorem yP.st (E:yP P tb w0 ih all n S HH gg) {k:Nat} {o:Oper} (b:all[k]? = some o):Ha tb ih all o (Fi (S k) (o.looksAt all.toArray)) (HH k)=some (gg k,HH (k+1)):=by
 rw[<-E.trc.st k o b];exact TJ λs c=>by rw[Ed,if_pos c]
theorem zD.loads (E:yP P tb w0 ih all n S HH gg) (N:Cl all D) (I:zD w0 ρb n all (S 0) HH gg D a w t ρ pm) (s:OO all D t) {k:Nat} {o:Oper} (z:Ti all D k o) (c:pH o.op=true) {h:Nat} {W:GO} (hh:ldH (S k) o.op=some h) (i:(HH k).get h=some W):
    ∃p K J,zD w0 ρb n all (S 0) HH gg D a w p K J∧Ig K J=Ig ρ pm∧(HH p).get h=some W:=by
  have hk:=bL z.get;have hq:=CI c;have ae:pureOp tb o.op=false:=by cases Q:o.op<;>rw[Q]at c<;>first|rfl|cases c
  have aa:isFloat o.op=false:=by cases Q:o.op<;>rw[Q]at c<;>first|rfl|cases c
  obtain⟨v,V⟩:∃v,(HH k).ver h=some v:=by
    obtain⟨p,hp,_⟩:=aF.1 (show Gx.ob ((HH k).t.get h) _=some W from i);exact⟨p.1,by unfold GH.ver;rw[hp];rfl⟩
  obtain⟨v1,v2⟩:=E.vrs k o h v z.get c hh V;rcases zAm k t with H|H
  · -- later than in the text
    rcases s with e|⟨b,y,B,q⟩
    · omega
    have F:=B;simp only[sN,zA1]at F;have r:before (qJ all) (t - 1) k=false:=by
      cases r:before (qJ all) (t - 1) k with
      |false=>rfl
      |true=>have:=N _ _ q r hk;rw[z.undone]at this;cases this
    have ab:t - 1≠k:=λe=>by rw[e,z.undone]at q;cases q
    have:=v2 (t - 1) b (by omega) y F.1 r;rw[show t - 1+1=t by omega]at this;exact⟨t,ρ,pm,I,rfl,by rw[<-E.same (Nat.le_of_lt H) I.tm V this];exact i⟩
  · -- earlier,or there
    let f:Nat->Oper->Bool:=λj b=>sN b.op||(isFloat b.op && !D j)
    have first:∀d g,g+d=k->t<=g->(∀j b,t<=j->j<g->all[j]? = some b->f j b=false)->∃p,t<=p∧p<=k∧(∀j b,t<=j->j<p->all[j]? = some b->f j b=false)∧(p=k∨∃A,all[p]? = some A∧f p A=true):=by
      intro d
      induction d with
      |zero=>exact λg e U h=>⟨g,U,by omega,h,.inl (by omega)⟩
      | succ d ihd =>
        intro g e U h;have m:all[g]? = some all[g]:=zA0 (by omega);cases hl:f g all[g]with
        |true=>exact⟨g,U,by omega,h,.inr ⟨_,m,hl⟩⟩
        | false =>
          refine ihd (g+1) (by omega) (by omega) λj b y B C=> ?_;by_cases e:j=g
          · subst e;rw[m]at C;cases C;exact hl
          · exact h j b y (by omega) C
    obtain⟨p,ac,ad,R,T⟩:=first (k - t) t (by omega) (zAd _) (λj b y B=>by omega)
    obtain⟨Y,X,I1,e1⟩:=I.adoptTo E (p - t) t p ρ pm (by omega) (by omega) λj b y B C=>by
      have q:=R j b y B C;simp only[f,Bool.or_eq_false_iff,Bool.and_eq_false_iff,Bool.not_eq_false']at q;exact ⟨q.1, λO => by
          rcases q.2 with L | L; · rw [O] at L; cases L
          · exact L⟩
    refine⟨p,Y,X,I1,e1,?_⟩
    rcases T with e|⟨A,l,x⟩
    · rw[e];exact i
    · simp only[f,zAu,zA1,Bool.not_eq_true']at x;have u:fI A.op=true:=by
        rcases x with h|h
        · simp only[sN,zA1]at h;exact h.1
        · exact HQ h.1
      have G:p<k:=by
        rcases zAm p k with h|h
        · exact h
        · have:p=k:=by omega
          subst this;rw[z.get]at l;cases l;rw[hq]at u;cases u
      have M:D p=false:=by
        rcases x with h|h
        · cases hd:D p with
          |false=>rfl
          |true=>have:=(I.lou p A l h).1 hd;omega
        · exact h.2
      have r:before (qJ all) k p=false:=by
        cases r:before (qJ all) k p with
        |false=>rfl
        |true=>have:=z.past p r (by omega);rw[M]at this;cases this
      rw[E.same (Nat.le_of_lt G) (Nat.le_of_lt hk) (v1 p A G l u r) V];exact i
theorem zD.step (E:yP P tb w0 ih all n S HH gg) (z:Cl all D) (I:zD w0 ρb n all (S 0) HH gg D a w t ρ pm) (m:OO all D t) {k:Nat} {o:Oper} (A:Ti all D k o) {Q:Exit->Act->World->Prop} {K:Act->World->Prop}
  (hK:∀a' w' t' aY O,zD w0 ρb n all (S 0) HH gg (ins D k) a' w' t' aY O->OO all (ins D k) t'->K a' w'):Sx.wpOp P all.toArray Q k K a w:=by
 have hk:=bL A.get;obtain⟨_,ai,aS⟩:=vT (E.op A.get);have am:=E.st A.get;unfold Sx.wpOp;simp only[List.getElem?_toArray,A.get];cases hp:pureOp tb o.op with
 | true =>
  have Y:sN o.op=false:=by simp[sN,GW hp]
  have aE:isFloat o.op=false:=by
   cases hf:isFloat o.op with
   |false=>rfl
   |true=>rw[LK hf]at hp;cases hp
  have F:=I.frame E z A;rcases GG F am with⟨N,C⟩|⟨N,C,hH⟩
  ·rw[if_pos N];have aG:Mh o.op=true:=by
    rcases aS with h|⟨c,f,y,G⟩
    ·exact h
    ·obtain⟨a8,xs,ts⟩:=c;simp only at G;rw[y,G]at hp;cases hp
   obtain⟨_,v,hv,u⟩:=Zo (P:=P) E.tab F hp aG C;left;simp only[Oper.wp,u w,Oper.upon];exact hK _ _ t ρ pm (I.plain E z A Y (λh=>by rw[aE]at h;cases h) hv) m.ins
  ·rw[if_neg (by rw[N];simp)];exact hK _ _ t ρ pm (I.plain E z A Y (λh=>by rw[aE]at h;cases h) (by rw[C];exact .un)) m.ins
 | false =>
  cases hf:isFloat o.op with
  | true =>
   have Y:sN o.op=false:=by simp[sN,hf]
   have F:=I.frame E z A;rcases Oa (P:=P) E.tab hf F am with⟨N,C,hH⟩|⟨N,cs,a',T',hH,hC,a0,u⟩
   ·rw[if_neg (by rw[N];simp)];exact hK _ _ t ρ pm (I.plain E z A Y (λ_=>hH) (by rw[C];exact .un)) m.ins
   ·rw[if_pos N];obtain⟨V,hV,aI⟩:=u w;left;simp only[Oper.wp,hV,Oper.upon];have aJ:t<=k:=by
     rcases zAm k t with h|h
     ·have:=I.flo k o A.get hf h;rw[A.undone]at this;cases this
     ·exact h
    let l:NJ:=⟨w.heap.size,0,a'.size,.cells a' T',.cells cs⟩
    have e:NF w (w.alloc (.cells a' T')):=(Below.refl _ _).alloc (zAd _) _;have aX:ρ (HH k).n=none:=I.rel.fresh _ (E.mono' aJ (by omega));have aT:pm (HH k).n=none:=by
     cases U:pm (HH k).n with
     |none=>rfl
     |some W=>
      obtain⟨i,L,R,y,G,h3,h4,h5,h6⟩:=I.only _ _ U;have:=E.apart (bL y) hk h3 hH h6.symm;subst this;rw[A.undone]at h5;cases h5
    let O:=pm.upd (HH k).n l;have M:O (HH k).n=some l:=by simp[O,fC.upd]
    have J:∀h,h≠(HH k).n->O h=pm h:=λh hh=>by simp[O,fC.upd,hh]
    have ad:(Ig ρ pm).le (Ig ρ O):=λh W y=>by
     cases H:ρ h with
     |some l2=>rw[zP H]at y;rw[zP H];exact y
     |none=>
      rw[zO H]at y;rw[zO H,J h (λeh=>by subst eh;rw[aT]at y;cases y)];exact y
    have aP:Ig ρ O (HH k).n=some l:=by rw[zO aX,M]
    obtain⟨p1,p2⟩:=GX a o.dst V;have az:∀h W,pm h=some W->W.b<w.heap.size:=λh W y=>by
     obtain⟨i,L,R,q1,q2,q3,q4,q5,rfl⟩:=I.only _ _ y;obtain⟨l2,r1,_,_,r4,_⟩:=I.pend i L R q1 q2 q3 q4 q5;rw[y]at r1;cases r1;exact(zA9.1 r4).1
    refine hK _ _ t ρ O ⟨I.tm,λj oj hj ak=> ?_,λj oj hj ao aD=>CF (I.flo j oj hj ao aD),I.rel.ext' e,I.up,by rw[p1];exact I.defers,by rw[p2];exact I.size,A.slot E.chk z ai I.size ad I.slot (aI _ aP),λi L R y G h3 h4 h5=> ?_,λh W ar=> ?_,λh h' W l2 y G hb=> ?_⟩ m.ins
    ·have e:j≠k:=λe=>by subst e;rw[A.get]at hj;cases hj;rw[Y]at ak;cases ak
     rw[BV e];exact I.lou j oj hj ak
    ·by_cases ei:i=k
     ·subst ei;rw[hH]at h3;have:=Xc h3;subst this;refine⟨l,M,.inl I.rel.ext.size,?_,heap_alloc_new w _,⟨a',T',heap_alloc_new w _,rfl,by show 0+cs.length<=a'.size;omega,λj g C=> ?_⟩,rfl⟩
      ·rintro⟨h,o',l',C,ax,eb⟩;obtain⟨l2,r1,_,r3⟩:=I.rel.live h o' C;rw[ax]at r1;cases r1;have:=r3.lt;rw[eb]at this;exact absurd this (Nat.lt_irrefl _)
      ·obtain⟨x,hx,aU⟩:=hC.r.get C;rw[zAf]at hx;exact⟨x,by show a'[0+j]? = some x;simpa using hx,aU.le ad,Pq hC.one hx⟩
     ·rw[BV ei]at h5;obtain⟨W,a1,a2,a3,a4,a5,a6⟩:=I.pend i L R y G h3 h4 h5;have aR:(HH i).n≠(HH k).n:=λeh=>ei (E.apart (bL y) hk h3 hH eh);have hb:=az _ _ a1;exact⟨W,by rw[J _ aR];exact a1,a2,a3,by rw[e.block _ hb];exact a4,a5.move ad (e.block _ hb),a6⟩
    ·by_cases eh:h=(HH k).n
     ·exact⟨k,o,cs,A.get,hf,hH,aJ,CG D k,eh⟩
     ·rw[J h eh]at ar;obtain⟨i,L,R,q1,q2,q3,q4,q5,q6⟩:=I.only h W ar;exact⟨i,L,R,q1,q2,q3,q4,CF q5,q6⟩
    ·by_cases eh:h=(HH k).n
     ·by_cases ah:h'=(HH k).n
      ·rw[eh,ah]
      ·rw[J h' ah]at G;subst eh;rw[M]at y;cases y;have:=az _ _ G;rw[<-hb]at this;exact absurd this (Nat.lt_irrefl _)
     ·rw[J h eh]at y;by_cases ah:h'=(HH k).n
      ·subst ah;rw[M]at G;cases G;have:=az _ _ y;rw[hb]at this;exact absurd this (Nat.lt_irrefl _)
      ·rw[J h' ah]at G;exact I.inj h h' W l2 y G hb
  | false =>
   cases aj:pH o.op with
   | true =>
    have Y:sN o.op=false:=by simp[sN,CI aj]
    have F0:=I.frame E z A;rcases GG F0 am with⟨N,C⟩|⟨N,C,hH⟩
    ·rw[if_pos N];have aH:∃T x,o.op = .load T x:=by
      cases ho:o.op<;>rw[ho]at aj<;>first|exact⟨_,_,rfl⟩|cases aj
     obtain⟨T,x,al⟩:=aH;rw[al]at C;obtain⟨va,aL,C⟩:=aF.1 (show ob (lA (Fi (S k) (o.looksAt all.toArray)) x) _=some (gg k,HH (k+1))from C);obtain⟨g',av,aQ⟩:=aF.1 C;have eg:g'=gg k:=by
      have:=congrArg (λo=>o.map Prod.fst) (show some (g',HH k)=some (gg k,HH (k+1))from aQ);simpa using this
     rw[eg]at av;obtain⟨q,U,hc⟩:=aF.1 (show ob va.asP _=some (gg k)from av);obtain⟨cs,aO,hc⟩:=aF.1 hc;have aA:=jB.1 aO;have aW:∀s,x = .tmp s->s∈o.looksAt all.toArray:=λs e=>List.mem_append_left _ (List.mem_filterMap.2 ⟨.tmp s,by rw[al,e];simp[Op.operands],rfl⟩);have aM:lA (S k) x=some va:=by
      rw[<-aL];cases x with
      |tmp s=>
       show Hb (S k) s=Hb (Fi (S k) (o.looksAt all.toArray)) s;rw[Ed,if_pos (aW s Z)]
      |_=>rfl
     have hh:ldH (S k) o.op=some q.1:=by
      rw[al];show ob (lA (S k) x) _=_;rw[aM];show ob va.asP _=_;rw[U];rfl
     obtain⟨p,ag,af,B,ap,aB⟩:=I.loads E z m A aj hh aA;have aK:=dG F0 aL;have aV:Rl ag va (a.eval x):=by
      rw[FM U]at aK ⊢;obtain⟨l,Y,e⟩:=aK.ptr_inv;obtain⟨W,aC,_⟩:=B.rel.live _ _ aB;rw[<-ap,zP aC]at Y;cases Y;rw[e];exact .ptr _ aC
     have ay:zB tb T va (HH p)=some (gg k):=by
      show ob va.asP _=_;rw[U];show ob ((HH p).cells q.1) _=_;rw[jB.2 aB];exact hc
     obtain⟨X,_,l,_,_,_,hX,u⟩:=MU (P:=P) E.tab B.rel aV ay;left;have H:(execOp a.eval o).run P w = .ok (.value X) w:=by
      have:=u w Z;obtain⟨d,op,ty,a9,a7,gd⟩:=o;simp only at al;subst al;simp[execOp,this]
     simp only[Oper.wp,H,Oper.upon];exact hK _ _ t ρ pm (I.plain E z A Y (λh=>by rw[hf]at h;cases h) (by rw[<-ap];exact hX.le ID)) m.ins
    ·rw[if_neg (by rw[N];simp)];exact hK _ _ t ρ pm (I.plain E z A Y (λh=>by rw[hf]at h;cases h) (by rw[C];exact .un)) m.ins
   |false=>
   obtain⟨ag,af,B,ap⟩:=I.reach E z m A hp hf aj;have F:=B.frame' E z A;cases ae:fI o.op with
   | false =>
    have Y:sN o.op=false:=by simp[sN,ae]
    have an:∀v,Rl ag (gg k) v->zD w0 ρb n all (S 0) HH gg (ins D k) (a.put o.dst v) w t ρ pm:=λv hv=>
     I.plain E z A Y (λh=>by rw[hf]at h;cases h) (by rw[<-ap];exact hv.le ID)
    rcases KM E.tab (E.call w0) (E.op A.get) F B.rel am with⟨N,hs⟩|⟨N,C,hH⟩
    ·rw[if_pos N];left;rcases hs with⟨_,_,_,_,v,hv,u⟩|⟨_,_,_,v,_,_,_,_,_,hv,u⟩|⟨_,_,_,v,hv,u⟩|⟨U,_⟩
     ·simp only[Oper.wp,u w,Oper.upon];exact hK _ _ t ρ pm (an v hv) m.ins
     ·simp only[Oper.wp,u w Z,Oper.upon];exact hK _ _ t ρ pm (an v hv) m.ins
     ·simp only[Oper.wp,u,Oper.upon];exact hK _ _ t ρ pm (an v hv) m.ins
     ·rw[ae]at U;cases U
    ·rw[if_neg (by rw[N];simp)];exact hK _ _ t ρ pm (an undef (by rw[C];exact .un)) m.ins
   | true =>
    have Y:sN o.op=true:=by simp[sN,ae,hf]
    have aq:∀(i:Nat) (L:Oper) (R:List GV),all[i]? = some L->isFloat L.op=true->i≠k:=λi L R y G e=>by
     subst e;rw[A.get]at y;cases y;rw[hf]at G;cases G
    have aw:∀j o,all[j]? = some o->sN o.op=true->(ins D k j=true↔j<k+1):=λj oj hj ak=>by
     by_cases e:j=k
     ·subst e;simp[CG]
     ·rw[BV e,B.lou j oj hj ak];omega
    have au:∀j o,all[j]? = some o->isFloat o.op=true->j<k+1->ins D k j=true:=λj oj hj ao aD=>by
     have:=aq j oj [] hj ao;exact CF (B.flo j oj hj ao (by omega))
    have aa:∀h l,af h=some l->∃i o cs,all[i]? = some o∧isFloat o.op=true∧HH (i+1)=(HH i).new (.cells cs)∧k+1<=i∧ins D k i=true∧h=(HH i).n:=λh l ar=>by
     obtain⟨i,L,R,q1,q2,q3,q4,q5,q6⟩:=B.only h l ar;have:=aq i L R q1 q2;exact⟨i,L,R,q1,q2,q3,by omega,CF q5,q6⟩
    have ac:OO all (ins D k) (k+1):= .inr ⟨o,by simpa using A.get,Y,by simp[CG]⟩;rcases KM E.tab (E.call B.rel.base) (E.op A.get) F B.rel.rebase am with⟨N,hs⟩|⟨N,C,hH⟩
    ·rw[if_pos N];left;rcases hs with⟨U,_⟩|⟨U,_⟩|⟨U,_⟩|⟨_,u⟩
     ·rw[ae]at U;cases U
     ·rw[ae]at U;cases U
     ·rw[ae]at U;cases U
     refine Mf (u _ λaN w2 v ad R2 hv=>hK _ _ (k+1) aN af ?_ ac);obtain⟨R3,ab⟩:=B.rel.back R2;have hj:(Ig ag af).le (Ig aN af):=λh l y=>by
      cases H:ag h with
      |some l2=>rw[zP H]at y;cases y;exact zP (ad _ _ H)
      |none=>
       rw[zO H]at y;obtain⟨i,L,R,q1,q2,q3,q4,q5,rfl⟩:=aa h l y;rw[zO (R2.fresh _ (E.mono' q4 (Nat.le_of_lt (bL q1))))];exact y
     obtain⟨p1,p2⟩:=GX a o.dst v;refine⟨hk,aw,au,R3,fC.le_trans B.up ad,by rw[p1];exact B.defers,by rw[p2];exact B.size,A.slot E.chk z ai B.size hj B.slot (hv.le ID),λi L R y G h3 h4 h5=> ?_,aa,B.inj⟩
     rw[BV (aq i L R y G)]at h5;obtain⟨W,a1,a2,a3,a4,a5,a6⟩:=B.pend i L R y G h3 (by omega) h5;have hb:W.b<w.heap.size:=(zA9.1 a4).1;refine⟨W,a1,a2,?_,by rw[ab _ hb a3];exact a4,a5.move hj (ab _ hb a3),a6⟩
     rintro⟨h,o',l',C,ax,eb⟩;obtain⟨l2,r1,r2,_⟩:=R2.live h o' C;rw[ax]at r1;cases r1;rw[eb]at r2;rcases r2 with r2|r2
     ·have:w.heap.size<=W.b:=r2;omega
     ·exact a3 r2
    ·rw[if_neg (by rw[N];simp)];obtain⟨p1,p2⟩:=GX a o.dst undef;refine hK _ _ (k+1) ag af ⟨hk,aw,au,by rw[hH];exact B.rel,B.up,by rw[p1];exact B.defers,by rw[p2];exact B.size,A.slot E.chk z ai B.size (fC.le_refl _) B.slot (by rw[C];exact .un),λi L R y G h3 h4 h5=> ?_,aa,B.inj⟩ ac;rw[BV (aq i L R y G)]at h5;rw[hH];exact B.pend i L R y G h3 (by omega) h5
theorem zD.done (E:yP P tb w0 ih all n S HH gg) (I:zD w0 ρb n all (S 0) HH gg D a w t ρ pm) (b:∀i,i<all.length->D i=true):∃f,ρb.le f∧gH w0 f (HH all.length) w∧lY f n (S all.length) a:=by
 obtain⟨d,e,k,_⟩:=I.adoptTo E (all.length - t) t all.length ρ pm (by have:=I.tm;omega) (zAd _) λj q m p c=>by
  refine⟨?_,λ_=>b j p⟩
  cases B:sN q.op with
  |false=>rfl
  |true=>have:=(I.lou j q c B).1 (b j p);omega
 refine⟨d,k.up,k.rel,k.defers,k.size,λs g A=> ?_⟩
 have r:∀h,e h=none:=λh=>by
  cases C:e h with
  |none=>rfl
  |some l=>
   obtain⟨i,H,G,m,_,_,u,_⟩:=k.only h l C;have:=bL m;omega
 have c:Ig d e=d:=by
  funext h;unfold Ig;rw[r];cases d h<;>rfl
 have F:SlD all (S 0) gg D s g:=by
  rcases MN E.trc all.length (zAd _) A with⟨i,o,m,p,v,u,x⟩|⟨m,p⟩
  ·refine .inl ⟨i,o,b i m,p,v,u,λj q y c z=> ?_⟩;rcases zAm i j with h|h
   ·exact absurd z (x j q h (bL c) c)
   ·exact h
  ·exact .inr ⟨λj q y c=>m j q (bL c) c,p⟩
 have:=k.slot s g F;rwa[c]at this
theorem WL (E:yP P tb w0 ih all n S HH gg) {Q:Exit->Act->World->Prop} (hQ:∀c K M,ρb.le c->gH w0 c (HH all.length) M->lY c n (S all.length) K->Q .normal K M):
  ∀(d:Nat) (L:List Nat) (b:Array Bool) (a:Act) (w:World) (t:Nat) (ρ pm:fC),L.length<=d->b.size=all.length->(∀i,i<all.length->b.getD i false=false->i∈L)->Cl all (λj=>b.getD j false)->
  zD w0 ρb n all (S 0) HH gg (λj=>b.getD j false) a w t ρ pm->OO all (λj=>b.getD j false) t->Sx.wpAny P .any all.toArray Q d b a w:=by
 intro d
 induction d with
 | zero =>
  intro L b a w t ρ pm G J g m I h;have hL:L=[]:=zAo (by omega);subst hL;have f:∀i,i<all.length->b.getD i false=true:=λi r=>by
   cases u:b.getD i false with
   |true=>rfl
   |false=>have:=g i r u;simp at this
  refine⟨?_,?_⟩
  ·rw[List.eq_nil_iff_forall_not_mem];intro i r;obtain⟨l,o,s,_⟩:=mem_ready.1 r;have W:i<all.length:=by have:=(zA9.1 s).1;simpa using this
   have:=f i W;have hs:i<b.size:=by omega
   simp[hs]at this l;rw[l]at this;cases this
  ·obtain⟨c,l,N,O⟩:=I.done E f;exact hQ c a w l N O
 | succ d ihf =>
  intro L b a w t ρ pm G J g m I h;refine⟨λY=> ?_,λk hk=> ?_⟩
  ·have f:∀i,i<all.length->b.getD i false=true:=by
    intro i
    induction i using Nat.strongRecOn with
    | ind i ihi =>
     intro r;cases u:b.getD i false with
     |true=>rfl
     | false =>
      exfalso;have s:all[i]? = some all[i]:=zA0 r;have H:i∈Region.ready .any all.toArray b:=by
       refine mem_ready.2 ⟨?_,all[i],by simp,λe R v=> ?_⟩
       ·have hs:i<b.size:=by omega
        simp[hs]at u ⊢;exact u
       ·have U:e.on∈wD all[i]:=zB5.2 ⟨e,List.mem_filter.2 ⟨by simpa using R,v⟩,rfl⟩;have:=(E.chk.edge i _ s e.on U).1;exact ihi e.on this (by omega)
      rw[Y]at H;simp at H
   obtain⟨c,l,N,O⟩:=I.done E f;exact hQ c a w l N O
  ·obtain⟨l,o,X,q⟩:=mem_ready.1 hk;have s:all[k]? = some o:=by simpa using X
   have V:k<all.length:=bL s;have F:k<b.size:=by omega
   have x:b.getD k false=false:=by simp[F]at l ⊢;exact l
   have hr:Ti all (λj=>b.getD j false) k o:=by
    refine⟨s,x,λj v B=> ?_⟩
    obtain⟨_,e,R,hej⟩:=E.chk.trans k o s j v B;obtain⟨ed,T,rfl⟩:=zB5.1 R;obtain⟨z,A⟩:=List.mem_filter.1 T;have hl:=q ed (by simpa using z) A;rcases hej with rfl|hej
    ·exact hl
    ·exact m _ _ hl hej B
   have y:(λj=>(b.setIfInBounds k true).getD j false)=ins (λj=>b.getD j false) k:=by
    funext j;by_cases e:j=k
    ·subst e;rw[CG];simp[F]
    ·rw[BV e];exact getD_set_ne false (Ne.symm e)
   refine I.step E m h hr λK M t' c aa I' p=> ?_;refine ihf (L.erase k) _ K M t' c aa ?_ (by simp[J]) (λi r u=> ?_) ?_ (by rw[y];exact I') (by rw[y];exact p)
   ·have hm:=g k V x;rw[List.length_erase_of_mem hm];omega
   ·have e:i≠k:=λe=>by
     subst e;have:=congrFun y i;rw[CG]at this;rw[u]at this;cases this
    have:b.getD i false=false:=by
     have:=congrFun y i;rw[BV e]at this;rw[<-this];exact u
    exact(List.mem_erase_of_ne e).2 (g i r this)
   ·rw[y];intro j k' B v C;by_cases e:j=k
    ·subst e;exact CF (hr.past k' v C)
    ·rw[BV e]at B;exact CF (m j k' B v C)
theorem Pn (hG:fV P tb) (e:∀w0:fQ gs,tW P w0 ih) (hm:P.follows .mixedOrders=true) {b:List Oper} {id:Nat} (f:b.all (JF n)=true) (N:chkF tb b (qJ b)=true) {k:GS->RS} {s:GS} {p:QI} {ρ:fC} {a:Act} {w:World} {Q:Exit->Act->World->Prop} (F:lY ρ n s.σ a) (R:gH w0 ρ s.H w) (h:(Hn tb ih b k b s=some p∧GQ b pH=true)∨evW tb ih b (qJ b) k b 0 [] [] s=some p)
  (r:∀G m I L,k G=some p->ρ.le m->lY m n G.σ I->gH w0 m G.H L->Q .normal I L):(Code.region id b.toArray true).wpr none P Q a w:=by
 have W:b.all kF=true:=zA4.2 λo U=>(vT (zA4.1 f o U)).1;obtain⟨S,HH,gg,z,A,T,C,c⟩:∃S HH gg,S 0=s.σ∧HH 0=s.H∧Trc tb ih b b S HH gg∧(∀k y h v,b[k]? = some y->pH y.op=true->ldH (S k) y.op=some h->(HH k).ver h=some v->
   (∀j u,j<k->b[j]? = some u->fI u.op=true->before (qJ b) k j=false->(HH j).ver h=some v)∧(∀j u,k<j->b[j]? = some u->fI u.op=true->before (qJ b) j k=false->(HH (j+1)).ver h=some v))∧k ⟨S b.length,HH b.length⟩=some p:=by
  rcases h with⟨h,ho⟩|h
  ·obtain⟨S,HH,gg,z,A,T,c⟩:=NX b s h;refine⟨S,HH,gg,z,A,T,λk y h v r K _ _=>⟨λj u O q x B=> ?_,λj u O q x B=> ?_⟩,c⟩
   ·rcases IK ho r q K x with d|d
    ·rw[d]at B;cases B
    ·have:=((Js N).trans j u q k d (bL r)).1;omega
   ·rcases IK ho r q K x with d|d
    ·have:=((Js N).trans k y r j d (bL q)).1;omega
    ·rw[d]at B;cases B
  ·obtain⟨S,HH,gg,z,A,T,V,c⟩:=KN b 0 [] [] s h;exact⟨S,HH,gg,z,A,T,λk y h v r K hh hv=>by have:=V.lo k y h v r K hh hv;simpa using this,c⟩
 rw[<-z]at F;rw[<-A]at R;have E:yP P tb w0 ih b n S HH gg:=⟨hG,e,f,Js N,T,C,Ov hG (e w0) f T F R _ (zAd _)⟩
 have J:∀j,(Array.replicate b.length false).getD j false=false:=λj=>by
  by_cases h:j<b.length<;>simp[h]
 refine Gu W hm ?_;have Y:b.toArray.size=b.length:=by simp
 rw[Y];refine WL (ρb:=ρ) E (λm I L h0 d M=>r ⟨S b.length,HH b.length⟩ m I L c h0 M d) b.length (List.range b.length) _ a _ 0 ρ (λ_=>none) (by simp) (by simp) (λi hi _=>zAn.2 hi) (λj k' q=>by simp only[J]at q;cases q) ?_ (.inl Z);refine⟨Nat.zero_le _,λj o _ _=>by simp only[J];simp,λj o _ _ h=>absurd h (Nat.not_lt_zero j),R.ext' ((Below.refl _ _).drew),fC.le_refl _,F.defers,F.size,λG g hs=> ?_,λi o cs _ _ _ _ h5=>(by simp only[J]at h5;cases h5),λh l X=>(by cases X),λh h' l l' X=>(by cases X)⟩
 rcases hs with⟨i,o,d,_⟩|⟨_,M⟩
 ·simp only[J]at d;cases d
 ·exact(F.slot G g M).le ID
end
def Jk (c:TB) (n:Nat):Code->Bool
 | .skip | .exit _ | .ret=>true
 | .region _ ops dr=>ops.toList.all (JF n)&&(!dr||chkF c ops.toList (qJ ops.toList))
 | .seq a b=>Jk c n a&&Jk c n b
 | .cond _ a b=>Jk c n a&&Jk c n b
 | .block _ b=>Jk c n b
 | .loop b=>Jk c n b
 |_=>false
section
variable {P:Program} {G:GP} {tb:TB} {Fs:FT} {gs:BA} {w0:fQ gs}
def FH (P:Program) (c:Code) (Q:Exit->Act->World->Prop) (a:Act) (w:World):Prop:=
 ∀(b:Frame) (k:List Item) (d:List Frame),b.roundOf=(FR none).round->(FR none).fn b.fn->(FR none).room (d.length+1+0)->
  ∃e f g,Q e f g∧ArrivesIn (Machine.fenced P (FR none)) P (lone (b.atR a (.code c :: .inLoop c::k)) d w) b k d e f g
theorem FH.loop {c:Code} {Q:Exit->Act->World->Prop} {a:Act} {w:World} (h:FH P c Q a w):(Code.loop c).wpr none P Q a w:=by
 intro b k l f g i;obtain⟨e,j,n,m,d⟩:=h b k l f g i;exact⟨e,j,n,m,.of_steps (.one (fenced_calm g i Z) stepR_loop) d⟩
theorem FH.round {c:Code} {Q:Exit->Act->World->Prop} {a:Act} {w:World} (h:c.wpr none P (Exit.then (FH P c Q) Q) a w):FH P c Q a w:=by
 intro b k t p r s;obtain⟨e,f,g,m,d⟩:=h b (.inLoop c::k) t p r s;cases e with
 |normal=>
  obtain⟨o,n,q,j,i⟩:=m b k t p r s;exact⟨o,n,q,j,.of_steps (StepsIn.trans d (.one (fenced_calm r s Z) stepR_inLoop)) i⟩
 |exit id=>exact⟨_,f,g,m,.pass (x:= .inLoop c) Z (λ_ _=> .inl (by simp)) d⟩
 |goto l=>exact⟨_,f,g,m,.pass (x:= .inLoop c) Z (λ_ _=> .inl (by simp)) d⟩
 |ret=>exact⟨_,f,g,m,.pass (x:= .inLoop c) Z (λ_ _=> .inl (by simp)) d⟩
 |panic u=>exact⟨_,f,g,m,.pass (x:= .inLoop c) Z (λ_ _=> .inl (by simp)) d⟩
 |outgrown=>exact⟨_,f,g,m,.pass (x:= .inLoop c) Z (λ_ _=> .inl (by simp)) d⟩
noncomputable def KO (a:Cx) (id:Nat) (s:GS):RS:=some ⟨.exit id,Ej s.σ (mI (Dw a.env id)),s.H⟩
structure XQ {gs:BA} (w0:fQ gs) (tb:TB) (n:Nat) (cx:Cx) (k:GS->RS) (out:QI) (ρ:fC) (Q:Exit->Act->World->Prop):Prop where
 k:∀s' ρ' a' w',k s'=some out->ρ.le ρ'->lY ρ' n s'.σ a'->gH w0 ρ' s'.H w'->Q .normal a' w'
 x:∀id s' ρ' a' w',KO cx id s'=some out->ρ.le ρ'->lY ρ' n s'.σ a'->gH w0 ρ' s'.H w'->Q (.exit id) a' w'
 r:∀s' ρ' a' w',Ue tb cx s'=some out->ρ.le ρ'->lY ρ' n s'.σ a'->gH w0 ρ' s'.H w'->Q .ret a' w'
def Jn (P:Program) {gs:BA} (w0:fQ gs) (tb:TB) (l:LH):Prop:=∀b h j H d,l b h j H=some d->∀n k i a w Q,Jk tb n b=true->kO (mI (live (.loop b) 0 h)) j some=some k->lY i n k a->gH w0 i H w->
 (∀id e c f g,KO h id e=some d->i.le c->lY c n e.σ f->gH w0 c e.H g->Q (.exit id) f g)->
 (∀e c f g,Ue tb h e=some d->i.le c->lY c n e.σ f->gH w0 c e.H g->Q .ret f g)->FH P b Q a w
theorem PN {b:Cx} {s:GS} {a:QI} (h:Ue tb b s=some a):a.e = .ret:=by
 obtain⟨c,_,h⟩:=aF.1 (show ob (RY tb s b.res) _=some a from h);cases h;rfl
theorem Cr {b:Cx} {id:Nat} {s:GS} {a:QI} (h:KO b id s=some a):a.e = .exit id:=by cases h;rfl
theorem Ud {b:List Nat} {s:GS} {a:QI} (h:IN b s=some a):a.e = .normal∧a.vs=Ej s.σ b∧a.H=s.H:=by cases h;exact⟨rfl,rfl,rfl⟩
theorem TV {n:Nat} {m:Cx} {j:List Nat} {k:GS->RS} {o b:QI} {l:fC} {Q:Exit->Act->World->Prop} (L:XQ w0 tb n m k b l Q) (h:kO j o.vs (λg=>k ⟨g,o.H⟩)=some b) {c:GS} {a:fC} {d:Act} {f:World}
  (r:o.vs=Ej c.σ j) (q:o.H=c.H) (e:l.le a) (F:lY a n c.σ d) (R:gH w0 a c.H f):Q .normal d f:=by
 obtain⟨g,i,p⟩:=sH h;rw[r]at i;exact L.k ⟨g,o.H⟩ a d f p e (KW F i) (by rw[q];exact R)
theorem EJ {M:CH} {W:LH} (O:fV P tb) (V:P.follows .mixedOrders=true) (j:∀w0:fQ gs,tW P w0 M) (p:Jn P w0 tb W) {n:Nat}:∀(c:Code) (m:Nat) (f:Cx) (k:GS->RS) (s:GS) (d:QI) (q:fC) (a:Act) (w:World) (Q:Exit->Act->World->Prop),
  Jk tb n c=true->evC tb M W c m f k s=some d->lY q n s.σ a->gH w0 q s.H w->XQ w0 tb n f k d q Q->c.wpr none P Q a w
 | .skip,m,f,k,s,d,q,a,w,Q,_,h,F,R,L=>SP (L.k s q a w h (fC.le_refl _) F R)
 | .region id ops dr, m, f, k, s, d, q, a, w, Q, ho, h, F, R, L => by
  have l:ops.toList.all (JF n)=true∧(!dr||chkF tb ops.toList (qJ ops.toList))=true:=by simpa [Jk]using ho
  have ad:ops.toList.all kF=true:=zA4.2 λo ac=>(vT (zA4.1 l.1 o ac)).1;have N:Bool.casesOn (motive:=λ_=>RS) (aga dr ops.toList) (Hn tb M ops.toList k ops.toList s) (evW tb M ops.toList (qJ ops.toList) k ops.toList 0 [] [] s)=some d:=h;have e:ops=ops.toList.toArray:=by simp
  cases dr with
  |false=>
   rw[e];exact vA ad (Iy O (j w0) ops.toList s q a w l.1 F R N L.k)
  | true =>
   rw[e];have hF:chkF tb ops.toList (qJ ops.toList)=true:=by simpa using l.2
   have u:(Hn tb M ops.toList k ops.toList s=some d∧GQ ops.toList pH=true)∨evW tb M ops.toList (qJ ops.toList) k ops.toList 0 [] [] s=some d:=by
    cases T:aga true ops.toList with
    |true=>rw[T]at N;exact .inr N
    |false=>
     rw[T]at N;have:(!GQ ops.toList pH)=false:=T;exact .inl ⟨N,by simpa using this⟩
   exact Pn O j V l.1 hF F R u L.k
 | .seq x y,m,f,k,s,d,q,a,w,Q,ho,h,F,R,L=>by
  have l:Jk tb n x=true∧Jk tb n y=true:=by simpa [Jk]using ho
  refine Wd (EJ O V j p x (live y m f) f (evC tb M W y m f k) s d q a w _ l.1 h F R ⟨λA t E I z g B C=> ?_,L.x,L.r⟩);exact EJ O V j p y m f k A d t E I Q l.2 z B C ⟨λs2 K X w2 J u=>L.k s2 K X w2 J (fC.le_trans g u),λid s2 K X w2 J u=>L.x id s2 K X w2 J (fC.le_trans g u),λs2 K X w2 J u=>L.r s2 K X w2 J (fC.le_trans g u)⟩
 | .cond x thn els, m, f, k, s, d, q, a, w, Q, ho, h, F, R, L => by
  have l:Jk tb n thn=true∧Jk tb n els=true:=by simpa [Jk]using ho
  obtain⟨v,hv,h⟩:=aF.1 (show ob (lA s.σ x) _=some d from h);obtain⟨b,U,h⟩:=aF.1 h;obtain⟨o,J,h⟩:=aF.1 (show ob _ (λo=>Ex.casesOn (motive:=λ_=>RS) o.e (kO (mI m) o.vs λσ=>k ⟨σ,o.H⟩) (λ_=>some o) (some o))=some d from h);have hx:=dG F hv;rw[Dt U]at hx;have L':XQ w0 tb n f (IN (mI m)) o q Q:=by
   refine⟨λA t E I z g B C=> ?_,λid A t E I z g B C=> ?_,λA t E I z g B C=> ?_⟩
   ·obtain⟨D,e2,e3⟩:=Ud z;rw[D]at h;exact TV L h e2 e3 g B C
   ·have D:=Cr z;rw[D]at h;cases h;exact L.x id A t E I z g B C
   ·have D:=PN z;rw[D]at h;cases h;exact L.r A t E I z g B C
  refine Gt hx.bool_inv (λab=> ?_) (λaa=> ?_)
  ·rw[ab]at J;exact EJ O V j p thn m f (IN (mI m)) s o q a w Q l.1 J F R L'
  ·rw[aa]at J;exact EJ O V j p els m f (IN (mI m)) s o q a w Q l.2 J F R L'
 | .block id b, m, f, k, s, d, q, a, w, Q, ho, h, F, R, L => by
  have l:Jk tb n b=true:=by simpa [Jk]using ho
  obtain⟨o2,u,h⟩:=aF.1 (show ob (nB id (evC tb M W b m ⟨f.res,f.retm,(id,m)::f.env⟩ (IN (mI m)) s)) (λo=>Ex.casesOn (motive:=λ_=>RS) o.e (kO (mI m) o.vs λσ=>k ⟨σ,o.H⟩) (λ_=>some o) (some o))=some d from h);obtain⟨o,J,u⟩:=aF.1 (show ob (evC tb M W b m ⟨f.res,f.retm,(id,m)::f.env⟩ (IN (mI m)) s) (λo=>Ex.casesOn (motive:=λ_=>RS) o.e (some o) (λi=>Bool.casesOn (motive:=λ_=>RS) (Nat.beq i id) (some o) (some ⟨.normal,o.vs,o.H⟩)) (some o))=some o2 from u);refine OE (EJ O V j p b m _ (IN (mI m)) s o q a w _ l J F R ⟨λA t E I z g B C=> ?_,λi A t E I z g B C=> ?_,λA t E I z g B C=> ?_⟩)
  ·obtain⟨D,e2,e3⟩:=Ud z;rw[D]at u;cases u;rw[D]at h;exact TV L h e2 e3 g B C
  ·have D:=Cr z;rw[D]at u;by_cases hi:i=id
   ·subst hi;have U:Nat.beq i i=true:=by simp
    simp only[U]at u;cases u;show Exit.inBlock i Q (.exit i) E I;simp only[Exit.inBlock,if_true];have S:o=⟨.exit i,Ej A.σ (mI (Dw ((i,m)::f.env) i)),A.H⟩:=by cases z;rfl
    have he:Dw ((i,m)::f.env) i=m:=by
     show(bif Nat.beq i i then m else Dw f.env i)=m;rw[U];rfl
    rw[he]at S;exact TV (o:=⟨.normal,o.vs,o.H⟩) L h (by rw[S]) (by rw[S]) g B C
   ·have U:Nat.beq i id=false:=oF hi;simp only[U]at u;cases u;rw[D]at h;cases h;show Exit.inBlock id Q (.exit i) E I;simp only[Exit.inBlock,if_neg hi];refine L.x i A t E I ?_ g B C;have he:Dw ((id,m)::f.env) i=Dw f.env i:=by
     show(bif Nat.beq id i then m else Dw f.env i)=_;rw[oF (Ne.symm hi)];rfl
    rw[<-z];show KO f i A=some ⟨.exit i,Ej A.σ (mI (Dw ((id,m)::f.env) i)),A.H⟩;rw[he];rfl
  ·have D:=PN z;rw[D]at u;cases u;rw[D]at h;cases h;exact L.r A t E I z g B C
 | .loop b,m,f,k,s,d,q,a,w,Q,ho,h,F,R,L=>by
  have l:Jk tb n b=true:=by simpa [Jk]using ho
  have N:W b f (Ej s.σ (mI (live (.loop b) 0 f))) s.H=some d:=h;have ae:=PK s.σ (mI (live (.loop b) 0 f));obtain⟨σ,Y⟩:=ae;exact FH.loop (p b f _ s.H d N n σ q a w Q l Y (KW F Y) R L.x L.r)
 | .exit id,m,f,k,s,d,q,a,w,Q,_,h,F,R,L=>SO (L.x id s q a w h (fC.le_refl _) F R)
 | .ret,m,f,k,s,d,q,a,w,Q,_,h,F,R,L=>Wc (L.r s q a w h (fC.le_refl _) F R)
 | .rangeFunc _ _ _ _,m,f,k,s,d,q,a,w,Q,ho,_,_,_,_=>by simp[Jk]at ho
 | .scope _,m,f,k,s,d,q,a,w,Q,ho,_,_,_,_=>by simp[Jk]at ho
 | .label _,m,f,k,s,d,q,a,w,Q,ho,_,_,_,_=>by simp[Jk]at ho
 | .goto _,m,f,k,s,d,q,a,w,Q,ho,_,_,_,_=>by simp[Jk]at ho
 | .refuse _,m,f,k,s,d,q,a,w,Q,ho,_,_,_,_=>by simp[Jk]at ho
theorem adg (j:fV P tb) {n:Nat} {s:GS} {f:fC} {a:Act} {w:World} (F:lY f n s.σ a) (R:gH w0 f s.H w) {r:ResultVar} {g:GV} (h:afK tb s r=some g):∃v,Rl f g v∧(Hu a.tmps r).run P w = .ok v w:=by
 cases r with
 |tmp t=>exact⟨_,F.slot t g h,by simp[Hu,Act.eval]⟩
 |cell q T=>
  obtain⟨v,m,h⟩:=aF.1 (show ob (Hb s.σ q) _=some g from h);have d:=F.slot q v m;obtain⟨x,_,_,_,_,_,o,c⟩:=MU (P:=P) j R d h;have c:=c w Z;refine⟨x,o,?_⟩
  obtain⟨p,k,_⟩:=aF.1 (show ob v.asP _=some g from h);rw[FM k]at d;obtain⟨l,u,e⟩:=d.ptr_inv;have i:a.tmps.getD q undef = .pointer (some ⟨l.b,l.off+p.2,none⟩):=e;rw[e]at c;simp only[Instr.loadAt,Instr.sureAddr]at c;simp only[Hu,i,asAddr];simpa using c
theorem RZ (f:fV P tb) {n:Nat} {s:GS} {e:fC} {a:Act} {w:World} (F:lY e n s.σ a) (R:gH w0 e s.H w):∀{l:List ResultVar} {gs:List GV},RY tb s l=some gs->∃b,qL e gs b∧(l.mapM (Hu a.tmps)).run P w = .ok b w
 | [],gs,h=>by cases h;exact⟨[],.nil,by simp⟩
 |r::l,gs,h=>by
  obtain⟨g,m,h⟩:=aF.1 (show ob (afK tb s r) (λv=>ob (RY tb s l) λb=>some (v::b))=some gs from h);obtain⟨i,c,h⟩:=aF.1 h;cases h;obtain⟨v,o,j⟩:=adg (P:=P) f F R m;obtain⟨b,d,k⟩:=RZ f F R c;exact⟨v::b,.cons o d,by simp[List.mapM_cons,j,k]⟩
theorem ZU {b:fC} {gs:List GV} {a:List Value} (h:qL b gs a):Rl b (Xf gs) (if h:a.toArray.size=1 then a.toArray[0]else .tuple a.toArray):=by
 cases gs with
 |nil=>rw[h.of_nil];exact KF .nil
 | cons g gs =>
  obtain⟨v,a,rfl,c,d⟩:=h.of_cons;cases gs with
  |nil=>rw[d.of_nil];show Rl b g _;simpa using c
  |cons j gs=>
   obtain⟨k,i,rfl,e,f⟩:=d.of_cons;rw[dif_neg (by simp)];exact KF (.cons c (.cons e f))
theorem IP (j:fV P tb) {fn:Func} {c:Cx} (d:c.res=fn.results.toList) {n:Nat} {s:GS} {g:fC} {a:Act} {w:World} {b:QI} (F:lY g n s.σ a) (R:gH w0 g s.H w) (h:Ue tb c s=some b):b.H=s.H∧∃v,Rl g (Xf b.vs) v∧(results fn a.tmps).run P w = .ok v w:=by
 obtain⟨gs,e,h⟩:=aF.1 (show ob (RY tb s c.res) _=some b from h);cases h;obtain⟨l,f,i⟩:=RZ (P:=P) j F R e;rw[d]at i;refine⟨rfl,_,ZU f,?_⟩
 rw[CO];have k:(fn.results.mapM (Hu a.tmps)).run P w = .ok l.toArray w:=by
  rw[Array.mapM_eq_mapM_toList];simp[i]
 simp[k]
structure Wh (P:Program) (G:GP) (Fs:FT) {gs:BA} (w0:fQ gs):Prop where
 tab:fV P G.tab
 mixed:P.follows .mixedOrders=true
 fns:∀{f fn},Fs f=some fn->P.funcs[f]? = some fn∧aV P f∧(∀c,fn.body=some c->Jk G.tab fn.ntmps c=true)∧fn.params.size+fn.nfree<=fn.ntmps
 ext:∀{f us H g H'},G.ext f us H=some (g,H')->∀ρ w vs,gH w0 ρ H w->qL ρ us vs->lX P w0 ρ f vs w g H'
 exn:∀{f us g},G.exn f us=some g->∀ρ w vs H,gH w0 ρ H w->qL ρ us vs->lX P w0 ρ f vs w g H
 /-- the function that catches returns 0 and 0 if its argument returns;its two variables are new objects -/
 cat:∀{ρ:fC} {g us cs w H H' c1 c2},gH w0 ρ H w->(∀ρ' w',ρ.le ρ'->gH w0 ρ' ((H.new (.cells [Ay])).new (.cells [Ay])) w'->∃x,lX P w0 ρ' g (us++cs) w' x H')->H'.cells H.n=some [c1]->H'.cells (H.n+1)=some [c2]->
  lX P w0 ρ G.cat [.func (.func g) us.toArray cs.toArray] w (.tup [Ay,Ay]) ((((H'.set H.n (.cells [Ay])).set (H.n+1) (.cells [Ay])).del H.n).del (H.n+1))
def XE (P:Program) {gs:BA} (w0:fQ gs) (ih:IH):Prop:=∀f us H out,ih (.fn f) us H=some out->out.e = .ret->∀ρ w vs,gH w0 ρ H w->qL ρ us vs->
 aV P f∧Calls P f vs.toArray w λe w'=>∃v ρ',e = .returned v∧ρ.le ρ'∧gH w0 ρ' out.H w'∧Rl ρ' (Xf out.vs) v
theorem Ra {d:IH} (h:XE P w0 d):tW P w0 (agL d):=λf i H g j m q w p R n=>by
 obtain⟨o,k,b⟩:=aF.1 (show ob (d (.fn f) i H) _=some (g,j)from m);cases c:o.e with
 |normal=>rw[c]at b;cases b
 |exit id=>rw[c]at b;cases b
 |ret=>
  rw[c]at b;cases b;obtain⟨l,a⟩:=h f i H o k c q w p R n;exact .inr ⟨l _ w,a⟩
theorem Lw {B:IH} (j:Wh P G Fs w0) (h:XE P w0 B):tW P w0 (FP G B):=λf b H g z a t w i R e=>by
 unfold FP callQ at a;cases c:Nat.beq f G.cat with
 | false =>
  rw[c]at a;cases n:G.ext f b H with
  |some r=>
   simp only[n]at a;cases a;exact j.ext n t w i R e
  | none =>
   simp only[n]at a;cases s:G.exn f b with
   |some r=>
    simp only[s]at a;cases a;exact j.exn s t w i _ R e
   |none=>
    simp only[s]at a;exact Ra h f b H g z a t w i R e
 | true =>
  rw[c]at a;have c:=zA3 c;subst c;cases b with
  |nil=>cases a
  | cons u b =>
   cases b with
   |cons _ _=>cases a
   |nil=>
    obtain⟨p,F,a⟩:=aF.1 (show ob u.asF _=some (g,z)from a);rw[jR,jR]at a;obtain⟨x,J,a⟩:=aF.1 a;obtain⟨O,k,a⟩:=aF.1 a;obtain⟨Q,l,a⟩:=aF.1 a;obtain⟨o,a⟩:=bV.1 a;obtain⟨q,a⟩:=bV.1 a;rw[AH,AH,HC,HC]at a;cases a;obtain⟨M,rfl⟩:=List.length_eq_one_iff.1 (zA3 o);obtain⟨N,rfl⟩:=List.length_eq_one_iff.1 (zA3 q);obtain⟨v,i,rfl,A,E⟩:=e.of_cons;rw[E.of_nil];rw[Yi F]at A;obtain⟨K,D,rfl,I,m⟩:=A.fn_inv;exact j.cat R (λy L d C=>⟨x.1,Ra h p.1 _ _ x.1 x.2 J y L _ C ((I.le d).append (m.le d))⟩) k l
theorem afg {x:IH} (p:∀w0:fQ gs,Wh P G Fs w0) (B:∀w0:fQ gs,XE P w0 x) (l:Jn P w0 G.tab λb z=>x (.loop b z)) {f:Nat} {i:Func} {K:List GV} {H:GH} {d:QI} (T:Fs f=some i) (h:Y_ G.tab (FP G x) (λb z=>x (.loop b z)) i K H=some d) (S:d.e = .ret) {u:fC} {w:World} {t:List Value} (R:gH w0 u H w) (I:qL u K t):
  aV P f∧Calls P f t.toArray w λe y=>∃v a,e = .returned v∧u.le a∧gH w0 a d.H y∧Rl a (Xf d.vs) v:=by
 obtain⟨M,N,O,Q⟩:=(p w0).fns T;refine⟨N,?_⟩
 obtain⟨k,E,h⟩:=aF.1 (show ob i.body _=some d from h);obtain⟨L,m,h⟩:=sH h;rw[List.range_eq_range']at m;have s:=Lr m;have U:t.length<=i.ntmps:=by rw[<-I.len,s];exact Q
 refine vC M E ?_;have F:lY u i.ntmps L {tmps:=t.toArray++Array.replicate (i.ntmps - t.toArray.size) undef,defers:=[]}:=by
  refine OU Z (by simp;omega) I (λj v q=> ?_) m;have C:=bL q;rw[Nat.zero_add,zBd (by simpa using C)];simpa using q
 refine EJ (p w0).tab (p w0).mixed (λw0=>Lw (p w0) (B w0)) l k _ _ _ ⟨L,H⟩ d u _ w _ (O k E) h F R ⟨λJ a D y r c n o=> ?_,λid J a D y r c n o=> ?_,λJ a D y r c n o=> ?_⟩
 ·obtain⟨A,v,q,g⟩:=IP (fn:=i) (p w0).tab Z n o r;exact Sx.body_end (.inr Z) n.defers g ⟨v,a,rfl,c,by rw[A];exact o,q⟩
 ·have:=Cr r;rw[S]at this;cases this
 ·obtain⟨A,v,q,g⟩:=IP (fn:=i) (p w0).tab Z n o r;exact Sx.body_end (.inl Z) n.defers g ⟨v,a,rfl,c,by rw[A];exact o,q⟩
theorem afM (B:∀w0:fQ gs,Wh P G Fs w0):∀(c:Nat) (w0:fQ gs),XE P w0 (run G Fs c)∧Jn P w0 G.tab λb d=>run G Fs c (.loop b d):=by
 intro c
 induction c with
 |zero=>exact λw0=>⟨λf us H i h=>(by cases h),λb d K H i h=>(by cases h)⟩
 | succ c ih =>
  have z:∀w0:fQ gs,XE P w0 (run G Fs c):=λw0=>(ih w0).1;intro w0;have q:=(ih w0).2;refine⟨λf us H i h he V w K R hr=> ?_,λb d K H i h n O V a w Q T I F R U k=> ?_⟩
  ·obtain⟨fn,E,h⟩:=aF.1 (show ob (Fs f) _=some i from h);exact afg B z q E h he R hr
  ·have D:kO (mI (live (.loop b) 0 d)) K (λO=>ob (evC G.tab (FP G (run G Fs c)) (λb d=>run G Fs c (.loop b d)) b (live (.loop b) 0 d) d (IN (mI (live (.loop b) 0 d))) ⟨O,H⟩) λo=>Ex.casesOn (motive:=λ_=>RS) o.e (run G Fs c (.loop b d) o.vs o.H) (λ_=>some o) (some o))=some i:=h;obtain⟨aa,l,D⟩:=sH D;rw[I]at l;cases l;obtain⟨o,Y,s⟩:=aF.1 D;refine FH.round (EJ (B w0).tab (B w0).mixed (λw0=>Lw (B w0) (z w0)) q b _ d _ ⟨O,H⟩ o V a w _ T Y F R ⟨λt j x A p g u v=> ?_,λid t j x A p g u v=> ?_,λt j x A p g u v=> ?_⟩)
   ·obtain⟨y,W,X⟩:=Ud p;rw[y,W,X]at s;obtain⟨S,m⟩:=PK t.σ (mI (live (.loop b) 0 d));exact q b d _ t.H i s n S j x A Q T m (KW u m) v (λid J r C L M N=>U id J r C L M (fC.le_trans g N)) (λJ r C L M N=>k J r C L M (fC.le_trans g N))
   ·have y:=Cr p;rw[y]at s;cases s;exact U id t j x A p g u v
   ·have y:=PN p;rw[y]at s;cases s;exact k t j x A p g u v
theorem Is (e:∀w0:fQ gs,Wh P G Fs w0) {a f:Nat} {c:List GV} {H H':GH} {g:GV} (h:UW G Fs a f c H=some (g,H')) {b:fC} {w:World} {d:List Value} (R:gH w0 b H w) (i:qL b c d):lX P w0 b f d w g H':=
 Lw (e w0) (afM e a w0).1 f c H g H' h b w d R i
theorem gH.start (b:fQ gs) (c:gs.env=[]):gH b (λ_=>none) H0 b.w:=⟨DW.refl _,λh o a=>(by cases a),λh g o k l j a=>(by cases a),λ_ _=>rfl,λh d=>absurd d (Nat.not_lt_zero h),λh v l f=>(by cases f),λi v e=>by rw[c]at e;simp at e⟩
end
end Go.Gx
namespace Go.Gx
open Go Go.Sx
noncomputable section
def oN (a:List GV) (H:GH):RS:=some ⟨.normal,a,H⟩
def oX (id:Nat) (a:List GV) (H:GH):RS:=some ⟨.exit id,a,H⟩
def oR (a:List GV) (H:GH):RS:=some ⟨.ret,a,H⟩
def jn (r:RS) (k:List GV->GH->RS):RS:=ob r λo=>Ex.casesOn (motive:=λ_=>RS) o.e (k o.vs o.H) (λ_=>some o) (some o)
def rG (v:GV) (b:Bool) (H:GH) (X:OR):OR:=GV.casesOn (motive_1:=λ_=>OR) v (λ_ _=>none) (λq=>Bool.casesOn (motive:=λ_=>OR) (Vd q b) (some (.un,H)) X) (λ_ _=>none) (λ_ _=>none) none (λ_ _ _ _=>none) none (λ_=>none) (λ_ _ _=>none) none none (λ_=>none) (λ_=>none) (some (.un,H)) none (λ_=>none)
def U0 {R:Type} (a:List GV) (f:Option R):Option R:=List.casesOn (motive:=λ_=>Option R) a (f) λ_ _=>none
def U1 {R:Type} (b:List GV) (f:GV->Option R):Option R:=List.casesOn (motive:=λ_=>Option R) b none λa c=>List.casesOn (motive:=λ_=>Option R) c (f a) λ_ _=>none
def U2 {R:Type} (c:List GV) (f:GV->GV->Option R):Option R:=List.casesOn (motive:=λ_=>Option R) c none λa d=>List.casesOn (motive:=λ_=>Option R) d none λb e=>List.casesOn (motive:=λ_=>Option R) e (f a b) λ_ _=>none
def U3 {R:Type} (d:List GV) (f:GV->GV->GV->Option R):Option R:=List.casesOn (motive:=λ_=>Option R) d none λa e=>List.casesOn (motive:=λ_=>Option R) e none λb g=>List.casesOn (motive:=λ_=>Option R) g none λc h=>List.casesOn (motive:=λ_=>Option R) h (f a b c) λ_ _=>none
def U4 {R:Type} (e:List GV) (f:GV->GV->GV->GV->Option R):Option R:=List.casesOn (motive:=λ_=>Option R) e none λa g=>List.casesOn (motive:=λ_=>Option R) g none λb h=>List.casesOn (motive:=λ_=>Option R) h none λc i=>List.casesOn (motive:=λ_=>Option R) i none λd j=>List.casesOn (motive:=λ_=>Option R) j (f a b c d) λ_ _=>none
def U5 {R:Type} (g:List GV) (f:GV->GV->GV->GV->GV->Option R):Option R:=List.casesOn (motive:=λ_=>Option R) g none λa h=>List.casesOn (motive:=λ_=>Option R) h none λb i=>List.casesOn (motive:=λ_=>Option R) i none λc j=>List.casesOn (motive:=λ_=>Option R) j none λd k=>List.casesOn (motive:=λ_=>Option R) k none λe l=>List.casesOn (motive:=λ_=>Option R) l (f a b c d e) λ_ _=>none
def U6 {R:Type} (h:List GV) (f:GV->GV->GV->GV->GV->GV->Option R):Option R:=List.casesOn (motive:=λ_=>Option R) h none λa i=>List.casesOn (motive:=λ_=>Option R) i none λb j=>List.casesOn (motive:=λ_=>Option R) j none λc k=>List.casesOn (motive:=λ_=>Option R) k none λd l=>List.casesOn (motive:=λ_=>Option R) l none λe m=>List.casesOn (motive:=λ_=>Option R) m none λg n=>List.casesOn (motive:=λ_=>Option R) n (f a b c d e g) λ_ _=>none
def U7 {R:Type} (i:List GV) (f:GV->GV->GV->GV->GV->GV->GV->Option R):Option R:=List.casesOn (motive:=λ_=>Option R) i none λa j=>List.casesOn (motive:=λ_=>Option R) j none λb k=>List.casesOn (motive:=λ_=>Option R) k none λc l=>List.casesOn (motive:=λ_=>Option R) l none λd m=>List.casesOn (motive:=λ_=>Option R) m none λe n=>List.casesOn (motive:=λ_=>Option R) n none λg o=>List.casesOn (motive:=λ_=>Option R) o none λh p=>List.casesOn (motive:=λ_=>Option R) p (f a b c d e g h) λ_ _=>none
def U8 {R:Type} (j:List GV) (f:GV->GV->GV->GV->GV->GV->GV->GV->Option R):Option R:=List.casesOn (motive:=λ_=>Option R) j none λa k=>List.casesOn (motive:=λ_=>Option R) k none λb l=>List.casesOn (motive:=λ_=>Option R) l none λc m=>List.casesOn (motive:=λ_=>Option R) m none λd n=>List.casesOn (motive:=λ_=>Option R) n none λe o=>List.casesOn (motive:=λ_=>Option R) o none λg p=>List.casesOn (motive:=λ_=>Option R) p none λh q=>List.casesOn (motive:=λ_=>Option R) q none λi r=>List.casesOn (motive:=λ_=>Option R) r (f a b c d e g h i) λ_ _=>none
def Uj:lW->Code->Code
 | [],c=>c
 |0::p,.seq a _=>Uj p a
 |1::p,.seq _ b=>Uj p b
 |0::p,.cond _ a _=>Uj p a
 |1::p,.cond _ _ b=>Uj p b
 |0::p,.block _ b=>Uj p b
 |0::p,.loop b=>Uj p b
 |_,c=>c
def cN (a:Func) (p:lW):Code:=match a.body with
 |some c=>Uj p c
 |none=> .skip
def gA (b:Func) (a:List (Nat×Nat)):Cx:=⟨b.results.toList,KZ b.results.toList,a⟩
abbrev fN:=CH->QH->List GV->GH->RS
structure Im where
 fn:Nat->Option (Func×fN)
 lp:Nat->Option ((Code×Cx)×fN)
def Im.fns (T:Im) (f:Nat):Option Func:=ob (T.fn f) λe=>some e.1
def Im.loop (T:Im) (a:LH):QH:=λi vs H=>ob (T.lp i) λe=>a e.1.1 e.1.2 vs H
def rr (T:Im) (G:GP) (n:Nat):Bool->QH:=Nat.rec (motive:=λ_=>Bool->QH) (λ_ _ _ _=>none) (λ_ a b t c H=>Bool.casesOn (motive:=λ_=>RS) b (ob (T.fn t) λe=>e.2 (callQ G (a false)) (a true) c H) (ob (T.lp t) λe=>e.2 (callQ G (a false)) (a true) c H)) n
structure Ln (T:Im) (tb:TB):Prop where
 fn:∀{f e},T.fn f=some e->∀(c:CH) (lp:LH) us H,e.2 c (T.loop lp) us H=Y_ tb c lp e.1 us H
 lp:∀{i e},T.lp i=some e->∀(c:CH) (lp:LH) us H,e.2 c (T.loop lp) us H=evL tb c lp e.1.1 e.1.2 us H
theorem ahm {T:Im} {G:GP} (h:Ln T G.tab):∀n,rr T G n false=(λf c H=>run G T.fns n (.fn f) c H)∧rr T G n true=T.loop (λb a=>run G T.fns n (.loop b a)):=by
 intro n
 induction n with
 |zero=>
  refine⟨rfl,?_⟩
  funext i vs H;show none=ob (T.lp i) λe=>none;cases T.lp i<;>rfl
 | succ n ih =>
  obtain⟨d,g⟩:=ih;constructor
  ·funext f c H;show ob (T.fn f) (λe=>e.2 (callQ G (rr T G n false)) (rr T G n true) c H)=ob (T.fns f) λk=>Y_ G.tab (FP G (run G T.fns n)) (λb a=>run G T.fns n (.loop b a)) k c H;unfold Im.fns;cases j:T.fn f with
   |none=>rfl
   |some e=>
    show e.2 (callQ G (rr T G n false)) (rr T G n true) c H=Y_ G.tab (FP G (run G T.fns n)) (λb a=>run G T.fns n (.loop b a)) e.1 c H;rw[d,g];exact h.fn j _ _ c H
  ·funext i vs H;show ob (T.lp i) (λe=>e.2 (callQ G (rr T G n false)) (rr T G n true) vs H)=ob (T.lp i) λe=>run G T.fns (n+1) (.loop e.1.1 e.1.2) vs H;cases j:T.lp i with
   |none=>rfl
   |some e=>
    show e.2 (callQ G (rr T G n false)) (rr T G n true) vs H=evL G.tab (FP G (run G T.fns n)) (λb a=>run G T.fns n (.loop b a)) e.1.1 e.1.2 vs H;rw[d,g];exact h.lp j _ _ vs H
def okF (a:TB) (fn:Func):Bool:=match fn.body with
 |some c=>Jk a fn.ntmps c&&Nat.ble (fn.params.size+fn.nfree) fn.ntmps
 |none=>false
theorem RG {tb:TB} {fn:Func} (h:okF tb fn=true):(∀c,fn.body=some c->Jk tb fn.ntmps c=true)∧fn.params.size+fn.nfree<=fn.ntmps:=by
 unfold okF at h;cases a:fn.body with
 |none=>rw[a]at h;cases h
 |some c=>
  rw[a]at h;simp only[zA1]at h;exact⟨λd b=>by cases b;exact h.1,by simpa using h.2⟩
def Hm (T:Im) (G:GP) (b:Nat) (f:FuncId) (a:List GV) (H:GH):OR:=callQ G (rr T G b false) f a H
theorem Cz {T:Im} {G:GP} (h:Ln T G.tab) (fuel:Nat) (f:FuncId) (a:List GV) (H:GH):Hm T G fuel f a H=UW G T.fns fuel f a H:=by
 unfold Hm UW FP;rw[(ahm h fuel).1]
end
end Go.Gx
section
set_option maxRecDepth 100000
namespace Go.Gx
open Go Go.Sx Go.Proofs
noncomputable section
abbrev y:=zA
def gB (f:Func) (c:CH) (_:QH) (a:List GV) (H:GH):RS:=Y_ y c (λ_ _ _ _=>none) f a H
def mV (f:Func) (i:Nat) (c:CH) (q:QH) (a:List GV) (H:GH):RS:=Y_ y c (λ_ _ b H=>q i b H) f a H
def gL (e:Code×Cx) (i:Nat) (c:CH) (q:QH) (a:List GV) (H:GH):RS:=evL y c (λ_ _ b H=>q i b H) e.1 e.2 a H
def gL1 (e:Code×Cx) (n i j:Nat) (c:CH) (q:QH) (d:List GV) (H:GH):RS:=evL y c (λ_ b a H=>bif Nat.beq b.env.length n then q i a H else q j a H) e.1 e.2 d H
def gD (e:Code×Cx) (i:Nat):(Code×Cx)×fN:=(e,gL e i)
def gD1 (e:Code×Cx) (n i j:Nat):(Code×Cx)×fN:=(e,gL1 e n i j)
def i (n:Nat):GV:= .int .i64 (.ofNat n)
def bC (q:Bool) (f t:RS):RS:=Bool.casesOn (motive:=λ_=>RS) q f t
def K (c:CH) (f:Nat) (a:List GV) (H:GH) (k:GV->GH->RS):RS:=mS (c f a H) k
def bn (a:BinOp) (T:Nat) (v u:GV) (k:GV->RS):RS:=ob (MS y a T v u) k
def ld (T:Nat) (v:GV) (H:GH) (k:GV->RS):RS:=ob (zB y T v H) k
def fd (T n:Nat) (v:GV) (k:GV->RS):RS:=ob (Gq y T n v) k
def ix (T:Nat) (v u:GV) (k:GV->RS):RS:=ob (JW y T v u) k
def ln (T:Nat) (v:GV) (k:GV->RS):RS:=ob (Ur y T v) k
def ex (n:Nat) (v:GV) (k:GV->RS):RS:=ob (afW n v) k
theorem rN {a:Type} {f n:Nat} {x y:Option a} {e:a} {R:Prop} (b:x=some e->R) (c:y=some e->R):tN f n x y=some e->R:=by
 unfold tN;cases Nat.blt f n
 ·exact c
 ·exact b
theorem rL {c:Type} {f n:Nat} {x e:c} {R:Nat->c->Prop} (h:R n x):tL f n x=some e->R f e:=by
 intro a;unfold tL at a;cases b:Nat.beq f n with
 |false=>rw[b]at a;cases a
 |true=>rw[b]at a;cases a;rw[zA3 b];exact h
def B37 (c:CH) (p:QH) (w:List GV) (H:GH):RS:=U2 w λx z=>
 mS (Qp x H) λq o=>
 fd 29 0 q λu=>
 ld 22 u o λv=>
 ln 22 v λr=>
 mS (VZ y 22 r r o) λs t=>
 ln 22 s λk=>
 jn (nB 0 (p 2 [z,q,s,k,(i 0)] t)) λd b=>U3 d λf a g=>fd 29 0 a λl=>
 ld 22 l b λm=>
 ln 22 m λn=>
 jn (nB 2 (p 3 [f,a,g,n,(i 0)] b)) λe j=>U1 e λh=>oR [h] j
def L2 (c:CH) (B:QH) (D:List GV) (H:GH):RS:=U5 D λa b d e f=>jn (bn .lss 3 f e λx=>
 ob (GV.asB x) λw=>jn (bC w (oX 0 [a,b,d] H) (oN [a,b,d,e,f] H)) λj t=>U5 j λl m g n h=>jn (nB 1 (ix 22 g h λz=>
 mS (u_ y 3 z (.int .i64 (.negSucc 0)) t) λC u=>
 oN [l,m,g,n,h] u)) λk v=>U5 k λo p q r s=>bn .add 3 s (i 1) λA=>
 oN [o,p,q,r,A] v) (B 2)
def L3 (c:CH) (X:QH) (Y:List GV) (H:GH):RS:=U5 Y λs t d e f=>jn (bn .lss 3 f e λQ=>
 ob (GV.asB Q) λO=>jn (bC O (oX 2 [d] H) (oN [s,t,d,e,f] H)) λo l=>U5 o λb g h j a=>jn (nB 3 (bn .shr 26 b a λR=>
 bn .and 26 R (.int .u32 (.ofNat 1)) λS=>
 bn .eql 26 S (.int .u32 (.ofNat 0)) λT=>
 ob (GV.asB T) λP=>jn (bC P (oN [b,g,h,a,j,a] l) (oX 3 [b,g,h,j,a] l)) λp m=>U6 p λu k v w x y=>ld 29 k m λU=>
 K c 71 [U,w] m λn L=>
 ln 22 n λV=>
 jn (nB 4 (X 4 [u,k,v,x,y,n,V,(i 0)] L)) λq M=>U5 q λz A B C D=>oN [z,A,B,C,D] M)) λr N=>U5 r λE F G I J=>bn .add 3 J (i 1) λW=>
 oN [E,F,G,I,W] N) (X 3)
def L4 (c:CH) (ql:QH) (us:List GV) (H:GH):RS:=U8 us λW X Y aa ab aJ ac ad=>jn (bn .lss 3 ad ac λaq=>
 ob (GV.asB aq) λao=>jn (bC ao (oX 4 [W,X,Y,aa,ab] H) (oN [W,X,Y,aa,ab,aJ,ac,ad] H)) λC g=>U8 C λl m e n o f p d=>jn (nB 5 (ix 22 f d λar=>
 ld 3 ar g λk=>
 bn .geq 3 k (i 0) λa=>
 mS (rG a true g (some (e,g))) λau q=>
 mS (rG a true q (some (d,q))) λav r=>
 mS (rG a true r (ob (JW y 22 au av) λae=>some (ae,r))) λaw h=>
 mS (rG a true h (ob (zB y 3 aw h) λaf=>some (af,h))) λax s=>
 mS (rG a true s (ob (MS y .lss 3 ax (i 0)) λag=>some (ag,s))) λay t=>
 mS (rG a true t (some (ay,t))) λb u=>
 mS (rG b false u (some (k,u))) λaz v=>
 mS (rG b false v (some (e,v))) λaA w=>
 mS (rG b false w (some (d,w))) λaB x=>
 mS (rG b false x (ob (JW y 22 aA aB) λah=>some (ah,x))) λaC j=>
 mS (rG b false j (ob (zB y 3 aC j) λai=>some (ai,j))) λaD z=>
 mS (rG b false z (ob (MS y .lss 3 az aD) λaj=>some (aj,z))) λaE A=>
 mS (rG a true A (ob (Jf b (.bool true) aE) λak=>some (ak,A))) λaF B=>
 ob (Jf a aF (.bool false)) λaG=>
 ob (GV.asB aG) λap=>jn (bC ap (oN [l,m,e,n,o,f,p,d] B) (ix 22 e d λaH=>
 mS (u_ y 3 aH k B) λaK al=>
 oN [l,m,e,n,o,f,p,d] al)) λD am=>U8 D λF G I J K L M N=>oN [F,G,I,J,K,L,M,N] am)) λE an=>U8 E λO P Q R S T U V=>bn .add 3 V (i 1) λaI=>
 oN [O,P,Q,R,S,T,U,aI] an) (ql 4)
def B66 (c:CH) (T:QH) (us:List GV) (H:GH):RS:=U1 us λx1=>
 mS (Qp x1 H) λF P=>
 fd 36 1 F λt4=>
 ld 32 t4 P λt5=>
 ln 32 t5 λt6=>
 bn .eql 3 t6 (i 0) λz=>
 mS (rG z false P (ob (Gq y 36 1 F) λg8=>some (g8,P))) λt9 b=>
 mS (rG z false b (ob (zB y 32 t9 b) λG=>some (G,b))) λU j=>
 mS (rG z false j (ob (Ur y 32 U) λI=>some (I,j))) λV k=>
 mS (rG z false k (ob (MS y .gtr 3 V (i 6)) λJ=>some (J,k))) λW l=>
 ob (Jf z (.bool true) W) λa=>
 mS (rG a false l (ob (Gq y 36 2 F) λL=>some (L,l))) λX d=>
 mS (rG a false d (ob (zB y 34 X d) λM=>some (M,d))) λY m=>
 mS (rG a false m (ob (Ur y 34 Y) λN=>some (N,m))) λaa n=>
 mS (rG a false n (ob (MS y .gtr 3 aa (i 12)) λO=>some (O,n))) λab o=>
 ob (Jf a (.bool true) ab) λac=>
 ob (GV.asB ac) λR=>jn (bC R (oN [F] o) (oR [(i 3)] o)) λA p=>U1 A λe=>ld 36 e p λad=>
 K c 112 [ad] p λae q=>
 ob (SD .not ae) λaf=>
 ob (GV.asB af) λS=>jn (bC S (oN [e] q) (oR [(i 5)] q)) λB r=>U1 B λf=>fd 36 1 f λag=>
 ld 32 ag r λv=>
 ln 32 v λah=>
 jn (nB 0 (T 7 [f,v,ah,(i 0)] r)) λC s=>U1 C λg=>fd 36 2 g λai=>
 ld 34 ai s λw=>
 ln 34 w λaj=>
 jn (nB 2 (T 8 [g,w,aj,(i 0)] s)) λD t=>U1 D λh=>ld 36 h t λak=>
 K c 115 [ak] t λal u=>
 fd 36 2 h λam=>
 ld 34 am u λx=>
 ln 34 x λan=>
 jn (nB 4 (T 9 [al,x,an,(i 0)] u)) λE Q=>U0 E (oR [(i 0)] Q)
def L7 (c:CH) (O:QH) (Q:List GV) (H:GH):RS:=U4 Q λb q d e=>jn (bn .lss 3 e d λG=>
 ob (GV.asB G) λE=>jn (bC E (oX 0 [b] H) (oN [b,q,d,e] H)) λn h=>U4 n λr f s g=>jn (nB 1 (ix 32 f g λI=>
 ld 64 I h λJ=>
 mS (Av y 64 h) λm B=>
 mS (u_ y 64 m J B) λP j=>
 ld 64 m j λL=>
 K c 113 [L] j λM k=>
 ob (SD .not M) λN=>
 ob (GV.asB N) λF=>jn (bC F (oN [r,f,s,g] k) (oR [(i 2)] k)) λo C=>U4 o λt u v w=>oN [t,u,v,w] C)) λp D=>U4 p λx z A a=>bn .add 3 a (i 1) λl=>
 oN [x,z,A,l] D) (O 7)
def L8 (c:CH) (S:QH) (T:List GV) (H:GH):RS:=U4 T λb p d e=>jn (bn .lss 3 e d λF=>
 ob (GV.asB F) λD=>jn (bC D (oX 2 [b] H) (oN [b,p,d,e] H)) λm j=>U4 m λf g q h=>jn (nB 3 (ix 34 g h λG=>
 ld 163 G j λI=>
 mS (Av y 163 j) λl A=>
 mS (u_ y 163 l I A) λR a=>
 ld 163 l a λJ=>
 fd 36 1 f λL=>
 ld 32 L a λM=>
 ln 32 M λN=>
 K c 114 [J,N] a λO k=>
 ob (SD .not O) λP=>
 ob (GV.asB P) λE=>jn (bC E (oN [f,g,q,h] k) (oR [(i 7)] k)) λn B=>U4 n λr s t u=>oN [r,s,t,u] B)) λo C=>U4 o λv w x z=>bn .add 3 z (i 1) λQ=>
 oN [v,w,x,Q] C) (S 8)
def L9 (c:CH) (P:QH) (Q:List GV) (H:GH):RS:=U4 Q λo p a b=>jn (bn .lss 3 b a λF=>
 ob (GV.asB F) λD=>jn (bC D (oX 4 [] H) (oN [o,p,a,b] H)) λl g=>U4 l λd e q f=>jn (nB 5 (ix 34 e f λG=>
 ld 163 G g λI=>
 mS (Av y 163 g) λk A=>
 mS (u_ y 163 k I A) λO h=>
 ld 163 k h λJ=>
 K c 116 [J,d] h λL j=>
 ob (SD .not L) λM=>
 ob (GV.asB M) λE=>jn (bC E (oN [d,e,q,f] j) (oR [(i 6)] j)) λm B=>U4 m λr s t u=>oN [r,s,t,u] B)) λn C=>U4 n λv w x z=>bn .add 3 z (i 1) λN=>
 oN [v,w,x,N] C) (P 9)
def agn (c:CH) (w:QH) (D:List GV) (H:GH):RS:=U1 D λE=>
 mS (Qp E H) λx u=>
 fd 36 0 x λz=>
 ld 9 z u λA=>
 K c 151 [A] u λB v=>
 ob (SD .not B) λC=>
 ob (GV.asB C) λy=>jn (bC y (oN [x] v) (oR [(.bool false)] v)) λg l=>U1 g λa=>mS (Et l) λo b=>
 fd 36 1 a λp=>
 ld 32 p b λe=>
 ln 32 e λq=>
 jn (nB 0 (w 18 [a,o,e,q,(i 0)] b)) λh m=>U1 h λk=>mS (Et m) λr d=>
 fd 36 2 k λs=>
 ld 34 s d λf=>
 ln 34 f λt=>
 jn (nB 2 (w 19 [r,f,t,(i 0)] d)) λj n=>U0 j (oR [(.bool true)] n)
def L18 (c:CH) (ql:QH) (us:List GV) (H:GH):RS:=U5 us λf w x g h=>jn (bn .lss 3 h g λV=>
 ob (GV.asB V) λT=>jn (bC T (oX 0 [f] H) (oN [f,w,x,g,h] H)) λt n=>U5 t λz j k A l=>jn (nB 1 (ix 32 k l λW=>
 ld 64 W n λX=>
 mS (Av y 64 n) λb Q=>
 mS (u_ y 64 b X Q) λak o=>
 fd 64 0 b λY=>
 ld 9 Y o λaa=>
 K c 151 [aa] o λab p=>
 ob (SD .not ab) λa=>
 mS (rG a false p (some (j,p))) λac q=>
 mS (rG a false q (ob (Gq y 64 0 b) λN=>some (N,q))) λad d=>
 mS (rG a false d (ob (zB y 9 ad d) λO=>some (O,d))) λae e=>
 mS (rG a false e (ob (VY y 205 false ac ae e) λP=>some (P,e))) λaf r=>
 ob (Jf a (.bool true) af) λag=>
 ob (GV.asB ag) λU=>jn (bC U (oN [z,j,b,k,A,l] r) (oR [(.bool false)] r)) λu s=>U6 u λB m C D E F=>fd 64 0 C λah=>
 ld 9 ah s λai=>
 mS (Qq y 205 m ai (.bool true) s) λal R=>
 oN [B,m,D,E,F] R)) λv S=>U5 v λG I J L M=>bn .add 3 M (i 1) λaj=>
 oN [G,I,J,L,aj] S) (ql 18)
def L19 (c:CH) (ql:QH) (us:List GV) (H:GH):RS:=U4 us λY aa w x=>jn (bn .lss 3 x w λad=>
 ob (GV.asB ad) λac=>jn (bC ac (oX 2 [] H) (oN [Y,aa,w,x] H)) λX J=>U4 X λz A ab B=>jn (nB 3 (ix 34 A B λae=>
 ld 163 ae J λaf=>
 mS (Av y 163 J) λb F=>
 mS (u_ y 163 b af F) λag g=>
 fd 163 0 b λM=>
 ld 9 M g λN=>
 K c 151 [N] g λO h=>
 ob (SD .not O) λa=>
 mS (rG a false h (some (z,h))) λP j=>
 mS (rG a false j (ob (Gq y 163 0 b) λC=>some (C,j))) λQ d=>
 mS (rG a false d (ob (zB y 9 Q d) λD=>some (D,d))) λR e=>
 mS (rG a false e (ob (VY y 205 false P R e) λE=>some (E,e))) λS k=>
 ob (Jf a (.bool true) S) λT=>
 ob (GV.asB T) λL=>jn (bC L (oN [z,b,A,ab,B] k) (oR [(.bool false)] k)) λm l=>U5 m λf o p q r=>fd 163 0 o λU=>
 ld 9 U l λV=>
 mS (Qq y 205 f V (.bool true) l) λah G=>
 oN [f,p,q,r] G)) λn I=>U4 n λs t u v=>bn .add 3 v (i 1) λW=>
 oN [s,t,u,W] I) (ql 19)
def ago (c:CH) (q:QH) (z:List GV) (H:GH):RS:=U2 z λA B=>
 mS (Qp A H) λr p=>
 fd 29 1 r λw=>
 ld 27 w p λx=>
 ln 27 x λs=>
 mS (VZ y 22 s s p) λt u=>
 ln 22 t λm=>
 jn (nB 0 (q 23 [B,r,t,m,(i 0)] u)) λd h=>U3 d λa f b=>ix 22 b a λn=>
 mS (u_ y 3 n (i 0) h) λv j=>
 mS (Ff y 22 1 [(0,a)] j) λo k=>
 jn (nB 2 (q 24 [f,b,o] k)) λe l=>U1 e λg=>oR [g] l
def L23 (c:CH) (B:QH) (D:List GV) (H:GH):RS:=U5 D λa b d e f=>jn (bn .lss 3 f e λx=>
 ob (GV.asB x) λw=>jn (bC w (oX 0 [a,b,d] H) (oN [a,b,d,e,f] H)) λj t=>U5 j λl m g n h=>jn (nB 1 (ix 22 g h λz=>
 mS (u_ y 3 z (.int .i64 (.negSucc 0)) t) λC u=>
 oN [l,m,g,n,h] u)) λk v=>U5 k λo p q r s=>bn .add 3 s (i 1) λA=>
 oN [o,p,q,r,A] v) (B 23)
def L24 (c:CH) (G:QH) (I:List GV) (H:GH):RS:=U3 I λm b d=>jn (ln 22 d λx=>
 bn .gtr 3 x (i 0) λz=>
 ob (GV.asB z) λw=>jn (bC w (oX 2 [b] H) (oN [m,b,d] H)) λj a=>U3 j λe n f=>jn (nB 3 (ix 22 f (i 0) λA=>
 ld 3 A a λg=>
 ob (If y 22 f (some (i 1)) none a) λB=>
 fd 29 1 e λC=>
 ld 27 C a λD=>
 ix 27 D g λE=>
 ld 69 E a λh=>
 ln 69 h λF=>
 jn (nB 4 (G 25 [e,n,B,g,h,F,(i 0)] a)) λk u=>U3 k λo p q=>oN [o,p,q] u)) λl v=>U3 l λr s t=>oN [r,s,t] v) (G 24)
def L25 (c:CH) (ql:QH) (us:List GV) (H:GH):RS:=U7 us λA B C ah ai D E=>jn (bn .lss 3 E D λal=>
 ob (GV.asB al) λak=>jn (bC ak (oX 4 [A,B,C] H) (oN [A,B,C,ah,ai,D,E] H)) λag N=>U7 ag λF b G f g I h=>jn (nB 5 (ix 69 g h λam=>
 ld 141 am N λan=>
 mS (Av y 141 N) λd aj=>
 mS (u_ y 141 d an aj) λao a=>
 fd 141 0 d λP=>
 ld 3 P a λQ=>
 ix 22 b Q λR=>
 ld 3 R a λS=>
 bn .lss 3 S (i 0) λT=>
 ob (GV.asB T) λO=>jn (bC O (oN [F,b,G,f,g,I,h] a) (fd 141 0 d λU=>
 ld 3 U a λV=>
 ix 22 b f λW=>
 ld 3 W a λX=>
 bn .add 3 X (i 1) λY=>
 ix 22 b V λaa=>
 mS (u_ y 3 aa Y a) λap e=>
 fd 141 0 d λab=>
 ld 3 ab e λac=>
 mS (Ff y 22 1 [(0,ac)] e) λad J=>
 mS (Xp y 22 22 G ad J) λae K=>
 oN [F,b,ae,f,g,I,h] K)) λj L=>U7 j λl m n o p q r=>oN [l,m,n,o,p,q,r] L)) λk M=>U7 k λs t u v w x z=>bn .add 3 z (i 1) λaf=>
 oN [s,t,u,v,w,x,af] M) (ql 25)
def agp (c:CH) (D:QH) (V:List GV) (H:GH):RS:=U1 V λW=>
 mS (Qp W H) λI P=>
 fd 36 1 I λR=>
 ld 32 R P λS=>
 ln 32 S λT=>
 K c 192 [T,(i 1),(i 6)] P λU Q=>
 ob (SD .not U) λj=>
 mS (rG j false Q (ob (Gq y 36 2 I) λs=>some (s,Q))) λE a=>
 mS (rG j false a (ob (zB y 34 E a) λt=>some (t,a))) λF d=>
 mS (rG j false d (ob (Ur y 34 F) λu=>some (u,d))) λG e=>
 mS (rG j false e (ob (MS y .gtr 3 G (i 12)) λv=>some (v,e))) λJ f=>
 ob (Jf j (.bool true) J) λL=>
 ob (GV.asB L) λB=>jn (bC B (oN [I] f) (oR [(i 3)] f)) λk g=>U1 k λb=>ld 36 b g λM=>
 K c 193 [M] g λN h=>
 ob (SD .not N) λO=>
 ob (GV.asB O) λC=>jn (bC C (oN [b] h) (oR [(i 5)] h)) λl w=>U1 l λp=>jn (nB 0 (D 42 [p,(i 0)] w)) λm x=>U1 m λq=>jn (nB 2 (D 43 [q,(i 0)] x)) λn z=>U1 n λr=>jn (nB 4 (D 44 [r,(i 0)] z)) λo A=>U0 o (oR [(i 0)] A)
def L42 (c:CH) (E:QH) (F:List GV) (H:GH):RS:=U2 F λa d=>jn (fd 36 1 a λt=>
 ld 32 t H λu=>
 ln 32 u λv=>
 bn .lss 3 d v λw=>
 ob (GV.asB w) λr=>jn (bC r (oX 0 [a] H) (oN [a,d] H)) λh b=>U2 h λe f=>jn (nB 1 (fd 36 1 e λx=>
 ld 32 x b λy=>
 ix 32 y f λz=>
 ld 64 z b λA=>
 K c 194 [A] b λB g=>
 ob (SD .not B) λC=>
 ob (GV.asB C) λs=>jn (bC s (oN [e,f] g) (oR [(i 2)] g)) λj p=>U2 j λl m=>oN [l,m] p)) λk q=>U2 k λn o=>bn .add 3 o (i 1) λD=>
 oN [n,D] q) (E 42)
def L43 (c:CH) (I:QH) (J:List GV) (H:GH):RS:=U2 J λb f=>jn (fd 36 2 b λu=>
 ld 34 u H λv=>
 ln 34 v λw=>
 bn .lss 3 f w λx=>
 ob (GV.asB x) λs=>jn (bC s (oX 2 [b] H) (oN [b,f] H)) λk a=>U2 k λd g=>jn (nB 3 (fd 36 2 d λy=>
 ld 34 y a λz=>
 ix 34 z g λA=>
 ld 163 A a λB=>
 fd 36 1 d λC=>
 ld 32 C a λD=>
 ln 32 D λE=>
 K c 195 [B,E] a λF h=>
 ob (SD .not F) λG=>
 ob (GV.asB G) λt=>jn (bC t (oN [d,g] h) (oR [(i 7)] h)) λl q=>U2 l λn o=>oN [n,o] q)) λm r=>U2 m λp e=>bn .add 3 e (i 1) λj=>
 oN [p,j] r) (I 43)
def L44 (c:CH) (T:QH) (U:List GV) (H:GH):RS:=U2 U λe f=>jn (fd 36 2 e λE=>
 ld 34 E H λF=>
 ln 34 F λG=>
 bn .lss 3 f G λI=>
 ob (GV.asB I) λC=>jn (bC C (oX 4 [] H) (oN [e,f] H)) λo a=>U2 o λb g=>jn (nB 5 (fd 36 2 b λm=>
 ld 34 m a λJ=>
 ob (Option.casesOn (motive:=λ_=>Option (Option (Nat×Nat))) (ob (GV.asP m) λp=>some p.1) (some none) λj=>ob (GH.ver a j) λz=>some (some (j,z))) λR=>
 ix 34 J g λn=>
 ld 163 n a λL=>
 ob (Option.casesOn (motive:=λ_=>Option (Option (Nat×Nat))) (ob (GV.asP n) λp=>some p.1) (some none) λk=>ob (GH.ver a k) λA=>some (some (k,A))) λw=>
 ld 36 b a λM=>
 ob (Option.casesOn (motive:=λ_=>Option (Option (Nat×Nat))) (ob (GV.asP b) λp=>some p.1) (some none) λl=>ob (GH.ver a l) λB=>some (some (l,B))) λS=>
 K c 197 [M] a λN d=>
 ob (pck d w (pck d R (some ()))) λ_=>
 K c 196 [L,N] d λO h=>
 ob (some ()) λ_=>
 ob (SD .not O) λP=>
 ob (GV.asB P) λD=>jn (bC D (oN [b,g] h) (oR [(i 6)] h)) λq x=>U2 q λs t=>oN [s,t] x)) λr y=>U2 r λu v=>bn .add 3 v (i 1) λQ=>
 oN [u,Q] y) (T 44)
def agq (c:CH) (m:QH) (t:List GV) (H:GH):RS:=U1 t λu=>
 mS (Qp u H) λn k=>
 fd 36 0 n λp=>
 ld 9 p k λq=>
 K c 226 [q] k λr l=>
 ob (SD .not r) λs=>
 ob (GV.asB s) λo=>jn (bC o (oN [n] l) (oR [(.bool false)] l)) λa g=>U1 a λe=>jn (nB 0 (m 56 [e,(i 0)] g)) λb h=>U1 b λf=>jn (nB 4 (m 57 [f,(i 0)] h)) λd j=>U0 d (oR [(.bool true)] j)
def L56 (c:CH) (L:QH) (M:List GV) (H:GH):RS:=U2 M λa d=>jn (fd 36 1 a λx=>
 ld 32 x H λy=>
 ln 32 y λz=>
 bn .lss 3 d z λA=>
 ob (GV.asB A) λv=>jn (bC v (oX 0 [a] H) (oN [a,d] H)) λh s=>U2 h λm n=>jn (nB 1 (jn (nB 2 (L 58 [m,n,(i 0)] s)) λj b=>U2 j λe f=>fd 36 1 e λB=>
 ld 32 B b λC=>
 ix 32 C f λD=>
 fd 64 0 D λE=>
 ld 9 E b λF=>
 K c 226 [F] b λG g=>
 ob (SD .not G) λI=>
 ob (GV.asB I) λw=>jn (bC w (oN [e,f] g) (oR [(.bool false)] g)) λk t=>U2 k λo p=>oN [o,p] t)) λl u=>U2 l λq r=>bn .add 3 r (i 1) λJ=>
 oN [q,J] u) (L 56)
def L57 (c:CH) (L:QH) (M:List GV) (H:GH):RS:=U2 M λb d=>jn (fd 36 2 b λx=>
 ld 34 x H λy=>
 ln 34 y λz=>
 bn .lss 3 d z λA=>
 ob (GV.asB A) λv=>jn (bC v (oX 4 [] H) (oN [b,d] H)) λh s=>U2 h λm n=>jn (nB 5 (jn (nB 6 (L 59 [m,n,(i 0)] s)) λj a=>U2 j λe f=>fd 36 2 e λB=>
 ld 34 B a λC=>
 ix 34 C f λD=>
 fd 163 0 D λE=>
 ld 9 E a λF=>
 K c 226 [F] a λG g=>
 ob (SD .not G) λI=>
 ob (GV.asB I) λw=>jn (bC w (oN [e,f] g) (oR [(.bool false)] g)) λk t=>U2 k λo p=>oN [o,p] t)) λl u=>U2 l λq r=>bn .add 3 r (i 1) λJ=>
 oN [q,J] u) (L 57)
def L58 (c:CH) (K:QH) (L:List GV) (H:GH):RS:=U3 L λn b o=>jn (bn .lss 3 o b λC=>
 ob (GV.asB C) λB=>jn (bC B (oX 2 [n,b] H) (oN [n,b,o] H)) λA a=>U3 A λd p q=>jn (nB 3 (fd 36 1 d λD=>
 ld 32 D a λE=>
 ix 32 E q λF=>
 fd 64 0 F λG=>
 ld 9 G a λI=>
 fd 36 1 d λJ=>
 ld 32 J a λu=>
 ix 32 u p λv=>
 fd 64 0 v λw=>
 ld 9 w a λx=>
 bn .eql 9 I x λy=>
 ob (GV.asB y) λt=>jn (bC t (oN [d,p,q] a) (oR [(.bool false)] a)) λe r=>U3 e λg h j=>oN [g,h,j] r)) λf s=>U3 f λk l m=>bn .add 3 m (i 1) λz=>
 oN [k,l,z] s) (K 58)
def L59 (c:CH) (K:QH) (L:List GV) (H:GH):RS:=U3 L λe b f=>jn (bn .lss 3 f b λw=>
 ob (GV.asB w) λu=>jn (bC u (oX 6 [e,b] H) (oN [e,b,f] H)) λj a=>U3 j λd g h=>jn (nB 7 (fd 36 2 d λx=>
 ld 34 x a λy=>
 ix 34 y h λz=>
 fd 163 0 z λA=>
 ld 9 A a λB=>
 fd 36 2 d λC=>
 ld 34 C a λD=>
 ix 34 D g λE=>
 fd 163 0 E λF=>
 ld 9 F a λG=>
 bn .eql 9 B G λI=>
 ob (GV.asB I) λv=>jn (bC v (oN [d,g,h] a) (oR [(.bool false)] a)) λk s=>U3 k λm n o=>oN [m,n,o] s)) λl t=>U3 l λp q r=>bn .add 3 r (i 1) λJ=>
 oN [p,q,J] t) (K 59)
def agr (c:CH) (f:QH) (g:List GV) (H:GH):RS:=U1 g λh=>
 jn (nB 0 (f 72 [h,(i 0),(i 0),.snil,.snil,(i 0)] H)) λa e=>U2 a λb d=>oR [b,d] e
def L72 (c:CH) (ql:QH) (us:List GV) (H:GH):RS:=U6 us λa6 a7 a8 a9 u h=>jn (ln 160 a6 λad=>
 bn .lss 3 h ad λae=>
 ob (GV.asB ae) λac=>jn (bC ac (oX 0 [a7,a8] H) (oN [a6,a7,a8,a9,u,h] H)) λq b=>U6 q λe v w x z f=>jn (nB 1 (ix 160 e f λaf=>
 fd 213 0 af λn=>
 ld 3 n b λag=>
 ob (Option.casesOn (motive:=λ_=>Option (Option (Nat×Nat))) (ob (GV.asP n) λp=>some p.1) (some none) λm=>ob (GH.ver b m) λab=>some (some (m,ab))) λav=>
 K c 162 [ag] b λah k=>
 ob (some ()) λ_=>
 mS (Ff y 22 1 [(0,ah)] k) λai l=>
 ob (some ()) λ_=>
 mS (Xp y 22 22 x ai l) λaj g=>
 ob (some ()) λ_=>
 ix 160 e f λak=>
 fd 213 0 ak λo=>
 ld 3 o g λal=>
 ob (Option.casesOn (motive:=λ_=>Option (Option (Nat×Nat))) (ob (GV.asP o) λp=>some p.1) (some none) λa=>ob (GH.ver g a) λd=>vck l a d (vck k a d (vck b a d (some (some (a,d)))))) λaw=>
 K c 164 [al] g λam U=>
 ob (some ()) λ_=>
 mS (Ff y 268 1 [(0,am)] U) λan V=>
 ob (some ()) λ_=>
 mS (Xp y 268 268 z an V) λao W=>
 ob (some ()) λ_=>
 jn (nB 2 (ql 73 [e,v,w,aj,ao,f,(i 0),(i 0)] W)) λr X=>U7 r λA B C j D E F=>ln 22 j λap=>
 ob (Xr B ap) λaq=>
 ob (Xr C F) λar=>
 jn (nB 4 (ql 74 [A,aq,ar,j,D,E] X)) λs Y=>U6 s λG I J L M N=>oN [G,I,J,L,M,N] Y)) λt aa=>U6 t λO P Q R S T=>bn .add 3 T (i 1) λau=>
 oN [O,P,Q,R,S,au] aa) (ql 72)
def L73 (c:CH) (X:QH) (Y:List GV) (H:GH):RS:=U8 Y λy z A B a C D E=>jn (ln 268 a λT=>
 bn .lss 3 E T λU=>
 ob (GV.asB U) λR=>jn (bC R (oX 2 [y,z,A,B,a,C,D] H) (oN [y,z,A,B,a,C,D,E] H)) λQ e=>U8 Q λF G I J b K L d=>jn (nB 3 (ix 268 b d λV=>
 ld 4 V e λW=>
 ob (GV.asB W) λS=>jn (bC S (oN [F,G,I,J,b,K,L,d] e) (bn .add 3 L (i 1) λO=>
 oN [F,G,I,J,b,K,O,d] e)) λf M=>U8 f λh j k l m n o p=>oN [h,j,k,l,m,n,o,p] M)) λg N=>U8 g λq r s t u v w x=>bn .add 3 x (i 1) λP=>
 oN [q,r,s,t,u,v,w,P] N) (X 73)
def L74 (c:CH) (ql:QH) (us:List GV) (H:GH):RS:=U6 us λg h j d k l=>jn (ln 22 d λac=>
 bn .gtr 3 ac (i 0) λa=>
 mS (rG a true H (some (d,H))) λad s=>
 mS (rG a true s (some (d,s))) λae t=>
 mS (rG a true t (ob (Ur y 22 ae) λR=>some (R,t))) λaf u=>
 mS (rG a true u (ob (MS y .sub 3 af (i 1)) λS=>some (S,u))) λag v=>
 mS (rG a true v (ob (JW y 22 ad ag) λT=>some (T,v))) λah f=>
 mS (rG a true f (ob (zB y 3 ah f) λU=>some (U,f))) λai w=>
 mS (rG a true w (ob (MS y .eql 3 ai (i 0)) λV=>some (V,w))) λaj x=>
 ob (Jf a aj (.bool false)) λak=>
 ob (GV.asB ak) λaa=>jn (bC aa (oX 4 [g,h,j,d,k,l] x) (oN [g,h,j,d,k,l] x)) λB e=>U6 B λm n o p q r=>jn (nB 5 (ln 22 p λal=>
 bn .sub 3 al (i 1) λam=>
 ob (If y 22 p none (some am) e) λb=>
 ln 268 q λan=>
 bn .sub 3 an (i 1) λao=>
 ob (If y 268 q none (some ao) e) λz=>
 ln 22 b λap=>
 bn .gtr 3 ap (i 0) λaq=>
 ob (GV.asB aq) λab=>jn (bC ab (oN [m,n,o,b,z,r] e) (ln 22 b λar=>
 bn .sub 3 ar (i 1) λA=>
 ix 22 b A λau=>
 ld 3 au e λav=>
 bn .sub 3 av (i 1) λaw=>
 ix 22 b A λax=>
 mS (u_ y 3 ax aw e) λay W=>
 oN [m,n,o,b,z,r] W)) λC X=>U6 C λE F G I J K=>oN [E,F,G,I,J,K] X)) λD Y=>U6 D λL M N O P Q=>oN [L,M,N,O,P,Q] Y) (ql 74)
def ags (c:CH) (ql:QH) (us:List GV) (H:GH):RS:=U2 us λb a=>
 jn (nB 0 (bn .eql 3 b (i 20) λt3=>
 ob (GV.asB t3) λq4=>jn (bC q4 (bn .eql 3 b (i 21) λao=>
 ob (GV.asB ao) λaf=>jn (bC af (bn .eql 3 b (i 22) λau=>
 ob (GV.asB au) λag=>jn (bC ag (bn .eql 3 b (i 23) λaw=>
 ob (GV.asB aw) λah=>jn (bC ah (bn .eql 3 b (i 24) λay=>
 ob (GV.asB ay) λai=>jn (bC ai (bn .eql 3 b (i 25) λaA=>
 ob (GV.asB aA) λaj=>jn (bC aj (bn .eql 3 b (i 26) λaC=>
 ob (GV.asB aC) λak=>jn (bC ak (bn .eql 3 b (i 27) λaF=>
 ob (GV.asB aF) λal=>jn (bC al (bn .eql 3 b (i 28) λaH=>
 ob (GV.asB aH) λam=>jn (bC am (oN [a] H) (K c 268 [a] H λh U=>
 ex 0 h λaO=>
 ex 1 h λaI=>
 oR [aI] U)) λl V=>U1 l λy=>oN [y] V) (K c 269 [a] H λaG T=>
 oR [aG] T)) λm W=>U1 m λz=>oN [z] W) (ln 22 a λaD=>
 jn (nB 3 (ql 76 [(i 0),a,aD,(i 0)] H)) λk R=>U1 k λx=>K c 259 [x] R λaE S=>
 oR [aE] S)) λn X=>U1 n λA=>oN [A] X) (K c 268 [a] H λg Q=>
 ex 0 g λaB=>
 ex 1 g λaN=>
 oR [aB] Q)) λo Y=>U1 o λB=>oN [B] Y) (ln 22 a λaz=>
 jn (nB 1 (ql 75 [(i 1073741824),a,az,(i 0)] H)) λj P=>U1 j λw=>oR [w] P)) λp aa=>U1 p λC=>oN [C] aa) (K c 266 [a,(.fn 267 [] [])] H λax O=>
 oR [ax] O)) λq ab=>U1 q λD=>oN [D] ab) (K c 265 [a] H λav N=>
 oR [av] N)) λr ac=>U1 r λE=>oN [E] ac) (K c 265 [a] H λap L=>
 bn .gtr 3 ap (i 0) λaq=>
 K c 257 [aq] L λar M=>
 oR [ar] M)) λs ad=>U1 s λF=>oN [F] ad) (K c 265 [a] H λt5 h6=>
 ln 22 a λt7=>
 bn .eql 3 t5 t7 λt8=>
 K c 257 [t8] h6 λt9 J=>
 oR [t9] J)) λt ae=>U1 t λG=>oN [G] ae)) λu e=>U1 u λd=>ln 22 d λaJ=>
 bn .eql 3 aJ (i 0) λaK=>
 ob (GV.asB aK) λan=>jn (bC an (oN [d] e) (oR [(i 0)] e)) λv f=>U1 v λI=>ix 22 I (i 0) λaL=>
 ld 3 aL f λaM=>
 oR [aM] f
def L75 (c:CH) (y:QH) (z:List GV) (H:GH):RS:=U4 z λn v o p=>jn (bn .lss 3 p o λx=>
 ob (GV.asB x) λw=>jn (bC w (oX 1 [n] H) (oN [n,v,o,p] H)) λe d=>U4 e λg a h b=>jn (nB 2 (ix 22 a b λr=>
 ld 3 r d λs=>
 ob (aaG g s) λt=>
 oN [t,a,h,b] d)) λf q=>U4 f λj k l m=>bn .add 3 m (i 1) λu=>
 oN [j,k,l,u] q) (y 75)
def L76 (c:CH) (y:QH) (z:List GV) (H:GH):RS:=U4 z λa k b d=>jn (bn .lss 3 d b λt=>
 ob (GV.asB t) λs=>jn (bC s (oX 3 [a] H) (oN [a,k,b,d] H)) λh g=>U4 h λl e m f=>jn (nB 4 (ix 22 e f λu=>
 ld 3 u g λv=>
 bn .add 3 l v λw=>
 oN [w,e,m,f] g)) λj r=>U4 j λn o p q=>bn .add 3 q (i 1) λx=>
 oN [n,o,p,x] r) (y 76)
def d0:(Code×Cx)×fN:=gD1 (cN Tryz.f34 [1,1,0,1,0,0],gA Tryz.f34 [(0,12)]) 1 0 1
def d1:(Code×Cx)×fN:=gD (cN Tryz.f34 [1,1,0,1,0,0,1,1,0,0,1,1,1,0,0],gA Tryz.f34 [(2,3612),(1,3612),(0,12)]) 1
def d2:(Code×Cx)×fN:=((cN Tryz.f37 [1,1,0,1,0,0],gA Tryz.f37 [(0,38)]),L2)
def d3:(Code×Cx)×fN:=((cN Tryz.f37 [1,1,1,0,1,0,0],gA Tryz.f37 [(2,32)]),L3)
def d4:(Code×Cx)×fN:=((cN Tryz.f37 [1,1,1,0,1,0,0,1,1,0,0,1,1,1,0,0],gA Tryz.f37 [(4,100663334),(3,100663334),(2,32)]),L4)
def d5:(Code×Cx)×fN:=gD (cN Tryz.f41 [1,1,1,0,1,0,0],gA Tryz.f41 [(0,128)]) 5
def d6:(Code×Cx)×fN:=gD (cN Tryz.f63 [1,1,1,0,1,0,0],gA Tryz.f63 [(0,32)]) 6
def d7:(Code×Cx)×fN:=((cN Tryz.f66 [1,1,1,0,1,0,0],gA Tryz.f66 [(0,2)]),L7)
def d8:(Code×Cx)×fN:=((cN Tryz.f66 [1,1,1,1,0,1,0,0],gA Tryz.f66 [(2,2)]),L8)
def d9:(Code×Cx)×fN:=((cN Tryz.f66 [1,1,1,1,1,1,0,1,0,0],gA Tryz.f66 [(4,0)]),L9)
def d10:(Code×Cx)×fN:=gD1 (cN Tryz.f89 [1,1,0,1,0,0],gA Tryz.f89 [(0,8)]) 1 10 11
def d11:(Code×Cx)×fN:=gD (cN Tryz.f89 [1,1,0,1,0,0,1,1,0,0,1,1,0,0],gA Tryz.f89 [(2,57352),(1,57352),(0,8)]) 11
def d12:(Code×Cx)×fN:=gD (cN Tryz.f91 [1,1,1,1,1,1,1,0,1,0,0],gA Tryz.f91 [(0,5378)]) 12
def d13:(Code×Cx)×fN:=gD1 (cN Tryz.f101 [1,0,0,0],gA Tryz.f101 [(0,2)]) 1 13 14
def d14:(Code×Cx)×fN:=gD (cN Tryz.f101 [1,0,0,0,1,0,1,0,1,1,1,0,0,0],gA Tryz.f101 [(3,3),(2,3),(1,3),(0,2)]) 14
def d15:(Code×Cx)×fN:=gD (cN Tryz.f106 [1,1,1,0,1,0,0],gA Tryz.f106 [(0,33)]) 15
def d16:(Code×Cx)×fN:=gD (cN Tryz.f107 [1,0,0],gA Tryz.f107 [(0,0)]) 16
def d17:(Code×Cx)×fN:=gD (cN Tryz.f109 [1,1,1,1,1,0,0,0],gA Tryz.f109 [(0,5)]) 17
def d18:(Code×Cx)×fN:=((cN Tryz.f112 [1,1,1,0,1,0,0],gA Tryz.f112 [(0,2)]),L18)
def d19:(Code×Cx)×fN:=((cN Tryz.f112 [1,1,1,1,1,0,1,0,0],gA Tryz.f112 [(2,0)]),L19)
def d20:(Code×Cx)×fN:=gD (cN Tryz.f114 [1,1,1,0,1,0,0],gA Tryz.f114 [(0,0)]) 20
def d21:(Code×Cx)×fN:=gD (cN Tryz.f115 [1,1,0,1,0,0],gA Tryz.f115 [(0,8)]) 21
def d22:(Code×Cx)×fN:=gD (cN Tryz.f116 [1,1,0,1,0,0],gA Tryz.f116 [(0,0)]) 22
def d23:(Code×Cx)×fN:=((cN Tryz.f117 [1,1,0,1,0,0],gA Tryz.f117 [(0,38)]),L23)
def d24:(Code×Cx)×fN:=((cN Tryz.f117 [1,1,1,1,1,0,0,0],gA Tryz.f117 [(2,32)]),L24)
def d25:(Code×Cx)×fN:=((cN Tryz.f117 [1,1,1,1,1,0,0,0,1,0,1,1,1,0,0],gA Tryz.f117 [(4,164),(3,164),(2,32)]),L25)
def d26:(Code×Cx)×fN:=gD (cN Tryz.f127 [1,1,1,0,1,0,0],gA Tryz.f127 [(0,0)]) 26
def d27:(Code×Cx)×fN:=gD (cN Tryz.f128 [1,1,0,1,0,0],gA Tryz.f128 [(0,0)]) 27
def d28:(Code×Cx)×fN:=gD1 (cN Tryz.f129 [1,1,0,1,0,0],gA Tryz.f129 [(0,32)]) 1 28 29
def d29:(Code×Cx)×fN:=gD (cN Tryz.f129 [1,1,0,1,0,0,1,1,0,0,1,1,1,0,0],gA Tryz.f129 [(2,49196),(1,49196),(0,32)]) 29
def d30:(Code×Cx)×fN:=gD1 (cN Tryz.f130 [1,1,0,1,0,0],gA Tryz.f130 [(0,32)]) 1 30 31
def d31:(Code×Cx)×fN:=gD (cN Tryz.f130 [1,1,0,1,0,0,1,1,0,0,1,1,1,0,0],gA Tryz.f130 [(2,3670056),(1,3670056),(0,32)]) 31
def d32:(Code×Cx)×fN:=gD (cN Tryz.f131 [1,1,0,1,0,0],gA Tryz.f131 [(0,8)]) 32
def d33:(Code×Cx)×fN:=gD (cN Tryz.f134 [1,1,0,1,0,0],gA Tryz.f134 [(0,128)]) 33
def d34:(Code×Cx)×fN:=gD (cN Tryz.f139 [1,1,0,1,0,0],gA Tryz.f139 [(0,32)]) 34
def d35:(Code×Cx)×fN:=gD (cN Tryz.f141 [1,0,1,0,0],gA Tryz.f141 [(0,0)]) 35
def d36:(Code×Cx)×fN:=gD (cN Tryz.f142 [1,1,0,0,0],gA Tryz.f142 [(0,32)]) 36
def d37:(Code×Cx)×fN:=gD (cN Tryz.f146 [1,1,1,0,1,0,0],gA Tryz.f146 [(0,16)]) 37
def d38:(Code×Cx)×fN:=gD (cN Tryz.f147 [1,0,1,0,0],gA Tryz.f147 [(0,1)]) 38
def d39:(Code×Cx)×fN:=gD (cN Tryz.f151 [1,1,0,1,0,0],gA Tryz.f151 [(0,1)]) 39
def d40:(Code×Cx)×fN:=gD (cN Tryz.f159 [1,1,0,1,0,0],gA Tryz.f159 [(0,1)]) 40
def d41:(Code×Cx)×fN:=gD (cN Tryz.f160 [1,1,0,1,0,0],gA Tryz.f160 [(0,7)]) 41
def d42:(Code×Cx)×fN:=((cN Tryz.f161 [1,1,1,0,1,0,0],gA Tryz.f161 [(0,2)]),L42)
def d43:(Code×Cx)×fN:=((cN Tryz.f161 [1,1,1,1,0,1,0,0],gA Tryz.f161 [(2,2)]),L43)
def d44:(Code×Cx)×fN:=((cN Tryz.f161 [1,1,1,1,1,0,1,0,0],gA Tryz.f161 [(4,0)]),L44)
def d45:(Code×Cx)×fN:=gD (cN Tryz.f168 [1,1,1,0,1,0,0],gA Tryz.f168 [(0,128)]) 45
def d46:(Code×Cx)×fN:=gD (cN Tryz.f170 [1,1,0,1,0,0],gA Tryz.f170 [(0,0)]) 46
def d47:(Code×Cx)×fN:=gD (cN Tryz.f171 [1,1,0,1,0,0],gA Tryz.f171 [(0,0)]) 47
def d48:(Code×Cx)×fN:=gD (cN Tryz.f172 [1,0,1,0,0],gA Tryz.f172 [(0,0)]) 48
def d49:(Code×Cx)×fN:=gD (cN Tryz.f174 [1,1,0,1,0,0],gA Tryz.f174 [(0,512)]) 49
def d50:(Code×Cx)×fN:=gD (cN Tryz.f176 [1,0,1,0,0],gA Tryz.f176 [(0,0)]) 50
def d51:(Code×Cx)×fN:=gD (cN Tryz.f184 [1,1,1,0,0],gA Tryz.f184 [(0,16)]) 51
def d52:(Code×Cx)×fN:=gD (cN Tryz.f185 [1,1,0,1,0,0],gA Tryz.f185 [(0,32)]) 52
def d53:(Code×Cx)×fN:=gD (cN Tryz.f186 [1,0,1,0,0],gA Tryz.f186 [(0,0)]) 53
def d54:(Code×Cx)×fN:=gD (cN Tryz.f187 [1,1,0,1,0,0],gA Tryz.f187 [(0,0)]) 54
def d55:(Code×Cx)×fN:=gD (cN Tryz.f191 [1,1,1,1,1,1,0,1,0,0],gA Tryz.f191 [(0,1408)]) 55
def d56:(Code×Cx)×fN:=((cN Tryz.f193 [1,1,0,1,0,0],gA Tryz.f193 [(0,2)]),L56)
def d57:(Code×Cx)×fN:=((cN Tryz.f193 [1,1,1,0,1,0,0],gA Tryz.f193 [(4,0)]),L57)
def d58:(Code×Cx)×fN:=((cN Tryz.f193 [1,1,0,1,0,0,1,0,0,0,1,0,0],gA Tryz.f193 [(2,10),(1,10),(0,2)]),L58)
def d59:(Code×Cx)×fN:=((cN Tryz.f193 [1,1,1,0,1,0,0,1,0,0,0,1,0,0],gA Tryz.f193 [(6,34),(5,34),(4,0)]),L59)
def d60:(Code×Cx)×fN:=gD1 (cN Tryz.f195 [1,1,0,1,0,0],gA Tryz.f195 [(0,0)]) 1 60 61
def d61:(Code×Cx)×fN:=gD (cN Tryz.f195 [1,1,0,1,0,0,1,0,0,1,1,0,0],gA Tryz.f195 [(2,38),(1,38),(0,0)]) 61
def d62:(Code×Cx)×fN:=gD (cN Tryz.f196 [1,1,0,1,0,0],gA Tryz.f196 [(0,0)]) 62
def d63:(Code×Cx)×fN:=gD (cN Tryz.f197 [1,1,0,1,0,0],gA Tryz.f197 [(0,8)]) 63
def d64:(Code×Cx)×fN:=gD (cN Tryz.f204 [1,1,1,0,1,0,0],gA Tryz.f204 [(0,0)]) 64
def d65:(Code×Cx)×fN:=gD (cN Tryz.f206 [1,1,1,0,1,0,0],gA Tryz.f206 [(0,8)]) 65
def d66:(Code×Cx)×fN:=gD1 (cN Tryz.f219 [1,1,1,0,1,0,0],gA Tryz.f219 [(0,64)]) 1 66 67
def d67:(Code×Cx)×fN:=gD (cN Tryz.f219 [1,1,1,0,1,0,0,1,0,0,1,1,0,1,0,0],gA Tryz.f219 [(2,963),(1,195),(0,64)]) 67
def d68:(Code×Cx)×fN:=gD (cN Tryz.f226 [1,1,0,1,0,0],gA Tryz.f226 [(0,1)]) 68
def d69:(Code×Cx)×fN:=gD (cN Tryz.f228 [1,1,0,1,0,0],gA Tryz.f228 [(0,0)]) 69
def d70:(Code×Cx)×fN:=gD (cN Tryz.f234 [1,1,0,1,0,0],gA Tryz.f234 [(0,0)]) 70
def d71:(Code×Cx)×fN:=gD (cN Tryz.f249 [1,1,1,0,1,0,0],gA Tryz.f249 [(0,903)]) 71
def d72:(Code×Cx)×fN:=((cN Tryz.f255 [1,1,1,1,0,1,0,0],gA Tryz.f255 [(0,48)]),L72)
def d73:(Code×Cx)×fN:=((cN Tryz.f255 [1,1,1,1,0,1,0,0,1,0,0,1,1,0,1,0,0],gA Tryz.f255 [(2,1009),(1,497),(0,48)]),L73)
def d74:(Code×Cx)×fN:=((cN Tryz.f255 [1,1,1,1,0,1,0,0,1,0,0,1,1,1,1,0,0],gA Tryz.f255 [(4,497),(1,497),(0,48)]),L74)
def d75:(Code×Cx)×fN:=((cN Tryz.f258 [1,0,1,0,1,1,1,1,1,1,1,1,1,0,1,0,1,0,0],gA Tryz.f258 [(1,32),(0,2)]),L75)
def d76:(Code×Cx)×fN:=((cN Tryz.f258 [1,0,1,0,1,1,1,1,1,1,1,1,1,1,1,1,1,0,1,0,1,0,0],gA Tryz.f258 [(3,1024),(0,2)]),L76)
def d77:(Code×Cx)×fN:=gD (cN Tryz.f265 [1,1,0,1,0,0],gA Tryz.f265 [(0,8)]) 77
def d78:(Code×Cx)×fN:=gD (cN Tryz.f266 [1,0,1,0,0],gA Tryz.f266 [(0,0)]) 78
def d79:(Code×Cx)×fN:=gD (cN Tryz.f268 [1,1,0,1,0,0],gA Tryz.f268 [(0,12)]) 79
def d80:(Code×Cx)×fN:=gD (cN Tryz.f269 [1,1,0,0,0],gA Tryz.f269 [(0,8)]) 80
def d81:(Code×Cx)×fN:=gD (cN Tryz.f272 [1,0,1,0,0],gA Tryz.f272 [(0,0)]) 81
def VB (f:Nat):Option (Func×fN):=(tN f 180 (tN f 128 (tN f 90 (tN f 52 (tN f 32 (tN f 14 (tN f 10 (tL f 8 (Tryz.f8,(gB Tryz.f8))) (tL f 10 (Tryz.f10,(gB Tryz.f10)))) (tN f 18 (tL f 14 (Tryz.f14,(gB Tryz.f14))) (tN f 22 (tL f 18 (Tryz.f18,(gB Tryz.f18))) (tL f 22 (Tryz.f22,(gB Tryz.f22)))))) (tN f 37 (tN f 34 (tL f 32 (Tryz.f32,(gB Tryz.f32))) (tL f 34 (Tryz.f34,(mV Tryz.f34 0)))) (tN f 41 (tL f 37 (Tryz.f37,B37)) (tN f 51 (tL f 41 (Tryz.f41,(mV Tryz.f41 5))) (tL f 51 (Tryz.f51,(gB Tryz.f51))))))) (tN f 66 (tN f 54 (tN f 53 (tL f 52 (Tryz.f52,(gB Tryz.f52))) (tL f 53 (Tryz.f53,(gB Tryz.f53)))) (tN f 63 (tL f 54 (Tryz.f54,(gB Tryz.f54))) (tN f 65 (tL f 63 (Tryz.f63,(mV Tryz.f63 6))) (tL f 65 (Tryz.f65,(gB Tryz.f65)))))) (tN f 87 (tN f 71 (tL f 66 (Tryz.f66,B66)) (tN f 86 (tL f 71 (Tryz.f71,(gB Tryz.f71))) (tL f 86 (Tryz.f86,(gB Tryz.f86))))) (tN f 88 (tL f 87 (Tryz.f87,(gB Tryz.f87))) (tN f 89 (tL f 88 (Tryz.f88,(gB Tryz.f88))) (tL f 89 (Tryz.f89,(mV Tryz.f89 10)))))))) (tN f 109 (tN f 102 (tN f 92 (tN f 91 (tL f 90 (Tryz.f90,(gB Tryz.f90))) (tL f 91 (Tryz.f91,(mV Tryz.f91 12)))) (tN f 98 (tL f 92 (Tryz.f92,(gB Tryz.f92))) (tN f 101 (tL f 98 (Tryz.f98,(gB Tryz.f98))) (tL f 101 (Tryz.f101,(mV Tryz.f101 13)))))) (tN f 106 (tN f 105 (tL f 102 (Tryz.f102,(gB Tryz.f102))) (tL f 105 (Tryz.f105,(gB Tryz.f105)))) (tN f 107 (tL f 106 (Tryz.f106,(mV Tryz.f106 15))) (tN f 108 (tL f 107 (Tryz.f107,(mV Tryz.f107 16))) (tL f 108 (Tryz.f108,(gB Tryz.f108))))))) (tN f 114 (tN f 111 (tN f 110 (tL f 109 (Tryz.f109,(mV Tryz.f109 17))) (tL f 110 (Tryz.f110,(gB Tryz.f110)))) (tN f 112 (tL f 111 (Tryz.f111,(gB Tryz.f111))) (tN f 113 (tL f 112 (Tryz.f112,agn)) (tL f 113 (Tryz.f113,(gB Tryz.f113)))))) (tN f 117 (tN f 115 (tL f 114 (Tryz.f114,(mV Tryz.f114 20))) (tN f 116 (tL f 115 (Tryz.f115,(mV Tryz.f115 21))) (tL f 116 (Tryz.f116,(mV Tryz.f116 22))))) (tN f 122 (tL f 117 (Tryz.f117,ago)) (tN f 127 (tL f 122 (Tryz.f122,(gB Tryz.f122))) (tL f 127 (Tryz.f127,(mV Tryz.f127 26))))))))) (tN f 153 (tN f 142 (tN f 134 (tN f 130 (tN f 129 (tL f 128 (Tryz.f128,(mV Tryz.f128 27))) (tL f 129 (Tryz.f129,(mV Tryz.f129 28)))) (tN f 131 (tL f 130 (Tryz.f130,(mV Tryz.f130 30))) (tN f 132 (tL f 131 (Tryz.f131,(mV Tryz.f131 32))) (tL f 132 (Tryz.f132,(gB Tryz.f132)))))) (tN f 139 (tN f 135 (tL f 134 (Tryz.f134,(mV Tryz.f134 33))) (tL f 135 (Tryz.f135,(gB Tryz.f135)))) (tN f 140 (tL f 139 (Tryz.f139,(mV Tryz.f139 34))) (tN f 141 (tL f 140 (Tryz.f140,(gB Tryz.f140))) (tL f 141 (Tryz.f141,(mV Tryz.f141 35))))))) (tN f 147 (tN f 144 (tN f 143 (tL f 142 (Tryz.f142,(mV Tryz.f142 36))) (tL f 143 (Tryz.f143,(gB Tryz.f143)))) (tN f 145 (tL f 144 (Tryz.f144,(gB Tryz.f144))) (tN f 146 (tL f 145 (Tryz.f145,(gB Tryz.f145))) (tL f 146 (Tryz.f146,(mV Tryz.f146 37)))))) (tN f 150 (tN f 148 (tL f 147 (Tryz.f147,(mV Tryz.f147 38))) (tN f 149 (tL f 148 (Tryz.f148,(gB Tryz.f148))) (tL f 149 (Tryz.f149,(gB Tryz.f149))))) (tN f 151 (tL f 150 (Tryz.f150,(gB Tryz.f150))) (tN f 152 (tL f 151 (Tryz.f151,(mV Tryz.f151 39))) (tL f 152 (Tryz.f152,(gB Tryz.f152)))))))) (tN f 164 (tN f 158 (tN f 155 (tN f 154 (tL f 153 (Tryz.f153,(gB Tryz.f153))) (tL f 154 (Tryz.f154,(gB Tryz.f154)))) (tN f 156 (tL f 155 (Tryz.f155,(gB Tryz.f155))) (tN f 157 (tL f 156 (Tryz.f156,(gB Tryz.f156))) (tL f 157 (Tryz.f157,(gB Tryz.f157)))))) (tN f 160 (tN f 159 (tL f 158 (Tryz.f158,(gB Tryz.f158))) (tL f 159 (Tryz.f159,(mV Tryz.f159 40)))) (tN f 161 (tL f 160 (Tryz.f160,(mV Tryz.f160 41))) (tN f 162 (tL f 161 (Tryz.f161,agp)) (tL f 162 (Tryz.f162,(gB Tryz.f162))))))) (tN f 172 (tN f 169 (tN f 168 (tL f 164 (Tryz.f164,(gB Tryz.f164))) (tL f 168 (Tryz.f168,(mV Tryz.f168 45)))) (tN f 170 (tL f 169 (Tryz.f169,(gB Tryz.f169))) (tN f 171 (tL f 170 (Tryz.f170,(mV Tryz.f170 46))) (tL f 171 (Tryz.f171,(mV Tryz.f171 47)))))) (tN f 176 (tN f 174 (tL f 172 (Tryz.f172,(mV Tryz.f172 48))) (tN f 175 (tL f 174 (Tryz.f174,(mV Tryz.f174 49))) (tL f 175 (Tryz.f175,(gB Tryz.f175))))) (tN f 177 (tL f 176 (Tryz.f176,(mV Tryz.f176 50))) (tN f 179 (tL f 177 (Tryz.f177,(gB Tryz.f177))) (tL f 179 (Tryz.f179,(gB Tryz.f179)))))))))) (tN f 228 (tN f 207 (tN f 190 (tN f 185 (tN f 182 (tN f 181 (tL f 180 (Tryz.f180,(gB Tryz.f180))) (tL f 181 (Tryz.f181,(gB Tryz.f181)))) (tN f 183 (tL f 182 (Tryz.f182,(gB Tryz.f182))) (tN f 184 (tL f 183 (Tryz.f183,(gB Tryz.f183))) (tL f 184 (Tryz.f184,(mV Tryz.f184 51)))))) (tN f 187 (tN f 186 (tL f 185 (Tryz.f185,(mV Tryz.f185 52))) (tL f 186 (Tryz.f186,(mV Tryz.f186 53)))) (tN f 188 (tL f 187 (Tryz.f187,(mV Tryz.f187 54))) (tN f 189 (tL f 188 (Tryz.f188,(gB Tryz.f188))) (tL f 189 (Tryz.f189,(gB Tryz.f189))))))) (tN f 195 (tN f 192 (tN f 191 (tL f 190 (Tryz.f190,(gB Tryz.f190))) (tL f 191 (Tryz.f191,(mV Tryz.f191 55)))) (tN f 193 (tL f 192 (Tryz.f192,(gB Tryz.f192))) (tN f 194 (tL f 193 (Tryz.f193,agq)) (tL f 194 (Tryz.f194,(gB Tryz.f194)))))) (tN f 204 (tN f 196 (tL f 195 (Tryz.f195,(mV Tryz.f195 60))) (tN f 197 (tL f 196 (Tryz.f196,(mV Tryz.f196 62))) (tL f 197 (Tryz.f197,(mV Tryz.f197 63))))) (tN f 205 (tL f 204 (Tryz.f204,(mV Tryz.f204 64))) (tN f 206 (tL f 205 (Tryz.f205,(gB Tryz.f205))) (tL f 206 (Tryz.f206,(mV Tryz.f206 65)))))))) (tN f 217 (tN f 212 (tN f 209 (tN f 208 (tL f 207 (Tryz.f207,(gB Tryz.f207))) (tL f 208 (Tryz.f208,(gB Tryz.f208)))) (tN f 210 (tL f 209 (Tryz.f209,(gB Tryz.f209))) (tN f 211 (tL f 210 (Tryz.f210,(gB Tryz.f210))) (tL f 211 (Tryz.f211,(gB Tryz.f211)))))) (tN f 214 (tN f 213 (tL f 212 (Tryz.f212,(gB Tryz.f212))) (tL f 213 (Tryz.f213,(gB Tryz.f213)))) (tN f 215 (tL f 214 (Tryz.f214,(gB Tryz.f214))) (tN f 216 (tL f 215 (Tryz.f215,(gB Tryz.f215))) (tL f 216 (Tryz.f216,(gB Tryz.f216))))))) (tN f 222 (tN f 219 (tN f 218 (tL f 217 (Tryz.f217,(gB Tryz.f217))) (tL f 218 (Tryz.f218,(gB Tryz.f218)))) (tN f 220 (tL f 219 (Tryz.f219,(mV Tryz.f219 66))) (tN f 221 (tL f 220 (Tryz.f220,(gB Tryz.f220))) (tL f 221 (Tryz.f221,(gB Tryz.f221)))))) (tN f 225 (tN f 223 (tL f 222 (Tryz.f222,(gB Tryz.f222))) (tN f 224 (tL f 223 (Tryz.f223,(gB Tryz.f223))) (tL f 224 (Tryz.f224,(gB Tryz.f224))))) (tN f 226 (tL f 225 (Tryz.f225,(gB Tryz.f225))) (tN f 227 (tL f 226 (Tryz.f226,(mV Tryz.f226 68))) (tL f 227 (Tryz.f227,(gB Tryz.f227))))))))) (tN f 251 (tN f 240 (tN f 235 (tN f 231 (tN f 229 (tL f 228 (Tryz.f228,(mV Tryz.f228 69))) (tL f 229 (Tryz.f229,(gB Tryz.f229)))) (tN f 233 (tL f 231 (Tryz.f231,(gB Tryz.f231))) (tN f 234 (tL f 233 (Tryz.f233,(gB Tryz.f233))) (tL f 234 (Tryz.f234,(mV Tryz.f234 70)))))) (tN f 237 (tN f 236 (tL f 235 (Tryz.f235,(gB Tryz.f235))) (tL f 236 (Tryz.f236,(gB Tryz.f236)))) (tN f 238 (tL f 237 (Tryz.f237,(gB Tryz.f237))) (tN f 239 (tL f 238 (Tryz.f238,(gB Tryz.f238))) (tL f 239 (Tryz.f239,(gB Tryz.f239))))))) (tN f 245 (tN f 242 (tN f 241 (tL f 240 (Tryz.f240,(gB Tryz.f240))) (tL f 241 (Tryz.f241,(gB Tryz.f241)))) (tN f 243 (tL f 242 (Tryz.f242,(gB Tryz.f242))) (tN f 244 (tL f 243 (Tryz.f243,(gB Tryz.f243))) (tL f 244 (Tryz.f244,(gB Tryz.f244)))))) (tN f 248 (tN f 246 (tL f 245 (Tryz.f245,(gB Tryz.f245))) (tN f 247 (tL f 246 (Tryz.f246,(gB Tryz.f246))) (tL f 247 (Tryz.f247,(gB Tryz.f247))))) (tN f 249 (tL f 248 (Tryz.f248,(gB Tryz.f248))) (tN f 250 (tL f 249 (Tryz.f249,(mV Tryz.f249 71))) (tL f 250 (Tryz.f250,(gB Tryz.f250)))))))) (tN f 262 (tN f 256 (tN f 253 (tN f 252 (tL f 251 (Tryz.f251,(gB Tryz.f251))) (tL f 252 (Tryz.f252,(gB Tryz.f252)))) (tN f 254 (tL f 253 (Tryz.f253,(gB Tryz.f253))) (tN f 255 (tL f 254 (Tryz.f254,(gB Tryz.f254))) (tL f 255 (Tryz.f255,agr))))) (tN f 259 (tN f 257 (tL f 256 (Tryz.f256,(gB Tryz.f256))) (tN f 258 (tL f 257 (Tryz.f257,(gB Tryz.f257))) (tL f 258 (Tryz.f258,ags)))) (tN f 260 (tL f 259 (Tryz.f259,(gB Tryz.f259))) (tN f 261 (tL f 260 (Tryz.f260,(gB Tryz.f260))) (tL f 261 (Tryz.f261,(gB Tryz.f261))))))) (tN f 267 (tN f 264 (tN f 263 (tL f 262 (Tryz.f262,(gB Tryz.f262))) (tL f 263 (Tryz.f263,(gB Tryz.f263)))) (tN f 265 (tL f 264 (Tryz.f264,(gB Tryz.f264))) (tN f 266 (tL f 265 (Tryz.f265,(mV Tryz.f265 77))) (tL f 266 (Tryz.f266,(mV Tryz.f266 78)))))) (tN f 270 (tN f 268 (tL f 267 (Tryz.f267,(gB Tryz.f267))) (tN f 269 (tL f 268 (Tryz.f268,(mV Tryz.f268 79))) (tL f 269 (Tryz.f269,(mV Tryz.f269 80))))) (tN f 271 (tL f 270 (Tryz.f270,(gB Tryz.f270))) (tN f 272 (tL f 271 (Tryz.f271,(gB Tryz.f271))) (tL f 272 (Tryz.f272,(mV Tryz.f272 81)))))))))))
def adO (f:Nat):Option ((Code×Cx)×fN):=(tN f 41 (tN f 20 (tN f 10 (tN f 5 (tN f 2 (tN f 1 (tL f 0 d0) (tL f 1 d1)) (tN f 3 (tL f 2 d2) (tN f 4 (tL f 3 d3) (tL f 4 d4)))) (tN f 7 (tN f 6 (tL f 5 d5) (tL f 6 d6)) (tN f 8 (tL f 7 d7) (tN f 9 (tL f 8 d8) (tL f 9 d9))))) (tN f 15 (tN f 12 (tN f 11 (tL f 10 d10) (tL f 11 d11)) (tN f 13 (tL f 12 d12) (tN f 14 (tL f 13 d13) (tL f 14 d14)))) (tN f 17 (tN f 16 (tL f 15 d15) (tL f 16 d16)) (tN f 18 (tL f 17 d17) (tN f 19 (tL f 18 d18) (tL f 19 d19)))))) (tN f 30 (tN f 25 (tN f 22 (tN f 21 (tL f 20 d20) (tL f 21 d21)) (tN f 23 (tL f 22 d22) (tN f 24 (tL f 23 d23) (tL f 24 d24)))) (tN f 27 (tN f 26 (tL f 25 d25) (tL f 26 d26)) (tN f 28 (tL f 27 d27) (tN f 29 (tL f 28 d28) (tL f 29 d29))))) (tN f 35 (tN f 32 (tN f 31 (tL f 30 d30) (tL f 31 d31)) (tN f 33 (tL f 32 d32) (tN f 34 (tL f 33 d33) (tL f 34 d34)))) (tN f 38 (tN f 36 (tL f 35 d35) (tN f 37 (tL f 36 d36) (tL f 37 d37))) (tN f 39 (tL f 38 d38) (tN f 40 (tL f 39 d39) (tL f 40 d40))))))) (tN f 61 (tN f 51 (tN f 46 (tN f 43 (tN f 42 (tL f 41 d41) (tL f 42 d42)) (tN f 44 (tL f 43 d43) (tN f 45 (tL f 44 d44) (tL f 45 d45)))) (tN f 48 (tN f 47 (tL f 46 d46) (tL f 47 d47)) (tN f 49 (tL f 48 d48) (tN f 50 (tL f 49 d49) (tL f 50 d50))))) (tN f 56 (tN f 53 (tN f 52 (tL f 51 d51) (tL f 52 d52)) (tN f 54 (tL f 53 d53) (tN f 55 (tL f 54 d54) (tL f 55 d55)))) (tN f 58 (tN f 57 (tL f 56 d56) (tL f 57 d57)) (tN f 59 (tL f 58 d58) (tN f 60 (tL f 59 d59) (tL f 60 d60)))))) (tN f 71 (tN f 66 (tN f 63 (tN f 62 (tL f 61 d61) (tL f 62 d62)) (tN f 64 (tL f 63 d63) (tN f 65 (tL f 64 d64) (tL f 65 d65)))) (tN f 68 (tN f 67 (tL f 66 d66) (tL f 67 d67)) (tN f 69 (tL f 68 d68) (tN f 70 (tL f 69 d69) (tL f 70 d70))))) (tN f 76 (tN f 73 (tN f 72 (tL f 71 d71) (tL f 72 d72)) (tN f 74 (tL f 73 d73) (tN f 75 (tL f 74 d74) (tL f 75 d75)))) (tN f 79 (tN f 77 (tL f 76 d76) (tN f 78 (tL f 77 d77) (tL f 78 d78))) (tN f 80 (tL f 79 d79) (tN f 81 (tL f 80 d80) (tL f 81 d81))))))))
def Hf:Im:=⟨VB,adO⟩
def FO (f:Nat) (e:Func×fN):Prop:=(∀(c:CH) (a:LH) us H,e.2 c (Hf.loop a) us H=Y_ zA c a e.1 us H)∧Tryz.prog.funcs[f]? = some e.1∧aV Tryz.prog f∧okF y e.1=true
def LO (e:(Code×Cx)×fN):Prop:=∀(c:CH) (a:LH) us H,e.2 c (Hf.loop a) us H=evL zA c a e.1.1 e.1.2 us H
theorem e8:FO 8 (Tryz.f8,(gB Tryz.f8)):=⟨λ_ _ _ _=>by kernel_rfl,Tryz.func8,Tryz.call8,by kernel_rfl⟩
theorem e10:FO 10 (Tryz.f10,(gB Tryz.f10)):=⟨λ_ _ _ _=>by kernel_rfl,Tryz.func10,Tryz.call10,by kernel_rfl⟩
theorem e14:FO 14 (Tryz.f14,(gB Tryz.f14)):=⟨λ_ _ _ _=>by kernel_rfl,Tryz.func14,Tryz.call14,by kernel_rfl⟩
theorem e18:FO 18 (Tryz.f18,(gB Tryz.f18)):=⟨λ_ _ _ _=>by kernel_rfl,Tryz.func18,Tryz.call18,by kernel_rfl⟩
theorem e22:FO 22 (Tryz.f22,(gB Tryz.f22)):=⟨λ_ _ _ _=>by kernel_rfl,Tryz.func22,Tryz.call22,by kernel_rfl⟩
theorem e32:FO 32 (Tryz.f32,(gB Tryz.f32)):=⟨λ_ _ _ _=>by kernel_rfl,Tryz.func32,Tryz.call32,by kernel_rfl⟩
theorem e34:FO 34 (Tryz.f34,(mV Tryz.f34 0)):=⟨λ_ _ _ _=>by kernel_rfl,Tryz.func34,Tryz.call34,by kernel_rfl⟩
theorem e37:FO 37 (Tryz.f37,B37):=⟨λ_ _ _ _=>by kernel_rfl,Tryz.func37,Tryz.call37,by kernel_rfl⟩
theorem e41:FO 41 (Tryz.f41,(mV Tryz.f41 5)):=⟨λ_ _ _ _=>by kernel_rfl,Tryz.func41,Tryz.call41,by kernel_rfl⟩
theorem e51:FO 51 (Tryz.f51,(gB Tryz.f51)):=⟨λ_ _ _ _=>by kernel_rfl,Tryz.func51,Tryz.call51,by kernel_rfl⟩
theorem e52:FO 52 (Tryz.f52,(gB Tryz.f52)):=⟨λ_ _ _ _=>by kernel_rfl,Tryz.func52,Tryz.call52,by kernel_rfl⟩
theorem e53:FO 53 (Tryz.f53,(gB Tryz.f53)):=⟨λ_ _ _ _=>by kernel_rfl,Tryz.func53,Tryz.call53,by kernel_rfl⟩
theorem e54:FO 54 (Tryz.f54,(gB Tryz.f54)):=⟨λ_ _ _ _=>by kernel_rfl,Tryz.func54,Tryz.call54,by kernel_rfl⟩
theorem e63:FO 63 (Tryz.f63,(mV Tryz.f63 6)):=⟨λ_ _ _ _=>by kernel_rfl,Tryz.func63,Tryz.call63,by kernel_rfl⟩
theorem e65:FO 65 (Tryz.f65,(gB Tryz.f65)):=⟨λ_ _ _ _=>by kernel_rfl,Tryz.func65,Tryz.call65,by kernel_rfl⟩
theorem e66:FO 66 (Tryz.f66,B66):=⟨λ_ _ _ _=>by kernel_rfl,Tryz.func66,Tryz.call66,by kernel_rfl⟩
theorem e71:FO 71 (Tryz.f71,(gB Tryz.f71)):=⟨λ_ _ _ _=>by kernel_rfl,Tryz.func71,Tryz.call71,by kernel_rfl⟩
theorem e86:FO 86 (Tryz.f86,(gB Tryz.f86)):=⟨λ_ _ _ _=>by kernel_rfl,Tryz.func86,Tryz.call86,by kernel_rfl⟩
theorem e87:FO 87 (Tryz.f87,(gB Tryz.f87)):=⟨λ_ _ _ _=>by kernel_rfl,Tryz.func87,Tryz.call87,by kernel_rfl⟩
theorem e88:FO 88 (Tryz.f88,(gB Tryz.f88)):=⟨λ_ _ _ _=>by kernel_rfl,Tryz.func88,Tryz.call88,by kernel_rfl⟩
theorem e89:FO 89 (Tryz.f89,(mV Tryz.f89 10)):=⟨λ_ _ _ _=>by kernel_rfl,Tryz.func89,Tryz.call89,by kernel_rfl⟩
theorem e90:FO 90 (Tryz.f90,(gB Tryz.f90)):=⟨λ_ _ _ _=>by kernel_rfl,Tryz.func90,Tryz.call90,by kernel_rfl⟩
theorem e91:FO 91 (Tryz.f91,(mV Tryz.f91 12)):=⟨λ_ _ _ _=>by kernel_rfl,Tryz.func91,Tryz.call91,by kernel_rfl⟩
theorem e92:FO 92 (Tryz.f92,(gB Tryz.f92)):=⟨λ_ _ _ _=>by kernel_rfl,Tryz.func92,Tryz.call92,by kernel_rfl⟩
theorem e98:FO 98 (Tryz.f98,(gB Tryz.f98)):=⟨λ_ _ _ _=>by kernel_rfl,Tryz.func98,Tryz.call98,by kernel_rfl⟩
theorem ahR:FO 101 (Tryz.f101,(mV Tryz.f101 13)):=⟨λ_ _ _ _=>by kernel_rfl,Tryz.func101,Tryz.call101,by kernel_rfl⟩
theorem ahS:FO 102 (Tryz.f102,(gB Tryz.f102)):=⟨λ_ _ _ _=>by kernel_rfl,Tryz.func102,Tryz.call102,by kernel_rfl⟩
theorem ahT:FO 105 (Tryz.f105,(gB Tryz.f105)):=⟨λ_ _ _ _=>by kernel_rfl,Tryz.func105,Tryz.call105,by kernel_rfl⟩
theorem ahU:FO 106 (Tryz.f106,(mV Tryz.f106 15)):=⟨λ_ _ _ _=>by kernel_rfl,Tryz.func106,Tryz.call106,by kernel_rfl⟩
theorem ahV:FO 107 (Tryz.f107,(mV Tryz.f107 16)):=⟨λ_ _ _ _=>by kernel_rfl,Tryz.func107,Tryz.call107,by kernel_rfl⟩
theorem ahW:FO 108 (Tryz.f108,(gB Tryz.f108)):=⟨λ_ _ _ _=>by kernel_rfl,Tryz.func108,Tryz.call108,by kernel_rfl⟩
theorem ahX:FO 109 (Tryz.f109,(mV Tryz.f109 17)):=⟨λ_ _ _ _=>by kernel_rfl,Tryz.func109,Tryz.call109,by kernel_rfl⟩
theorem ahY:FO 110 (Tryz.f110,(gB Tryz.f110)):=⟨λ_ _ _ _=>by kernel_rfl,Tryz.func110,Tryz.call110,by kernel_rfl⟩
theorem ahZ:FO 111 (Tryz.f111,(gB Tryz.f111)):=⟨λ_ _ _ _=>by kernel_rfl,Tryz.func111,Tryz.call111,by kernel_rfl⟩
theorem ah_:FO 112 (Tryz.f112,agn):=⟨λ_ _ _ _=>by kernel_rfl,Tryz.func112,Tryz.call112,by kernel_rfl⟩
theorem aia:FO 113 (Tryz.f113,(gB Tryz.f113)):=⟨λ_ _ _ _=>by kernel_rfl,Tryz.func113,Tryz.call113,by kernel_rfl⟩
theorem aib:FO 114 (Tryz.f114,(mV Tryz.f114 20)):=⟨λ_ _ _ _=>by kernel_rfl,Tryz.func114,Tryz.call114,by kernel_rfl⟩
theorem afa:FO 115 (Tryz.f115,(mV Tryz.f115 21)):=⟨λ_ _ _ _=>by kernel_rfl,Tryz.func115,Tryz.call115,by kernel_rfl⟩
theorem aic:FO 116 (Tryz.f116,(mV Tryz.f116 22)):=⟨λ_ _ _ _=>by kernel_rfl,Tryz.func116,Tryz.call116,by kernel_rfl⟩
theorem aid:FO 117 (Tryz.f117,ago):=⟨λ_ _ _ _=>by kernel_rfl,Tryz.func117,Tryz.call117,by kernel_rfl⟩
theorem aie:FO 122 (Tryz.f122,(gB Tryz.f122)):=⟨λ_ _ _ _=>by kernel_rfl,Tryz.func122,Tryz.call122,by kernel_rfl⟩
theorem aif:FO 127 (Tryz.f127,(mV Tryz.f127 26)):=⟨λ_ _ _ _=>by kernel_rfl,Tryz.func127,Tryz.call127,by kernel_rfl⟩
theorem aig:FO 128 (Tryz.f128,(mV Tryz.f128 27)):=⟨λ_ _ _ _=>by kernel_rfl,Tryz.func128,Tryz.call128,by kernel_rfl⟩
theorem aih:FO 129 (Tryz.f129,(mV Tryz.f129 28)):=⟨λ_ _ _ _=>by kernel_rfl,Tryz.func129,Tryz.call129,by kernel_rfl⟩
theorem aii:FO 130 (Tryz.f130,(mV Tryz.f130 30)):=⟨λ_ _ _ _=>by kernel_rfl,Tryz.func130,Tryz.call130,by kernel_rfl⟩
theorem aij:FO 131 (Tryz.f131,(mV Tryz.f131 32)):=⟨λ_ _ _ _=>by kernel_rfl,Tryz.func131,Tryz.call131,by kernel_rfl⟩
theorem aik:FO 132 (Tryz.f132,(gB Tryz.f132)):=⟨λ_ _ _ _=>by kernel_rfl,Tryz.func132,Tryz.call132,by kernel_rfl⟩
theorem ail:FO 134 (Tryz.f134,(mV Tryz.f134 33)):=⟨λ_ _ _ _=>by kernel_rfl,Tryz.func134,Tryz.call134,by kernel_rfl⟩
theorem aim:FO 135 (Tryz.f135,(gB Tryz.f135)):=⟨λ_ _ _ _=>by kernel_rfl,Tryz.func135,Tryz.call135,by kernel_rfl⟩
theorem ain:FO 139 (Tryz.f139,(mV Tryz.f139 34)):=⟨λ_ _ _ _=>by kernel_rfl,Tryz.func139,Tryz.call139,by kernel_rfl⟩
theorem aio:FO 140 (Tryz.f140,(gB Tryz.f140)):=⟨λ_ _ _ _=>by kernel_rfl,Tryz.func140,Tryz.call140,by kernel_rfl⟩
theorem aip:FO 141 (Tryz.f141,(mV Tryz.f141 35)):=⟨λ_ _ _ _=>by kernel_rfl,Tryz.func141,Tryz.call141,by kernel_rfl⟩
theorem aiq:FO 142 (Tryz.f142,(mV Tryz.f142 36)):=⟨λ_ _ _ _=>by kernel_rfl,Tryz.func142,Tryz.call142,by kernel_rfl⟩
theorem air:FO 143 (Tryz.f143,(gB Tryz.f143)):=⟨λ_ _ _ _=>by kernel_rfl,Tryz.func143,Tryz.call143,by kernel_rfl⟩
theorem ais:FO 144 (Tryz.f144,(gB Tryz.f144)):=⟨λ_ _ _ _=>by kernel_rfl,Tryz.func144,Tryz.call144,by kernel_rfl⟩
theorem ait:FO 145 (Tryz.f145,(gB Tryz.f145)):=⟨λ_ _ _ _=>by kernel_rfl,Tryz.func145,Tryz.call145,by kernel_rfl⟩
theorem aiu:FO 146 (Tryz.f146,(mV Tryz.f146 37)):=⟨λ_ _ _ _=>by kernel_rfl,Tryz.func146,Tryz.call146,by kernel_rfl⟩
theorem aiv:FO 147 (Tryz.f147,(mV Tryz.f147 38)):=⟨λ_ _ _ _=>by kernel_rfl,Tryz.func147,Tryz.call147,by kernel_rfl⟩
theorem aiw:FO 148 (Tryz.f148,(gB Tryz.f148)):=⟨λ_ _ _ _=>by kernel_rfl,Tryz.func148,Tryz.call148,by kernel_rfl⟩
theorem aix:FO 149 (Tryz.f149,(gB Tryz.f149)):=⟨λ_ _ _ _=>by kernel_rfl,Tryz.func149,Tryz.call149,by kernel_rfl⟩
theorem aiy:FO 150 (Tryz.f150,(gB Tryz.f150)):=⟨λ_ _ _ _=>by kernel_rfl,Tryz.func150,Tryz.call150,by kernel_rfl⟩
theorem aiz:FO 151 (Tryz.f151,(mV Tryz.f151 39)):=⟨λ_ _ _ _=>by kernel_rfl,Tryz.func151,Tryz.call151,by kernel_rfl⟩
theorem aiA:FO 152 (Tryz.f152,(gB Tryz.f152)):=⟨λ_ _ _ _=>by kernel_rfl,Tryz.func152,Tryz.call152,by kernel_rfl⟩
theorem aiB:FO 153 (Tryz.f153,(gB Tryz.f153)):=⟨λ_ _ _ _=>by kernel_rfl,Tryz.func153,Tryz.call153,by kernel_rfl⟩
theorem aiC:FO 154 (Tryz.f154,(gB Tryz.f154)):=⟨λ_ _ _ _=>by kernel_rfl,Tryz.func154,Tryz.call154,by kernel_rfl⟩
theorem aiD:FO 155 (Tryz.f155,(gB Tryz.f155)):=⟨λ_ _ _ _=>by kernel_rfl,Tryz.func155,Tryz.call155,by kernel_rfl⟩
theorem aiE:FO 156 (Tryz.f156,(gB Tryz.f156)):=⟨λ_ _ _ _=>by kernel_rfl,Tryz.func156,Tryz.call156,by kernel_rfl⟩
theorem aiF:FO 157 (Tryz.f157,(gB Tryz.f157)):=⟨λ_ _ _ _=>by kernel_rfl,Tryz.func157,Tryz.call157,by kernel_rfl⟩
theorem aiG:FO 158 (Tryz.f158,(gB Tryz.f158)):=⟨λ_ _ _ _=>by kernel_rfl,Tryz.func158,Tryz.call158,by kernel_rfl⟩
theorem aiH:FO 159 (Tryz.f159,(mV Tryz.f159 40)):=⟨λ_ _ _ _=>by kernel_rfl,Tryz.func159,Tryz.call159,by kernel_rfl⟩
theorem aiI:FO 160 (Tryz.f160,(mV Tryz.f160 41)):=⟨λ_ _ _ _=>by kernel_rfl,Tryz.func160,Tryz.call160,by kernel_rfl⟩
theorem aiJ:FO 161 (Tryz.f161,agp):=⟨λ_ _ _ _=>by kernel_rfl,Tryz.func161,Tryz.call161,by kernel_rfl⟩
theorem aiK:FO 162 (Tryz.f162,(gB Tryz.f162)):=⟨λ_ _ _ _=>by kernel_rfl,Tryz.func162,Tryz.call162,by kernel_rfl⟩
theorem aiL:FO 164 (Tryz.f164,(gB Tryz.f164)):=⟨λ_ _ _ _=>by kernel_rfl,Tryz.func164,Tryz.call164,by kernel_rfl⟩
theorem aiM:FO 168 (Tryz.f168,(mV Tryz.f168 45)):=⟨λ_ _ _ _=>by kernel_rfl,Tryz.func168,Tryz.call168,by kernel_rfl⟩
theorem aiN:FO 169 (Tryz.f169,(gB Tryz.f169)):=⟨λ_ _ _ _=>by kernel_rfl,Tryz.func169,Tryz.call169,by kernel_rfl⟩
theorem aiO:FO 170 (Tryz.f170,(mV Tryz.f170 46)):=⟨λ_ _ _ _=>by kernel_rfl,Tryz.func170,Tryz.call170,by kernel_rfl⟩
theorem aiP:FO 171 (Tryz.f171,(mV Tryz.f171 47)):=⟨λ_ _ _ _=>by kernel_rfl,Tryz.func171,Tryz.call171,by kernel_rfl⟩
theorem aiQ:FO 172 (Tryz.f172,(mV Tryz.f172 48)):=⟨λ_ _ _ _=>by kernel_rfl,Tryz.func172,Tryz.call172,by kernel_rfl⟩
theorem aiR:FO 174 (Tryz.f174,(mV Tryz.f174 49)):=⟨λ_ _ _ _=>by kernel_rfl,Tryz.func174,Tryz.call174,by kernel_rfl⟩
theorem aiS:FO 175 (Tryz.f175,(gB Tryz.f175)):=⟨λ_ _ _ _=>by kernel_rfl,Tryz.func175,Tryz.call175,by kernel_rfl⟩
theorem aiT:FO 176 (Tryz.f176,(mV Tryz.f176 50)):=⟨λ_ _ _ _=>by kernel_rfl,Tryz.func176,Tryz.call176,by kernel_rfl⟩
theorem aiU:FO 177 (Tryz.f177,(gB Tryz.f177)):=⟨λ_ _ _ _=>by kernel_rfl,Tryz.func177,Tryz.call177,by kernel_rfl⟩
theorem aiV:FO 179 (Tryz.f179,(gB Tryz.f179)):=⟨λ_ _ _ _=>by kernel_rfl,Tryz.func179,Tryz.call179,by kernel_rfl⟩
theorem aiW:FO 180 (Tryz.f180,(gB Tryz.f180)):=⟨λ_ _ _ _=>by kernel_rfl,Tryz.func180,Tryz.call180,by kernel_rfl⟩
theorem aiX:FO 181 (Tryz.f181,(gB Tryz.f181)):=⟨λ_ _ _ _=>by kernel_rfl,Tryz.func181,Tryz.call181,by kernel_rfl⟩
theorem aiY:FO 182 (Tryz.f182,(gB Tryz.f182)):=⟨λ_ _ _ _=>by kernel_rfl,Tryz.func182,Tryz.call182,by kernel_rfl⟩
theorem aiZ:FO 183 (Tryz.f183,(gB Tryz.f183)):=⟨λ_ _ _ _=>by kernel_rfl,Tryz.func183,Tryz.call183,by kernel_rfl⟩
theorem ai_:FO 184 (Tryz.f184,(mV Tryz.f184 51)):=⟨λ_ _ _ _=>by kernel_rfl,Tryz.func184,Tryz.call184,by kernel_rfl⟩
theorem aja:FO 185 (Tryz.f185,(mV Tryz.f185 52)):=⟨λ_ _ _ _=>by kernel_rfl,Tryz.func185,Tryz.call185,by kernel_rfl⟩
theorem ajb:FO 186 (Tryz.f186,(mV Tryz.f186 53)):=⟨λ_ _ _ _=>by kernel_rfl,Tryz.func186,Tryz.call186,by kernel_rfl⟩
theorem ajc:FO 187 (Tryz.f187,(mV Tryz.f187 54)):=⟨λ_ _ _ _=>by kernel_rfl,Tryz.func187,Tryz.call187,by kernel_rfl⟩
theorem ajd:FO 188 (Tryz.f188,(gB Tryz.f188)):=⟨λ_ _ _ _=>by kernel_rfl,Tryz.func188,Tryz.call188,by kernel_rfl⟩
theorem aje:FO 189 (Tryz.f189,(gB Tryz.f189)):=⟨λ_ _ _ _=>by kernel_rfl,Tryz.func189,Tryz.call189,by kernel_rfl⟩
theorem ajf:FO 190 (Tryz.f190,(gB Tryz.f190)):=⟨λ_ _ _ _=>by kernel_rfl,Tryz.func190,Tryz.call190,by kernel_rfl⟩
theorem ajg:FO 191 (Tryz.f191,(mV Tryz.f191 55)):=⟨λ_ _ _ _=>by kernel_rfl,Tryz.func191,Tryz.call191,by kernel_rfl⟩
theorem ajh:FO 192 (Tryz.f192,(gB Tryz.f192)):=⟨λ_ _ _ _=>by kernel_rfl,Tryz.func192,Tryz.call192,by kernel_rfl⟩
theorem aji:FO 193 (Tryz.f193,agq):=⟨λ_ _ _ _=>by kernel_rfl,Tryz.func193,Tryz.call193,by kernel_rfl⟩
theorem ajj:FO 194 (Tryz.f194,(gB Tryz.f194)):=⟨λ_ _ _ _=>by kernel_rfl,Tryz.func194,Tryz.call194,by kernel_rfl⟩
theorem ajk:FO 195 (Tryz.f195,(mV Tryz.f195 60)):=⟨λ_ _ _ _=>by kernel_rfl,Tryz.func195,Tryz.call195,by kernel_rfl⟩
theorem ajl:FO 196 (Tryz.f196,(mV Tryz.f196 62)):=⟨λ_ _ _ _=>by kernel_rfl,Tryz.func196,Tryz.call196,by kernel_rfl⟩
theorem ajm:FO 197 (Tryz.f197,(mV Tryz.f197 63)):=⟨λ_ _ _ _=>by kernel_rfl,Tryz.func197,Tryz.call197,by kernel_rfl⟩
theorem ajn:FO 204 (Tryz.f204,(mV Tryz.f204 64)):=⟨λ_ _ _ _=>by kernel_rfl,Tryz.func204,Tryz.call204,by kernel_rfl⟩
theorem ajo:FO 205 (Tryz.f205,(gB Tryz.f205)):=⟨λ_ _ _ _=>by kernel_rfl,Tryz.func205,Tryz.call205,by kernel_rfl⟩
theorem ajp:FO 206 (Tryz.f206,(mV Tryz.f206 65)):=⟨λ_ _ _ _=>by kernel_rfl,Tryz.func206,Tryz.call206,by kernel_rfl⟩
theorem ajq:FO 207 (Tryz.f207,(gB Tryz.f207)):=⟨λ_ _ _ _=>by kernel_rfl,Tryz.func207,Tryz.call207,by kernel_rfl⟩
theorem ajr:FO 208 (Tryz.f208,(gB Tryz.f208)):=⟨λ_ _ _ _=>by kernel_rfl,Tryz.func208,Tryz.call208,by kernel_rfl⟩
theorem ajs:FO 209 (Tryz.f209,(gB Tryz.f209)):=⟨λ_ _ _ _=>by kernel_rfl,Tryz.func209,Tryz.call209,by kernel_rfl⟩
theorem ajt:FO 210 (Tryz.f210,(gB Tryz.f210)):=⟨λ_ _ _ _=>by kernel_rfl,Tryz.func210,Tryz.call210,by kernel_rfl⟩
theorem aju:FO 211 (Tryz.f211,(gB Tryz.f211)):=⟨λ_ _ _ _=>by kernel_rfl,Tryz.func211,Tryz.call211,by kernel_rfl⟩
theorem ajv:FO 212 (Tryz.f212,(gB Tryz.f212)):=⟨λ_ _ _ _=>by kernel_rfl,Tryz.func212,Tryz.call212,by kernel_rfl⟩
theorem ajw:FO 213 (Tryz.f213,(gB Tryz.f213)):=⟨λ_ _ _ _=>by kernel_rfl,Tryz.func213,Tryz.call213,by kernel_rfl⟩
theorem ajx:FO 214 (Tryz.f214,(gB Tryz.f214)):=⟨λ_ _ _ _=>by kernel_rfl,Tryz.func214,Tryz.call214,by kernel_rfl⟩
theorem ajy:FO 215 (Tryz.f215,(gB Tryz.f215)):=⟨λ_ _ _ _=>by kernel_rfl,Tryz.func215,Tryz.call215,by kernel_rfl⟩
theorem ajz:FO 216 (Tryz.f216,(gB Tryz.f216)):=⟨λ_ _ _ _=>by kernel_rfl,Tryz.func216,Tryz.call216,by kernel_rfl⟩
theorem ajA:FO 217 (Tryz.f217,(gB Tryz.f217)):=⟨λ_ _ _ _=>by kernel_rfl,Tryz.func217,Tryz.call217,by kernel_rfl⟩
theorem ajB:FO 218 (Tryz.f218,(gB Tryz.f218)):=⟨λ_ _ _ _=>by kernel_rfl,Tryz.func218,Tryz.call218,by kernel_rfl⟩
theorem ajC:FO 219 (Tryz.f219,(mV Tryz.f219 66)):=⟨λ_ _ _ _=>by kernel_rfl,Tryz.func219,Tryz.call219,by kernel_rfl⟩
theorem ajD:FO 220 (Tryz.f220,(gB Tryz.f220)):=⟨λ_ _ _ _=>by kernel_rfl,Tryz.func220,Tryz.call220,by kernel_rfl⟩
theorem ajE:FO 221 (Tryz.f221,(gB Tryz.f221)):=⟨λ_ _ _ _=>by kernel_rfl,Tryz.func221,Tryz.call221,by kernel_rfl⟩
theorem ajF:FO 222 (Tryz.f222,(gB Tryz.f222)):=⟨λ_ _ _ _=>by kernel_rfl,Tryz.func222,Tryz.call222,by kernel_rfl⟩
theorem ajG:FO 223 (Tryz.f223,(gB Tryz.f223)):=⟨λ_ _ _ _=>by kernel_rfl,Tryz.func223,Tryz.call223,by kernel_rfl⟩
theorem ajH:FO 224 (Tryz.f224,(gB Tryz.f224)):=⟨λ_ _ _ _=>by kernel_rfl,Tryz.func224,Tryz.call224,by kernel_rfl⟩
theorem ajI:FO 225 (Tryz.f225,(gB Tryz.f225)):=⟨λ_ _ _ _=>by kernel_rfl,Tryz.func225,Tryz.call225,by kernel_rfl⟩
theorem ajJ:FO 226 (Tryz.f226,(mV Tryz.f226 68)):=⟨λ_ _ _ _=>by kernel_rfl,Tryz.func226,Tryz.call226,by kernel_rfl⟩
theorem ajK:FO 227 (Tryz.f227,(gB Tryz.f227)):=⟨λ_ _ _ _=>by kernel_rfl,Tryz.func227,Tryz.call227,by kernel_rfl⟩
theorem ajL:FO 228 (Tryz.f228,(mV Tryz.f228 69)):=⟨λ_ _ _ _=>by kernel_rfl,Tryz.func228,Tryz.call228,by kernel_rfl⟩
theorem ajM:FO 229 (Tryz.f229,(gB Tryz.f229)):=⟨λ_ _ _ _=>by kernel_rfl,Tryz.func229,Tryz.call229,by kernel_rfl⟩
theorem ajN:FO 231 (Tryz.f231,(gB Tryz.f231)):=⟨λ_ _ _ _=>by kernel_rfl,Tryz.func231,Tryz.call231,by kernel_rfl⟩
theorem ajO:FO 233 (Tryz.f233,(gB Tryz.f233)):=⟨λ_ _ _ _=>by kernel_rfl,Tryz.func233,Tryz.call233,by kernel_rfl⟩
theorem ajP:FO 234 (Tryz.f234,(mV Tryz.f234 70)):=⟨λ_ _ _ _=>by kernel_rfl,Tryz.func234,Tryz.call234,by kernel_rfl⟩
theorem ajQ:FO 235 (Tryz.f235,(gB Tryz.f235)):=⟨λ_ _ _ _=>by kernel_rfl,Tryz.func235,Tryz.call235,by kernel_rfl⟩
theorem ajR:FO 236 (Tryz.f236,(gB Tryz.f236)):=⟨λ_ _ _ _=>by kernel_rfl,Tryz.func236,Tryz.call236,by kernel_rfl⟩
theorem ajS:FO 237 (Tryz.f237,(gB Tryz.f237)):=⟨λ_ _ _ _=>by kernel_rfl,Tryz.func237,Tryz.call237,by kernel_rfl⟩
theorem ajT:FO 238 (Tryz.f238,(gB Tryz.f238)):=⟨λ_ _ _ _=>by kernel_rfl,Tryz.func238,Tryz.call238,by kernel_rfl⟩
theorem ajU:FO 239 (Tryz.f239,(gB Tryz.f239)):=⟨λ_ _ _ _=>by kernel_rfl,Tryz.func239,Tryz.call239,by kernel_rfl⟩
theorem ajV:FO 240 (Tryz.f240,(gB Tryz.f240)):=⟨λ_ _ _ _=>by kernel_rfl,Tryz.func240,Tryz.call240,by kernel_rfl⟩
theorem ajW:FO 241 (Tryz.f241,(gB Tryz.f241)):=⟨λ_ _ _ _=>by kernel_rfl,Tryz.func241,Tryz.call241,by kernel_rfl⟩
theorem ajX:FO 242 (Tryz.f242,(gB Tryz.f242)):=⟨λ_ _ _ _=>by kernel_rfl,Tryz.func242,Tryz.call242,by kernel_rfl⟩
theorem ajY:FO 243 (Tryz.f243,(gB Tryz.f243)):=⟨λ_ _ _ _=>by kernel_rfl,Tryz.func243,Tryz.call243,by kernel_rfl⟩
theorem ajZ:FO 244 (Tryz.f244,(gB Tryz.f244)):=⟨λ_ _ _ _=>by kernel_rfl,Tryz.func244,Tryz.call244,by kernel_rfl⟩
theorem aj_:FO 245 (Tryz.f245,(gB Tryz.f245)):=⟨λ_ _ _ _=>by kernel_rfl,Tryz.func245,Tryz.call245,by kernel_rfl⟩
theorem aka:FO 246 (Tryz.f246,(gB Tryz.f246)):=⟨λ_ _ _ _=>by kernel_rfl,Tryz.func246,Tryz.call246,by kernel_rfl⟩
theorem akb:FO 247 (Tryz.f247,(gB Tryz.f247)):=⟨λ_ _ _ _=>by kernel_rfl,Tryz.func247,Tryz.call247,by kernel_rfl⟩
theorem akc:FO 248 (Tryz.f248,(gB Tryz.f248)):=⟨λ_ _ _ _=>by kernel_rfl,Tryz.func248,Tryz.call248,by kernel_rfl⟩
theorem akd:FO 249 (Tryz.f249,(mV Tryz.f249 71)):=⟨λ_ _ _ _=>by kernel_rfl,Tryz.func249,Tryz.call249,by kernel_rfl⟩
theorem ake:FO 250 (Tryz.f250,(gB Tryz.f250)):=⟨λ_ _ _ _=>by kernel_rfl,Tryz.func250,Tryz.call250,by kernel_rfl⟩
theorem akf:FO 251 (Tryz.f251,(gB Tryz.f251)):=⟨λ_ _ _ _=>by kernel_rfl,Tryz.func251,Tryz.call251,by kernel_rfl⟩
theorem akg:FO 252 (Tryz.f252,(gB Tryz.f252)):=⟨λ_ _ _ _=>by kernel_rfl,Tryz.func252,Tryz.call252,by kernel_rfl⟩
theorem akh:FO 253 (Tryz.f253,(gB Tryz.f253)):=⟨λ_ _ _ _=>by kernel_rfl,Tryz.func253,Tryz.call253,by kernel_rfl⟩
theorem aki:FO 254 (Tryz.f254,(gB Tryz.f254)):=⟨λ_ _ _ _=>by kernel_rfl,Tryz.func254,Tryz.call254,by kernel_rfl⟩
theorem akj:FO 255 (Tryz.f255,agr):=⟨λ_ _ _ _=>by kernel_rfl,Tryz.func255,Tryz.call255,by kernel_rfl⟩
theorem akk:FO 256 (Tryz.f256,(gB Tryz.f256)):=⟨λ_ _ _ _=>by kernel_rfl,Tryz.func256,Tryz.call256,by kernel_rfl⟩
theorem akl:FO 257 (Tryz.f257,(gB Tryz.f257)):=⟨λ_ _ _ _=>by kernel_rfl,Tryz.func257,Tryz.call257,by kernel_rfl⟩
theorem akm:FO 258 (Tryz.f258,ags):=⟨λ_ _ _ _=>by kernel_rfl,Tryz.func258,Tryz.call258,by kernel_rfl⟩
theorem akn:FO 259 (Tryz.f259,(gB Tryz.f259)):=⟨λ_ _ _ _=>by kernel_rfl,Tryz.func259,Tryz.call259,by kernel_rfl⟩
theorem ako:FO 260 (Tryz.f260,(gB Tryz.f260)):=⟨λ_ _ _ _=>by kernel_rfl,Tryz.func260,Tryz.call260,by kernel_rfl⟩
theorem akp:FO 261 (Tryz.f261,(gB Tryz.f261)):=⟨λ_ _ _ _=>by kernel_rfl,Tryz.func261,Tryz.call261,by kernel_rfl⟩
theorem akq:FO 262 (Tryz.f262,(gB Tryz.f262)):=⟨λ_ _ _ _=>by kernel_rfl,Tryz.func262,Tryz.call262,by kernel_rfl⟩
theorem akr:FO 263 (Tryz.f263,(gB Tryz.f263)):=⟨λ_ _ _ _=>by kernel_rfl,Tryz.func263,Tryz.call263,by kernel_rfl⟩
theorem aks:FO 264 (Tryz.f264,(gB Tryz.f264)):=⟨λ_ _ _ _=>by kernel_rfl,Tryz.func264,Tryz.call264,by kernel_rfl⟩
theorem akt:FO 265 (Tryz.f265,(mV Tryz.f265 77)):=⟨λ_ _ _ _=>by kernel_rfl,Tryz.func265,Tryz.call265,by kernel_rfl⟩
theorem aku:FO 266 (Tryz.f266,(mV Tryz.f266 78)):=⟨λ_ _ _ _=>by kernel_rfl,Tryz.func266,Tryz.call266,by kernel_rfl⟩
theorem akv:FO 267 (Tryz.f267,(gB Tryz.f267)):=⟨λ_ _ _ _=>by kernel_rfl,Tryz.func267,Tryz.call267,by kernel_rfl⟩
theorem akw:FO 268 (Tryz.f268,(mV Tryz.f268 79)):=⟨λ_ _ _ _=>by kernel_rfl,Tryz.func268,Tryz.call268,by kernel_rfl⟩
theorem akx:FO 269 (Tryz.f269,(mV Tryz.f269 80)):=⟨λ_ _ _ _=>by kernel_rfl,Tryz.func269,Tryz.call269,by kernel_rfl⟩
theorem aky:FO 270 (Tryz.f270,(gB Tryz.f270)):=⟨λ_ _ _ _=>by kernel_rfl,Tryz.func270,Tryz.call270,by kernel_rfl⟩
theorem akz:FO 271 (Tryz.f271,(gB Tryz.f271)):=⟨λ_ _ _ _=>by kernel_rfl,Tryz.func271,Tryz.call271,by kernel_rfl⟩
theorem akA:FO 272 (Tryz.f272,(mV Tryz.f272 81)):=⟨λ_ _ _ _=>by kernel_rfl,Tryz.func272,Tryz.call272,by kernel_rfl⟩
theorem l0:LO d0:=λ_ _ _ _=>by kernel_rfl
theorem l1:LO d1:=λ_ _ _ _=>by kernel_rfl
theorem l2:LO d2:=λ_ _ _ _=>by kernel_rfl
theorem l3:LO d3:=λ_ _ _ _=>by kernel_rfl
theorem l4:LO d4:=λ_ _ _ _=>by kernel_rfl
theorem l5:LO d5:=λ_ _ _ _=>by kernel_rfl
theorem l6:LO d6:=λ_ _ _ _=>by kernel_rfl
theorem l7:LO d7:=λ_ _ _ _=>by kernel_rfl
theorem l8:LO d8:=λ_ _ _ _=>by kernel_rfl
theorem l9:LO d9:=λ_ _ _ _=>by kernel_rfl
theorem l10:LO d10:=λ_ _ _ _=>by kernel_rfl
theorem l11:LO d11:=λ_ _ _ _=>by kernel_rfl
theorem l12:LO d12:=λ_ _ _ _=>by kernel_rfl
theorem l13:LO d13:=λ_ _ _ _=>by kernel_rfl
theorem l14:LO d14:=λ_ _ _ _=>by kernel_rfl
theorem l15:LO d15:=λ_ _ _ _=>by kernel_rfl
theorem l16:LO d16:=λ_ _ _ _=>by kernel_rfl
theorem l17:LO d17:=λ_ _ _ _=>by kernel_rfl
theorem l18:LO d18:=λ_ _ _ _=>by kernel_rfl
theorem l19:LO d19:=λ_ _ _ _=>by kernel_rfl
theorem l20:LO d20:=λ_ _ _ _=>by kernel_rfl
theorem l21:LO d21:=λ_ _ _ _=>by kernel_rfl
theorem l22:LO d22:=λ_ _ _ _=>by kernel_rfl
theorem l23:LO d23:=λ_ _ _ _=>by kernel_rfl
theorem l24:LO d24:=λ_ _ _ _=>by kernel_rfl
theorem l25:LO d25:=λ_ _ _ _=>by kernel_rfl
theorem l26:LO d26:=λ_ _ _ _=>by kernel_rfl
theorem l27:LO d27:=λ_ _ _ _=>by kernel_rfl
theorem l28:LO d28:=λ_ _ _ _=>by kernel_rfl
theorem l29:LO d29:=λ_ _ _ _=>by kernel_rfl
theorem l30:LO d30:=λ_ _ _ _=>by kernel_rfl
theorem l31:LO d31:=λ_ _ _ _=>by kernel_rfl
theorem l32:LO d32:=λ_ _ _ _=>by kernel_rfl
theorem l33:LO d33:=λ_ _ _ _=>by kernel_rfl
theorem l34:LO d34:=λ_ _ _ _=>by kernel_rfl
theorem l35:LO d35:=λ_ _ _ _=>by kernel_rfl
theorem l36:LO d36:=λ_ _ _ _=>by kernel_rfl
theorem l37:LO d37:=λ_ _ _ _=>by kernel_rfl
theorem l38:LO d38:=λ_ _ _ _=>by kernel_rfl
theorem l39:LO d39:=λ_ _ _ _=>by kernel_rfl
theorem l40:LO d40:=λ_ _ _ _=>by kernel_rfl
theorem l41:LO d41:=λ_ _ _ _=>by kernel_rfl
theorem l42:LO d42:=λ_ _ _ _=>by kernel_rfl
theorem l43:LO d43:=λ_ _ _ _=>by kernel_rfl
theorem l44:LO d44:=λ_ _ _ _=>by kernel_rfl
theorem l45:LO d45:=λ_ _ _ _=>by kernel_rfl
theorem l46:LO d46:=λ_ _ _ _=>by kernel_rfl
theorem l47:LO d47:=λ_ _ _ _=>by kernel_rfl
theorem l48:LO d48:=λ_ _ _ _=>by kernel_rfl
theorem l49:LO d49:=λ_ _ _ _=>by kernel_rfl
theorem l50:LO d50:=λ_ _ _ _=>by kernel_rfl
theorem l51:LO d51:=λ_ _ _ _=>by kernel_rfl
theorem l52:LO d52:=λ_ _ _ _=>by kernel_rfl
theorem l53:LO d53:=λ_ _ _ _=>by kernel_rfl
theorem l54:LO d54:=λ_ _ _ _=>by kernel_rfl
theorem l55:LO d55:=λ_ _ _ _=>by kernel_rfl
theorem l56:LO d56:=λ_ _ _ _=>by kernel_rfl
theorem l57:LO d57:=λ_ _ _ _=>by kernel_rfl
theorem l58:LO d58:=λ_ _ _ _=>by kernel_rfl
theorem l59:LO d59:=λ_ _ _ _=>by kernel_rfl
theorem l60:LO d60:=λ_ _ _ _=>by kernel_rfl
theorem l61:LO d61:=λ_ _ _ _=>by kernel_rfl
theorem l62:LO d62:=λ_ _ _ _=>by kernel_rfl
theorem l63:LO d63:=λ_ _ _ _=>by kernel_rfl
theorem l64:LO d64:=λ_ _ _ _=>by kernel_rfl
theorem l65:LO d65:=λ_ _ _ _=>by kernel_rfl
theorem l66:LO d66:=λ_ _ _ _=>by kernel_rfl
theorem l67:LO d67:=λ_ _ _ _=>by kernel_rfl
theorem l68:LO d68:=λ_ _ _ _=>by kernel_rfl
theorem l69:LO d69:=λ_ _ _ _=>by kernel_rfl
theorem l70:LO d70:=λ_ _ _ _=>by kernel_rfl
theorem l71:LO d71:=λ_ _ _ _=>by kernel_rfl
theorem l72:LO d72:=λ_ _ _ _=>by kernel_rfl
theorem l73:LO d73:=λ_ _ _ _=>by kernel_rfl
theorem l74:LO d74:=λ_ _ _ _=>by kernel_rfl
theorem l75:LO d75:=λ_ _ _ _=>by kernel_rfl
theorem l76:LO d76:=λ_ _ _ _=>by kernel_rfl
theorem l77:LO d77:=λ_ _ _ _=>by kernel_rfl
theorem l78:LO d78:=λ_ _ _ _=>by kernel_rfl
theorem l79:LO d79:=λ_ _ _ _=>by kernel_rfl
theorem l80:LO d80:=λ_ _ _ _=>by kernel_rfl
theorem l81:LO d81:=λ_ _ _ _=>by kernel_rfl
theorem Oq {f:Nat} {e:Func×fN}:VB f=some e->FO f e:=(rN (rN (rN (rN (rN (rN (rN (rL e8) (rL e10)) (rN (rL e14) (rN (rL e18) (rL e22)))) (rN (rN (rL e32) (rL e34)) (rN (rL e37) (rN (rL e41) (rL e51))))) (rN (rN (rN (rL e52) (rL e53)) (rN (rL e54) (rN (rL e63) (rL e65)))) (rN (rN (rL e66) (rN (rL e71) (rL e86))) (rN (rL e87) (rN (rL e88) (rL e89)))))) (rN (rN (rN (rN (rL e90) (rL e91)) (rN (rL e92) (rN (rL e98) (rL ahR)))) (rN (rN (rL ahS) (rL ahT)) (rN (rL ahU) (rN (rL ahV) (rL ahW))))) (rN (rN (rN (rL ahX) (rL ahY)) (rN (rL ahZ) (rN (rL ah_) (rL aia)))) (rN (rN (rL aib) (rN (rL afa) (rL aic))) (rN (rL aid) (rN (rL aie) (rL aif))))))) (rN (rN (rN (rN (rN (rL aig) (rL aih)) (rN (rL aii) (rN (rL aij) (rL aik)))) (rN (rN (rL ail) (rL aim)) (rN (rL ain) (rN (rL aio) (rL aip))))) (rN (rN (rN (rL aiq) (rL air)) (rN (rL ais) (rN (rL ait) (rL aiu)))) (rN (rN (rL aiv) (rN (rL aiw) (rL aix))) (rN (rL aiy) (rN (rL aiz) (rL aiA)))))) (rN (rN (rN (rN (rL aiB) (rL aiC)) (rN (rL aiD) (rN (rL aiE) (rL aiF)))) (rN (rN (rL aiG) (rL aiH)) (rN (rL aiI) (rN (rL aiJ) (rL aiK))))) (rN (rN (rN (rL aiL) (rL aiM)) (rN (rL aiN) (rN (rL aiO) (rL aiP)))) (rN (rN (rL aiQ) (rN (rL aiR) (rL aiS))) (rN (rL aiT) (rN (rL aiU) (rL aiV)))))))) (rN (rN (rN (rN (rN (rN (rL aiW) (rL aiX)) (rN (rL aiY) (rN (rL aiZ) (rL ai_)))) (rN (rN (rL aja) (rL ajb)) (rN (rL ajc) (rN (rL ajd) (rL aje))))) (rN (rN (rN (rL ajf) (rL ajg)) (rN (rL ajh) (rN (rL aji) (rL ajj)))) (rN (rN (rL ajk) (rN (rL ajl) (rL ajm))) (rN (rL ajn) (rN (rL ajo) (rL ajp)))))) (rN (rN (rN (rN (rL ajq) (rL ajr)) (rN (rL ajs) (rN (rL ajt) (rL aju)))) (rN (rN (rL ajv) (rL ajw)) (rN (rL ajx) (rN (rL ajy) (rL ajz))))) (rN (rN (rN (rL ajA) (rL ajB)) (rN (rL ajC) (rN (rL ajD) (rL ajE)))) (rN (rN (rL ajF) (rN (rL ajG) (rL ajH))) (rN (rL ajI) (rN (rL ajJ) (rL ajK))))))) (rN (rN (rN (rN (rN (rL ajL) (rL ajM)) (rN (rL ajN) (rN (rL ajO) (rL ajP)))) (rN (rN (rL ajQ) (rL ajR)) (rN (rL ajS) (rN (rL ajT) (rL ajU))))) (rN (rN (rN (rL ajV) (rL ajW)) (rN (rL ajX) (rN (rL ajY) (rL ajZ)))) (rN (rN (rL aj_) (rN (rL aka) (rL akb))) (rN (rL akc) (rN (rL akd) (rL ake)))))) (rN (rN (rN (rN (rL akf) (rL akg)) (rN (rL akh) (rN (rL aki) (rL akj)))) (rN (rN (rL akk) (rN (rL akl) (rL akm))) (rN (rL akn) (rN (rL ako) (rL akp))))) (rN (rN (rN (rL akq) (rL akr)) (rN (rL aks) (rN (rL akt) (rL aku)))) (rN (rN (rL akv) (rN (rL akw) (rL akx))) (rN (rL aky) (rN (rL akz) (rL akA)))))))))
theorem aai {f:Nat} {e:(Code×Cx)×fN}:adO f=some e->LO e:=(rN (rN (rN (rN (rN (rN (rL (R:=λ_=>LO) l0) (rL (R:=λ_=>LO) l1)) (rN (rL (R:=λ_=>LO) l2) (rN (rL (R:=λ_=>LO) l3) (rL (R:=λ_=>LO) l4)))) (rN (rN (rL (R:=λ_=>LO) l5) (rL (R:=λ_=>LO) l6)) (rN (rL (R:=λ_=>LO) l7) (rN (rL (R:=λ_=>LO) l8) (rL (R:=λ_=>LO) l9))))) (rN (rN (rN (rL (R:=λ_=>LO) l10) (rL (R:=λ_=>LO) l11)) (rN (rL (R:=λ_=>LO) l12) (rN (rL (R:=λ_=>LO) l13) (rL (R:=λ_=>LO) l14)))) (rN (rN (rL (R:=λ_=>LO) l15) (rL (R:=λ_=>LO) l16)) (rN (rL (R:=λ_=>LO) l17) (rN (rL (R:=λ_=>LO) l18) (rL (R:=λ_=>LO) l19)))))) (rN (rN (rN (rN (rL (R:=λ_=>LO) l20) (rL (R:=λ_=>LO) l21)) (rN (rL (R:=λ_=>LO) l22) (rN (rL (R:=λ_=>LO) l23) (rL (R:=λ_=>LO) l24)))) (rN (rN (rL (R:=λ_=>LO) l25) (rL (R:=λ_=>LO) l26)) (rN (rL (R:=λ_=>LO) l27) (rN (rL (R:=λ_=>LO) l28) (rL (R:=λ_=>LO) l29))))) (rN (rN (rN (rL (R:=λ_=>LO) l30) (rL (R:=λ_=>LO) l31)) (rN (rL (R:=λ_=>LO) l32) (rN (rL (R:=λ_=>LO) l33) (rL (R:=λ_=>LO) l34)))) (rN (rN (rL (R:=λ_=>LO) l35) (rN (rL (R:=λ_=>LO) l36) (rL (R:=λ_=>LO) l37))) (rN (rL (R:=λ_=>LO) l38) (rN (rL (R:=λ_=>LO) l39) (rL (R:=λ_=>LO) l40))))))) (rN (rN (rN (rN (rN (rL (R:=λ_=>LO) l41) (rL (R:=λ_=>LO) l42)) (rN (rL (R:=λ_=>LO) l43) (rN (rL (R:=λ_=>LO) l44) (rL (R:=λ_=>LO) l45)))) (rN (rN (rL (R:=λ_=>LO) l46) (rL (R:=λ_=>LO) l47)) (rN (rL (R:=λ_=>LO) l48) (rN (rL (R:=λ_=>LO) l49) (rL (R:=λ_=>LO) l50))))) (rN (rN (rN (rL (R:=λ_=>LO) l51) (rL (R:=λ_=>LO) l52)) (rN (rL (R:=λ_=>LO) l53) (rN (rL (R:=λ_=>LO) l54) (rL (R:=λ_=>LO) l55)))) (rN (rN (rL (R:=λ_=>LO) l56) (rL (R:=λ_=>LO) l57)) (rN (rL (R:=λ_=>LO) l58) (rN (rL (R:=λ_=>LO) l59) (rL (R:=λ_=>LO) l60)))))) (rN (rN (rN (rN (rL (R:=λ_=>LO) l61) (rL (R:=λ_=>LO) l62)) (rN (rL (R:=λ_=>LO) l63) (rN (rL (R:=λ_=>LO) l64) (rL (R:=λ_=>LO) l65)))) (rN (rN (rL (R:=λ_=>LO) l66) (rL (R:=λ_=>LO) l67)) (rN (rL (R:=λ_=>LO) l68) (rN (rL (R:=λ_=>LO) l69) (rL (R:=λ_=>LO) l70))))) (rN (rN (rN (rL (R:=λ_=>LO) l71) (rL (R:=λ_=>LO) l72)) (rN (rL (R:=λ_=>LO) l73) (rN (rL (R:=λ_=>LO) l74) (rL (R:=λ_=>LO) l75)))) (rN (rN (rL (R:=λ_=>LO) l76) (rN (rL (R:=λ_=>LO) l77) (rL (R:=λ_=>LO) l78))) (rN (rL (R:=λ_=>LO) l79) (rN (rL (R:=λ_=>LO) l80) (rL (R:=λ_=>LO) l81))))))))
theorem Cq:Ln Hf zA:=⟨λh=>(Oq h).1,aai⟩
theorem aah {f:Nat} {e:Func×fN} (h:VB f=some e):Tryz.prog.funcs[f]? = some e.1∧aV Tryz.prog f∧okF y e.1=true:=(Oq h).2
end
end Go.Gx
end
namespace Go.Gx
open Go Go.Sx
section
variable {P:Program} {gs:BA} {w0:fQ gs} {tb:TB}
theorem Rb:tW P w0 (λ_ _ _=>none):=λf b H g a h=>by cases h
theorem Kj:Jn P w0 tb (λ_ _ _ _=>none):=λb c d H a h=>by cases h
theorem acr {C:CH} {G:LH} (y:fV P tb) (Q:P.follows .mixedOrders=true) (k:∀w0:fQ gs,tW P w0 C) (l:Jn P w0 tb G) {f:Nat} {d:Func} {J:List GV} {H:GH} {c:QI} (L:P.funcs[f]? = some d) (A:okF tb d=true) (h:Y_ tb C G d J H=some c) (O:c.e = .ret) {t:fC} {w:World} {s:List Value} (R:gH w0 t H w) (E:qL t J s):
  Calls P f s.toArray w λe u=>∃v a,e = .returned v∧t.le a∧gH w0 a c.H u∧Rl a (Xf c.vs) v:=by
 obtain⟨M,N⟩:=RG A;obtain⟨i,D,h⟩:=aF.1 (show ob d.body _=some c from h);obtain⟨K,m,h⟩:=sH h;rw[List.range_eq_range']at m;have r:=Lr m;have S:s.length<=d.ntmps:=by rw[<-E.len,r];exact N
 refine vC L D ?_;have F:lY t d.ntmps K {tmps:=s.toArray++Array.replicate (d.ntmps - s.toArray.size) undef,defers:=[]}:=by
  refine OU Z (by simp;omega) E (λj v p=> ?_) m;have z:=bL p;rw[Nat.zero_add,zBd (by simpa using z)];simpa using p
 refine EJ y Q k l i _ _ _ ⟨K,H⟩ c t _ w _ (M i D) h F R ⟨λI a B u q b n o=> ?_,λid I a B u q b n o=> ?_,λI a B u q b n o=> ?_⟩
 ·obtain⟨x,v,p,g⟩:=IP (fn:=d) y Z n o q;exact Sx.body_end (.inr Z) n.defers g ⟨v,a,rfl,b,by rw[x];exact o,p⟩
 ·have:=Cr q;rw[O]at this;cases this
 ·obtain⟨x,v,p,g⟩:=IP (fn:=d) y Z n o q;exact Sx.body_end (.inl Z) n.defers g ⟨v,a,rfl,b,by rw[x];exact o,p⟩
noncomputable def NR (tb:TB) (f:Nat) (a:Func):CH:=λg b H=>bif Nat.beq g f then Oo (Y_ tb (λ_ _ _=>none) (λ_ _ _ _=>none) a b H)else none
theorem YF (m:fV P tb) (p:P.follows .mixedOrders=true) {f:Nat} {c:Func} (k:P.funcs[f]? = some c) (n:aV P f) (i:okF tb c=true):tW P w0 (NR tb f c):=λg r H x j h t w s R q=>by
 unfold NR at h;cases b:Nat.beq g f with
 |false=>rw[b]at h;cases h
 |true=>
 rw[b]at h;have b:=zA3 b;subst b;replace h:Oo (Y_ tb (λ_ _ _=>none) (λ_ _ _ _=>none) c r H)=some (x,j):=h;unfold Oo at h;obtain⟨o,l,a⟩:=aF.1 h;cases d:o.e with
 |normal=>rw[d]at a;cases a
 |exit id=>rw[d]at a;cases a
 |ret=>
  rw[d]at a;cases a;exact .inr ⟨n _ w,acr m p (λ_=>Rb) Kj k i l d R q⟩
theorem Xu {id:Nat} {o:Oper} {l:List Oper} {Q:Exit->Act->List Frame->World->Prop} {a:Act} {d:List Frame} {w:World} (x:l.all kF=true) (C:o.guard=none) (r:(execOp a.eval o).run P w = .ok .recover w)
  (q:recoverD d=none) (h:Sx.wpList P (o::l).toArray (λe g t=>Q e g d t) l (a.put o.dst .nilIface) w):(Code.region id (o::l).toArray false).wpSIn (FR none) 0 P Q a d w:=by
 intro b k B f u c;have y:(o::l).toArray[0]? = some o:=by simp
 obtain⟨e,g,t,E,i⟩:=wp_opsIn (F:=FR none) (n:=0) (Q:=λe g t=>Q e g d t) (ops:=(o::l).toArray) (List.range' 1 l.length) (a.put o.dst .nilIface) w
  (by rw[wpOpsIn_eq_wpListIn l 1 (by intro j;simp[Nat.add_comm 1 j])];exact Sx.wpList_in l _ w x h) b k d f u c
 have H:Region.wanted o (yielded (o::l).toArray a.tmps)=true:=by simp[Region.wanted,C]
 have A:(lone (b.atR a (.inRegion (o::l).toArray (0::List.range' 1 l.length)::k)) d w).fenced P (FR none):=fenced_oper u c y (λ_ _=>trivial);have p:=stepGR_op (P:=P) (b:=b) (k:=k) (cs:=d) (w:=w) (rest:=List.range' 1 l.length) y H;rw[f,Oper.semAt_none]at p;have m:∀v,(b.atR a (.inRegion (o::l).toArray (0::List.range' 1 l.length)::k)).finish v=b.atR (a.put o.dst v) (.inRegion (o::l).toArray (List.range' 1 l.length)::k):=by
  intro v;rw[Frame.finish_atR,y];rfl
 have D:(b.atR a (.inRegion (o::l).toArray (0::List.range' 1 l.length)::k)).kind = .deferred:=B;have s:=tryRecover_deferred D d;have G:List.range (o::l).toArray.size=0::List.range' 1 l.length:=by simp[List.range_eq_range',List.range'_succ]
 have z:=stepR_region (P:=P) (b:=b) (a:=a) (k:=k) (cs:=d) (w:=w) (id:=id) (ops:=(o::l).toArray);rw[G]at z;refine⟨e,g,d,t,rfl,E,.of_steps (.head (fenced_calm u c Z) z (.one A (step_lone_go ?_))) i⟩
 rw[p,<-m];simp only[Frame.atR,f]at s ⊢;simp[stepG.apply,r,s,q]
theorem Wz {ch:CH} {lp:LH} (I:fV P tb) (hm:P.follows .mixedOrders=true) {f:Nat} {i:Func} {id m d:Nat} {o:Oper} {l:List Oper} {b:Code} {U:Cx} {q:QI} {a:Array Value} {w:World}
  (c:∀w0:fQ noG,tW P w0 ch) (p:Jn P (fQ.one w) tb lp) (X:P.funcs[f]? = some i) (V:i.body=some (.seq (.region id (o::l).toArray false) b)) (B:o.guard=none) (W:o.dst=some d) (A:d<i.ntmps)
  (u:∀ρ w,(execOp ρ o).run P w = .ok .recover w) (K:l.all (JF i.ntmps)=true) (hr:Jk tb i.ntmps b=true) (s:i.results = #[]) (aa:a.size<=i.ntmps)
  (h:Hn tb ch (o::l) (evC tb ch lp b m U (IN [])) l ⟨[(d,.inil)],H0⟩=some q) (J:q.e = .normal):
  CallsDIn (FR none) 0 P f a .returning w λe u' E=>∃v,e = .returned v∧u' = .returning∧NF w E:=by
 have D:l.all kF=true:=zA4.2 λo C=>(vT (zA4.1 K o C)).1;refine callsDIn_of_wpSIn X V trivial λk T M=> ?_;have r:recoverD (k::T)=none:=by simp[recoverD,M]
 refine wpSIn_seq (Xu D B (u _ _) r ?_);have F:lY (λ_=>none) i.ntmps [(d,.inil)] (({tmps:=a++Array.replicate (i.ntmps - a.size) undef,defers:=[]}:Act).put o.dst .nilIface):=by
  rw[W];refine lY.put ⟨rfl,by simp;omega,λt g B=>(by cases B)⟩ A ?_;exact .inil
 refine Iy I (c (fQ.one w)) l ⟨[(d,.inil)],H0⟩ _ _ w K F (gH.start (fQ.one w) Z) h λs' G S E Y L Q R=> ?_;refine wpSIn_of_wpIn Z ?_;refine EJ I hm c p b _ _ _ s' q G S E _ hr Y Q R ⟨λN x H O j n y z=> ?_,λid N x H O j n y z=> ?_,λN x H O j n y z=> ?_⟩
 ·refine⟨y.defers,k.mode,rfl,.tuple #[],?_,_,rfl,M,z.ext.ext⟩
  simp[results,s]
 ·have:=Cr j;rw[J]at this;cases this
 ·have:=PN j;rw[J]at this;cases this
theorem Lb {o:Oper} {l:List Oper} {b:Array Oper} {Q:Exit->Act->World->Prop} {a:Act} {w w':World} {v:Value} (c:o.guard=none) (d:(execOp a.eval o).run P w = .ok (.value v) w') (h:Sx.wpList P b Q l (a.put o.dst v) w'):Sx.wpList P b Q (o::l) a w:=by
 unfold Sx.wpList;rw[if_pos (by simp[Region.wanted,c])];exact .inl (by simp only[Oper.wp,d,Oper.upon];exact h)
theorem SN {o:Oper} {l:List Oper} {b:Array Oper} {Q:Exit->Act->World->Prop} {a:Act} {w w':World} (c:o.guard=none) (d:(execOp a.eval o).run P w = .ok .skip w') (h:Sx.wpList P b Q l (a.put o.dst undef) w'):Sx.wpList P b Q (o::l) a w:=by
 unfold Sx.wpList;rw[if_pos (by simp[Region.wanted,c])];exact .inl (by simp only[Oper.wp,d,Oper.upon];exact h)
theorem Xv {o:Oper} {l:List Oper} {b:Array Oper} {Q:Exit->Act->World->Prop} {a:Act} {w:World} {f:Nat} {args:Array Value} {S:Value->World->Prop} (d:o.guard=none) (g:(execOp a.eval o).run P w = .ok (.enter f args) w)
  (c:Calls P f args w λe w'=>∃v,e = .returned v∧S v w') (h:∀v w',S v w'->Sx.wpList P b Q l (a.put o.dst v) w'):Sx.wpList P b Q (o::l) a w:=by
 unfold Sx.wpList;rw[if_pos (by simp[Region.wanted,d])];refine .inl ?_;simp only[Oper.wp,g,Oper.upon];refine c.mono ?_;rintro e w' ⟨v,rfl,i⟩;exact h v w' i
theorem aeU (M:fV P tb) {c cc T1 T2 i0 i1 i2 i3 y0 y1 y2 y3 y4 y5 y6 y7:Nat} {p0 p1 p2 p3 p4 p5 p6 p7:String} {e0 e1 e2 e3 e4 e5 e6 e7:Array Edge} {z:Func} (hf:P.funcs[c]? = some z) (ag:aV P c) (ah:aV P cc)
  (hb:z.body=some (.seq (.region i0 #[⟨some 2,.alloc T1,y0,p0,e0,none⟩,⟨some 3,.alloc T2,y1,p1,e1,none⟩] false)
   (.seq (.region i1 #[⟨some 4,.makeFunc (.func cc) #[] #[.tmp 2,.tmp 3],y2,p2,e2,none⟩,⟨none,.defer ⟨.value (.tmp 4),#[],#[]⟩,y3,p3,e3,none⟩] false)
   (.seq (.region i2 #[⟨some 5,.move (.tmp 0),y4,p4,e4,none⟩,⟨some 6,.call ⟨.value (.tmp 5),#[],#[]⟩,y5,p5,e5,none⟩] false)
   (.seq (.region i3 #[⟨none,.store T1 (.tmp 2) (.const (.int .i64 0)),y6,p6,e6,none⟩,⟨none,.store T2 (.tmp 3) (.const (.int .i64 0)),y7,p7,e7,none⟩] false) .ret)))))
  (hn:z.ntmps=7) (Q:z.results = #[.cell 2 T1,.cell 3 T2])
  (aa:∀H,Av tb T1 H=some (.ptr H.n 0,H.new (.cells [Ay]))) (ab:∀H,Av tb T2 H=some (.ptr H.n 0,H.new (.cells [Ay])))
  (ae:∀H h c,GH.cells H h=some [c]->u_ tb T1 (.ptr h 0) Ay H=some (.un,H.set h (.cells [Ay]))) (af:∀H h c,GH.cells H h=some [c]->u_ tb T2 (.ptr h 0) Ay H=some (.un,H.set h (.cells [Ay])))
  (ac:∀H h,GH.cells H h=some [Ay]->zB tb T1 (.ptr h 0) H=some Ay) (ad:∀H h,GH.cells H h=some [Ay]->zB tb T2 (.ptr h 0) H=some Ay)
  (N:∀o w,o.size=2->CallsDIn (FR none) 0 P cc o .returning w λe u' l=>∃v,e = .returned v∧u' = .returning∧NF w l)
  {G:fC} {g:Nat} {k j:List Value} {w:World} {H s:GH} {c1 c2:GV} (R:gH w0 G H w) (hc:∀i l,G.le i->gH w0 i ((H.new (.cells [Ay])).new (.cells [Ay])) l->∃x,lX P w0 i g (k++j) l x s) (h1:s.cells H.n=some [c1]) (J:s.cells (H.n+1)=some [c2]):
  lX P w0 G c [.func (.func g) k.toArray j.toArray] w (.tup [Ay,Ay]) ((((s.set H.n (.cells [Ay])).set (H.n+1) (.cells [Ay])).del H.n).del (H.n+1)):=by
 refine .inr ⟨ag _ w,?_⟩;refine Rc (r:=none) (n:=0) (callsIn_of_wp_defers hf hb trivial ?_);rw[hn];obtain⟨b,w1,ap,aj,C,R1,U⟩:=JV (P:=P) M R (aa H);obtain⟨d,y,I,ak,p,R2,V⟩:=JV (P:=P) M R1 (ab _);obtain⟨x,hx⟩:=hc I y (fC.le_trans C p) R2;refine wpIn_seq (vA Z ?_);refine Lb Z (v:=b) (w':=w1) (by simp[execOp,aj]) ?_;refine Lb Z (v:=d) (w':=y) (by simp[execOp,ak]) ?_;show Code.wpIn (FR none) 0 P _ _ (⟨#[.func (.func g) k.toArray j.toArray,undef,b,d,undef,undef,undef],[]⟩:Act) y;refine wpIn_seq (wpIn_region_lit ?_);refine wpListIn_plain Z λK hK=>⟨λ_ _=>trivial,?_⟩
 have hm:(Oper.semAt (FR none).round (⟨#[.func (.func g) k.toArray j.toArray,undef,b,d,undef,undef,undef],[]⟩:Act).eval ⟨some 4,.makeFunc (.func cc) #[] #[.tmp 2,.tmp 3],y2,p2,e2,none⟩).run P y = .ok (.value (.func (.func cc) #[] #[b,d])) y:=by
  rw[show(FR none).round=none from rfl,Oper.semAt_none];simp[execOp,Instr.makeFunc,Act.eval]
 rw[hm];refine hK _ _ ?_;show wpListIn _ _ _ _ _ _ (⟨#[.func (.func g) k.toArray j.toArray,undef,b,d,.func (.func cc) #[] #[b,d],undef,undef],[]⟩:Act) y;refine wpListIn_plain Z λK hK=>⟨λ_ _=>trivial,?_⟩
 have hm:(Oper.semAt (FR none).round (⟨#[.func (.func g) k.toArray j.toArray,undef,b,d,.func (.func cc) #[] #[b,d],undef,undef],[]⟩:Act).eval ⟨none,.defer ⟨.value (.tmp 4),#[],#[]⟩,y3,p3,e3,none⟩).run P y = .ok (.defer ⟨.fn (.func cc) #[b,d],#[]⟩) y:=by
  rw[show(FR none).round=none from rfl,Oper.semAt_none];simp[execOp,resolve,Act.eval,Deferred.ofValue]
 rw[hm];refine hK _ _ ?_;show Code.wpIn (FR none) 0 P _ _ (⟨#[.func (.func g) k.toArray j.toArray,undef,b,d,.func (.func cc) #[] #[b,d],undef,undef],[⟨.fn (.func cc) #[b,d],#[]⟩]⟩:Act) y;refine wpIn_seq (vA Z ?_);refine Lb Z (v:= .func (.func g) k.toArray j.toArray) (w':=y) (by simp[execOp,Act.eval]) ?_;show Sx.wpList _ _ _ _ (⟨#[.func (.func g) k.toArray j.toArray,undef,b,d,.func (.func cc) #[] #[b,d],.func (.func g) k.toArray j.toArray,undef],[⟨.fn (.func cc) #[b,d],#[]⟩]⟩:Act) y;have go:∀v D m,I.le m->gH w0 m s D->Code.wpIn (FR none) 0 P (.seq (.region i3 #[⟨none,.store T1 (.tmp 2) (.const (.int .i64 0)),y6,p6,e6,none⟩,⟨none,.store T2 (.tmp 3) (.const (.int .i64 0)),y7,p7,e7,none⟩] false) .ret) (bodyPostDIn (FR none) 0 P z λe l=>∃v i,e = .returned v∧G.le i∧gH w0 i ((((s.set H.n (.cells [Ay])).set (H.n+1) (.cells [Ay])).del H.n).del (H.n+1)) l∧Rl i (.tup [Ay,Ay]) v) (⟨#[.func (.func g) k.toArray j.toArray,undef,b,d,.func (.func cc) #[] #[b,d],.func (.func g) k.toArray j.toArray,v],[⟨.fn (.func cc) #[b,d],#[]⟩]⟩:Act) D:=by
  intro v D m a L;have hz:∀G,Rl G Ay (.int .i64 0):=λG=> .int _ _;obtain⟨_,w4,aq,al,q,R4⟩:=JX (P:=P) (T:=T1) M L ((U.le p).le a) (hz _) (ae _ _ _ h1);have Y:(s.set H.n (.cells [Ay])).cells (H.n+1)=some [c2]:=by
   rw[jB]at J ⊢;rw[tY,if_neg (by omega)];exact J
  obtain⟨_,X,W,am,u,R5⟩:=JX (P:=P) (T:=T2) M R4 ((V.le a).le q) (hz _) (af _ _ _ Y);refine wpIn_seq (vA Z ?_);refine SN Z (w':=w4) (by simp[execOp,Act.eval,al]) ?_;refine SN Z (w':=X) (by simp[execOp,Act.eval,Act.put,am]) ?_;refine wpIn_ret ?_;show LeavesIn (FR none) 0 P z #[.func (.func g) k.toArray j.toArray,undef,b,d,.func (.func cc) #[] #[b,d],.func (.func g) k.toArray j.toArray,v] _ [⟨.fn (.func cc) #[b,d],#[]⟩] .returning X;refine leavesIn_cons (f:=cc) (args:= #[b,d]) (by simp) (by simp[FR,Fence.wide]) (by simp[invoke,ah _ X]) (λ_ _=>trivial) ?_;refine(N #[b,d] X Z).mono ?_;rintro e u' w6 ⟨x6,rfl,rfl,O⟩;have R6:=R5.ext' O;have F:lY W 7 [(2,.ptr H.n 0),(3,.ptr (H.n+1) 0)] (⟨#[.func (.func g) k.toArray j.toArray,undef,b,d,.func (.func cc) #[] #[b,d],.func (.func g) k.toArray j.toArray,v],[]⟩:Act):=by
   refine⟨rfl,rfl,λt g B=> ?_⟩
   rw[CE]at B;by_cases J:t=2
   ·rw[if_pos J]at B;cases B;rw[J];exact(((U.le p).le a).le q).le u
   ·rw[if_neg J,CE]at B;by_cases h3:t=3
    ·rw[if_pos h3]at B;cases B;rw[h3];exact((V.le a).le q).le u
    ·rw[if_neg h3]at B;cases B
  have E:Ue tb ⟨z.results.toList,0,[]⟩ ⟨[(2,.ptr H.n 0),(3,.ptr (H.n+1) 0)],(s.set H.n (.cells [Ay])).set (H.n+1) (.cells [Ay])⟩=some ⟨.ret,[Ay,Ay],(s.set H.n (.cells [Ay])).set (H.n+1) (.cells [Ay])⟩:=by
   rw[Q];have q1:zB tb T1 (.ptr H.n 0) ((s.set H.n (.cells [Ay])).set (H.n+1) (.cells [Ay]))=some Ay:=ac _ _ (by rw[jB,tY,if_neg (by omega),tY,if_pos Z]);have q2:zB tb T2 (.ptr (H.n+1) 0) ((s.set H.n (.cells [Ay])).set (H.n+1) (.cells [Ay]))=some Ay:=ad _ _ (by rw[jB,tY,if_pos Z]);show ob (ob (zB tb T1 (.ptr H.n 0) _) λv=>ob (ob (zB tb T2 (.ptr (H.n+1) 0) _) λv=>ob (some []) λvs=>some (v::vs)) λvs=>some (v::vs)) _=_;rw[q1,q2];rfl
  obtain⟨_,v6,ao,an⟩:=IP (fn:=z) (P:=P) M Z F R6 E;exact⟨v6,an,v6,W,rfl,fC.le_trans C (fC.le_trans p (fC.le_trans a (fC.le_trans q u))),(R6.del _).del _,ao⟩
 rcases hx with⟨v,D,m,hr,a,L,_⟩|⟨hr,A⟩
 ·refine Lb Z (v:=v) (w':=D) (by simpa [execOp,resolve,Act.eval,Deferred.ofValue,invoke]using hr) ?_;exact go v D m a L
 ·refine Xv Z (f:=g) (args:=(k++j).toArray) (S:=λv l=>∃i,I.le i∧gH w0 i s l) (by simpa [execOp,resolve,Act.eval,Deferred.ofValue,invoke]using hr) (A.mono ?_) λv D ⟨m,a,L⟩=>go v D m a L;rintro e l ⟨v,i,rfl,ai,R',_⟩;exact⟨v,rfl,i,ai,R'⟩
end
noncomputable section
def TS (n c:Nat) (a:Nat):Nat->Option Nat:=Nat.rec (motive:=λ_=>Nat->Option Nat) (λ_=>none) (λ_ b i=>Bool.casesOn (motive:=λ_=>Option Nat) (Nat.beq (Nat.mod (Nat.shiftRight n (Nat.mul 8 i)) 256) c) (b (Nat.succ i)) (some i)) a
def akJ (k:IntKind):Bool:=match k with
 | .u8=>true
 |_=>false
def Zm (b:Nat) (f:Nat) (d:List GV):Option GV:=bif Nat.beq f b then List.casesOn (motive:=λ_=>Option GV) d none (λa r=>List.casesOn (motive:=λ_=>Option GV) r none λc r=>List.casesOn (motive:=λ_=>Option GV) r (ob a.asStr λs=>ob c.asI λp=>ob (asN p.2) λk=>
 bif akJ p.1 then(bif Nat.blt k 256 then Option.casesOn (motive:=λ_=>Option GV) (TS s.1 k s.2 0) (some (.int .i64 (.negSucc 0))) (λi=>some (.int .i64 (.ofNat i)))else none)else none) λ_ _=>none)else none
theorem Vh (x:List UInt8) (c:Nat) (m:c<256):∀k i,i+k=x.length->(match TS (mR x) c k i with|none=>(-1:Int)|some j=>(j:Int))=(if Lib.indexByte (x.drop i) c.toUInt8 = -1 then -1 else Lib.indexByte (x.drop i) c.toUInt8+i)
 |0,i,h=>by
  rw[List.drop_of_length_le (by omega)];simp[TS,Lib.indexByte]
 | k + 1, i, h => by
  have o:=Vh x c m k (i+1) (by omega);have g:i<x.length:=by omega
  have e:TS (mR x) c (k+1) i=Bool.casesOn (motive:=λ_=>Option Nat) (Nat.beq (Nat.mod (Nat.shiftRight (mR x) (Nat.mul 8 i)) 256) c) (TS (mR x) c k (i+1)) (some i):=rfl;rw[e,Vb x i g,List.drop_eq_getElem_cons g];have a:(x[i]).toNat=c↔x[i]=c.toUInt8:=by
   rw[<-UInt8.toNat_inj];have:c.toUInt8.toNat=c:=by simp[Nat.toUInt8];omega
   rw[this]
  unfold Lib.indexByte;cases d:Nat.beq (x[i]).toNat c with
  |true=>
   have:=a.1 (zA3 d);simp[this]
  | false =>
   have f:¬x[i]=c.toUInt8:=λl=>by
    have:=a.2 l;rw[this]at d;simp at d
   have n:=Lib.indexByte_ge (x.drop (i+1)) c.toUInt8;simp only[beq_iff_eq,f,if_false];rw[o];by_cases b:Lib.indexByte (x.drop (i+1)) c.toUInt8 = -1
   ·simp[b]
   ·rw[if_neg b,if_neg b,if_neg (by omega)]
    push_cast;omega
section
variable {P:Program} {gs:BA} {w0:fQ gs}
theorem acz {u:Nat} {l:Func} (F:P.funcs[u]? = some l) (e:(l.name == "runtime.NumGoroutine")=false) (D:l.body.isNone=true) (I:Extern.findNext l=none) (E:Extern.find l=some Extern.BytealgIndexByte.indexByte)
  {f:Nat} {i:List GV} {g:GV} (h:Zm u f i=some g) (q:fC) (w:World) (o:List Value) (H:GH) (R:gH w0 q H w) (m:qL q i o):lX P w0 q f o w g H:=by
 unfold Zm at h;replace h:=bV.1 h;have C:=zA3 h.1;replace h:=h.2;subst C;cases i with
 |nil=>cases h
 |cons a i=>
 cases i with
 |nil=>cases h
 |cons c i=>
 cases i with
 |cons _ _=>cases h
 |nil=>
 obtain⟨s,L,h⟩:=aF.1 (show ob a.asStr _=some g from h);obtain⟨p,J,h⟩:=aF.1 h;obtain⟨k,G,h⟩:=aF.1 h;obtain⟨x,h⟩:=bV.1 h;obtain⟨d,h⟩:=bV.1 h;obtain⟨v,o,rfl,y,m⟩:=m.of_cons;obtain⟨N,o,rfl,b,m⟩:=m.of_cons;rw[m.of_nil];rw[qW L]at y;rw[pG J]at b;obtain⟨S,rfl,A,M⟩:=y.str_inv;have b:=b.int_inv;subst b;have t:p.1 = .u8:=by cases K:p.1<;>rw[K]at x<;>first|rfl|cases x
 have r:p.2=(k:Int):=Jq G;have d:k<256:=by simpa using d
 refine .inl ⟨.int .i64 (Lib.indexByte S.data.toList p.2.toNat.toUInt8),w,q,?_,fC.le_refl _,R,?_⟩
 ·rw[run_callFunc_extern F e D I E,t,Lib.run_indexByteString];rfl
 ·have n:=Vh (bQ S) k d s.2 0 (by omega);rw[A]at h;rw[List.drop_zero]at n;have B:Lib.indexByte S.data.toList p.2.toNat.toUInt8=(match TS (mR (bQ S)) k s.2 0 with|none=>(-1:Int)|some j=>(j:Int)):=by
   rw[n,r];have:bQ S=S.data.toList:=rfl;rw[this];simp only[zAe];split
   ·assumption
   ·omega
  rw[B];cases z:TS (mR (bQ S)) k s.2 0 with
  |none=>rw[z]at h;cases h;exact .int _ _
  |some j=>rw[z]at h;cases h;exact .int _ _
end
end
noncomputable section
def aeZ {a:Type} (c:Nat) (d:List GV->Option a) (n:Nat):List GV->Option (List a):=Nat.rec (motive:=λ_=>List GV->Option (List a)) (λ_=>some []) (λ_ e b=>ob (d (b.take c)) λy=>ob (e (b.drop c)) λf=>some (y::f)) n
def Na {b:Type} (H:GH) (a:Nat) (d:List GV->Option b) (v:GV):Option (List b):=ob (vD H a v) λp=>bif Nat.ble p.1 1099511627776 then aeZ a d p.1 p.2 else none
def dI (k:IntKind) (a:List GV):Option Int:=List.casesOn (motive:=λ_=>Option Int) a none λc r=>List.casesOn (motive:=λ_=>Option Int) r (ob c.asI λp=>bif decide (p.1=k)then some p.2 else none) λ_ _=>none
def dP {b c:Type} (n:Nat) (d:List GV->Option b) (e:List GV->Option c) (a:List GV):Option (b×c):=ob (d (a.take n)) λx=>ob (e (a.drop n)) λy=>some (x,y)
def dS {a:Type} (H:GH) (e:Nat) (d:List GV->Option a) (b:List GV):Option (List a):=List.casesOn (motive:=λ_=>Option (List a)) b none λc r=>List.casesOn (motive:=λ_=>Option (List a)) r (Na H e d c) λ_ _=>none
end
section
variable {P:Program} {gs:BA} {w0:fQ gs} {w:World} {ρ:fC} {H:GH} {S:Nat->Prop}
def All (_:Nat):Prop:=True
def eX {b c:Type} (S:Nat->Prop) (ρ:fC) (w:World) (d:List GV->Option c) (r:fU b) (e:b->c):Prop:=∀gs a y,qL ρ gs a->d gs=some y->gs.length=r.sz->∃z,e z=y∧r.R w S a z
theorem eX.int (k:IntKind):eX S ρ w (dI k) (fU.int k) id:=λgs f y b h _=>by
 cases gs with
 |nil=>cases h
 |cons c gs=>
 cases gs with
 |cons _ _=>cases h
 |nil=>
 obtain⟨p,e,h⟩:=aF.1 (show ob c.asI _=some y from h);obtain⟨a,h⟩:=bV.1 h;cases h;obtain⟨v,f,rfl,d,b⟩:=b.of_cons;rw[b.of_nil];rw[pG e]at d;rw[d.int_inv];have a:=zBf a;exact⟨p.2,rfl,by rw[a];rfl⟩
theorem eX.pair {q t b c:Type} {d:List GV->Option b} {e:List GV->Option c} {r:fU q} {s:fU t} {m:q->b} {n:t->c} (u:eX S ρ w d r m) (A:eX S ρ w e s n):eX S ρ w (dP r.sz d e) (fU.pair r s) (λz=>(m z.1,n z.2)):=λgs l y f h p=>by
 obtain⟨x,B,h⟩:=aF.1 (show ob (d (gs.take r.sz)) _=some y from h);obtain⟨F,j,h⟩:=aF.1 h;cases h;have p:gs.length=r.sz+s.sz:=p;have E:=f.len;obtain⟨z,rfl,C⟩:=u _ (l.take r.sz) _ (by simpa using f.sub 0 r.sz) B (by simp;omega);obtain⟨D,rfl,k⟩:=A _ (l.drop r.sz) _ ⟨by simp;omega,λi g v o a=>by rw[zAs]at o a;exact f.at' _ _ _ o a⟩ j (by simp;omega);exact⟨(z,D),rfl,_,_,(List.take_append_drop r.sz l).symm,C,k⟩
theorem U_ {C D:Type} {d:List GV->Option D} {r:fU C} {E:C->D} (F:eX S ρ w d r E) (b:Nat):∀(n:Nat) (f:List GV) (m:List Value) (a:Nat) (l:List D),aeZ r.sz d n f=some l->qL ρ f m->f.length=n*r.sz->(∀(j:Nat) x,m[j]? = some x->w.cell? ⟨b,a+j,none⟩=some x)->
  ∃p:List C,p.map E=l∧p.length=n∧∀(i:Nat) z,p[i]? = some z->∃q,(∀(j:Nat) e,q[j]? = some e->w.cell? ⟨b,a+(i*r.sz+j),none⟩=some e)∧r.R w S q z
 |0,f,m,a,l,h,hr,hl,hc=>by
  cases h;exact⟨[],rfl,rfl,λi z t=>by simp at t⟩
 | n + 1, f, m, a, l, h, hr, hl, hc => by
  obtain⟨y,M,h⟩:=aF.1 (show ob (d (f.take r.sz)) (λy=>ob (aeZ r.sz d n (f.drop r.sz)) λl=>some (y::l))=some l from h);obtain⟨B,s,h⟩:=aF.1 h;cases h;rw[Nat.succ_mul]at hl;have O:=hr.len;obtain⟨z,rfl,t⟩:=F _ (m.take r.sz) _ (by simpa using hr.sub 0 r.sz) M (by simp;omega);obtain⟨p,rfl,u,A⟩:=U_ F b n (f.drop r.sz) (m.drop r.sz) (a+r.sz) B s ⟨by simp;omega,λi g v G o=>by rw[zAs]at G o;exact hr.at' _ _ _ G o⟩ (by simp;omega) (λj x J=>by
   rw[zAs]at J;rw[Nat.add_assoc];exact hc _ _ J)
  refine⟨z::p,rfl,by simp[u],λi N c=> ?_⟩
  cases i with
  | zero =>
   simp at c;subst c;refine⟨_,λj e k=> ?_,t⟩
   rw[zAr]at k;by_cases I:j<r.sz
   ·rw[if_pos I]at k;have:=hc j e k;simpa using this
   ·rw[if_neg I]at k;cases k
  |succ i=>
   simp at c;obtain⟨q,K,L⟩:=A i N c;refine⟨q,λj e k=> ?_,L⟩
   have:=K j e k;rw[Nat.succ_mul];rw[show a+(i*r.sz+r.sz+j)=a+r.sz+(i*r.sz+j) by omega];exact this
theorem Ri (R:gH w0 ρ H w) {v:GV} {V:Value} {B:Nat} {p:Nat×List GV} (t:Rl ρ v V) (h:vD H B v=some p):
  p.2.length=p.1*B∧∃a c,V = .slice a p.1 c∧p.1<=c∧(p.1=0∨∃b i o,a=some ⟨b,i,none⟩∧w0.mine b∧qL ρ p.2 o∧∀(j:Nat) x,o[j]? = some x->w.cell? ⟨b,i+j,none⟩=some x):=by
 obtain⟨o,C⟩:=EH R t h;refine⟨by rw[C.rel.len,C.len],?_⟩
 obtain⟨f,c,y,D,F⟩:=C.val;refine⟨f,c,y,D,?_⟩
 rcases F with⟨_,m,_⟩|⟨A,rfl,d⟩
 ·exact .inl m
 ·by_cases m:p.1=0
  ·exact .inl m
  ·refine .inr ?_;unfold vD at h;cases z:v.isSnil with
   |true=>rw[z]at h;cases h;exact absurd Z m
   | false =>
    rw[z]at h;obtain⟨s,I,h⟩:=aF.1 (show ob v.asS _=some p from h);rw[Du I,y]at t;obtain⟨l,u,K,G,e,E,n⟩:=t.sl_inv;injection e with k M N;injection k with k;rcases n with n|⟨n,_⟩
    ·omega
    ·rw[n]at k;subst k;have r:w0.mine l.b:=by
      obtain⟨_,h⟩:=bV.1 h;obtain⟨L,q,_⟩:=aF.1 h;obtain⟨O,g,r,_⟩:=R.live _ _ (jB.1 q);rw[G]at g;cases g;exact r
     exact⟨l.b,l.off+s.2.1,o,rfl,r,C.rel,λj x J=>by have:=d j x J;rwa[fO]at this⟩
theorem Df {m n:Type} {d:List GV->Option n} {r:fU m} {o:m->n} (R:gH w0 ρ H w) (t:∀k,w0.mine k->S k) (u:eX S ρ w d r o) {v:GV} {V:Value} {j:List n} (B:Rl ρ v V) (h:Na H r.sz d v=some j):∃l:List m,l.map o=j∧OQ r w S V l:=by
 obtain⟨p,z,h⟩:=aF.1 (show ob (vD H r.sz v) _=some j from h);obtain⟨g,h⟩:=bV.1 h;have g:p.1<=1099511627776:=by simpa using g
 obtain⟨i,a,f,rfl,E,x⟩:=Ri R B z;rcases x with q|⟨b,e,D,rfl,y,A,c⟩
 ·rw[q]at h;cases h;exact⟨[],rfl,a,f,by rw[q];rfl,by simp,.inl Z⟩
 ·obtain⟨l,rfl,s,C⟩:=U_ u b p.1 p.2 D e j h A i c;exact⟨l,rfl,some ⟨b,e,none⟩,f,by rw[s],by rw[s];omega,.inr ⟨b,e,rfl,t b y,C⟩⟩
theorem eX.sl {e f:Type} {d:List GV->Option f} {r:fU e} {b:e->f} (R:gH w0 ρ H w) (g:∀k,w0.mine k->S k) (i:eX S ρ w d r b):eX S ρ w (dS H r.sz d) (fU.sl r) (λz=>z.2.map b):=λgs vs y a h n=>by
 cases gs with
 |nil=>cases h
 |cons c gs=>
 cases gs with
 |cons _ _=>cases h
 |nil=>
 have h:Na H r.sz d c=some y:=h;obtain⟨v,vs,rfl,j,a⟩:=a.of_cons;rw[a.of_nil];obtain⟨m,rfl,l⟩:=Df R g i j h;exact⟨(v,m),rfl,rfl,l⟩
end
noncomputable section
def xX {c:Type} (e:Nat) (g:c->List GV) (a:List (List c)):GH->List GV×GH:=List.rec (motive:=λ_=>GH->List GV×GH) (λH=>([],H)) (λb _ d H=>let r:=d (H.new (.cells (b.flatMap g)));(.sl H.n 0 b.length e::r.1,r.2)) a
end
section
variable {P:Program} {gs:BA} {w0:fQ gs} {w:World} {ρ:fC} {H:GH}
def Hi (ρ:fC) (H:GH) (B:Nat->Prop):Prop:=∀h o l,H.get h=some o->ρ h=some l->¬B l.b
theorem Hi.mono {B b:Nat->Prop} (h:Hi ρ H B) (f:∀k,b k->B k):Hi ρ H b:=λa o l c d e=>h a o l c d (f _ e)
theorem Hi.start (R:gH w0 ρ H w):Hi ρ H (λk=>w.heap.size<=k):=λh o l b c e=>by
 obtain⟨f,a,_,d⟩:=R.live h o b;rw[c]at a;cases a;have:=d.lt;omega
theorem JA {N:Type} {e:fE N} {d:List N} {cs:List GV} {v:Value} {B F:Nat->Prop} (R:gH w0 ρ H w) (A:Hi ρ H B) (U:∀k,B k->w0.mine k) (s:∀k,F k->B k) (V:Gv e w F v d) (E:d≠[]) (t:qL ρ cs (cellsOf e d)):
  ∃f,ρ.le f∧gH w0 f (H.new (.cells cs)) w∧Rl f (.sl H.n 0 d.length e.sz) v∧Hi f (H.new (.cells cs)) (λk=>B k∧¬F k):=by
 obtain⟨_,y,W⟩:=V;rcases W with⟨_,S⟩|⟨b,p,r,T,c,rfl,C,I,D,G,a⟩
 ·exact absurd S E
 have M:(cellsOf e d).length=d.length*e.sz:=by
  rw[<-a];simp;have:d.length*e.sz<=r*e.sz:=zB9 _ D;omega
 have u:ρ.le (ρ.upd H.n ⟨b,p,c.size,.cells c T (0,0),.cells cs⟩):=AJ (R.fresh _ (zAd _));have J:d.length*e.sz<=r*e.sz:=zB9 _ D;obtain⟨_,O⟩:=R.new (o:= .cells cs) (l:=⟨b,p,c.size,.cells c T (0,0),.cells cs⟩) R.ext (λh o' Y j m=>⟨rfl,λQ=>A h o' Y j m (by rw[Q];exact s _ C)⟩) (U _ (s _ C)) ⟨c,T,I,rfl,by
   show p+cs.length<=c.size;have:=t.len;omega,λi g j=>by
   obtain⟨x,q,X⟩:=t.get j;refine⟨x,?_,X.le u,zA4.1 y x (zAq q)⟩
   rw[<-a,zAr]at q;by_cases K:i<d.length*e.sz
   ·rw[if_pos K,zAs,zAf]at q;exact q
   ·rw[if_neg K]at q;cases q⟩ I
 refine⟨_,u,O,.sl (by simp[fC.upd];rfl) D (.inr ⟨rfl,G⟩),λh o l j m L=> ?_⟩
 rw[rY]at j;by_cases z:h=H.n
 ·rw[z]at m;simp[fC.upd]at m;subst m;exact L.2 C
 ·rw[if_neg z]at j;simp only[fC.upd,if_neg z]at m;exact A h o l j m L.1
theorem Pm {b:Type} {e:fE b} {g:b->List GV} (c:∀x,qL ρ (g x) (e.enc x)):∀a:List b,qL ρ (a.flatMap g) (cellsOf e a)
 | []=> .nil
 |x::a=>(c x).append (Pm c a)
theorem LU {o:Type} {e:fE o} {g:o->List GV} (r:∀ρ x,qL ρ (g x) (e.enc x)):∀(a:List (List o)) (vs:List Value) (G:Nat->Nat->Prop) (B:Nat->Prop) (ρ:fC) (H:GH),gH w0 ρ H w->Hi ρ H B->(∀k,B k->w0.mine k)->vs.length=a.length->
  (∀xs∈a,xs≠[])->(∀i v xs,vs[i]? = some v->a[i]? = some xs->Gv e w (G i) v xs)->(∀i k,G i k->B k)->(∀i j k,G i k->G j k->i=j)->
  ∃c,ρ.le c∧gH w0 c (xX e.sz g a H).2 w∧qL c (xX e.sz g a H).1 vs∧Hi c (xX e.sz g a H).2 (λk=>B k∧∀i,¬G i k)
 | [],vs,G,B,ρ,H,R,A,hB,hl,_,h1,h2,h3=>by
  have:vs=[]:=zAo hl;subst this;exact⟨ρ,fC.le_refl _,R,.nil,A.mono λk b=>b.1⟩
 |xs::a,[],G,B,ρ,H,R,A,hB,hl,_,h1,h2,h3=>by simp at hl
 |xs::a,v::vs,G,B,ρ,H,R,A,hB,hl,hne,h1,h2,h3=>by
  obtain⟨p,f,u,F,s⟩:=JA R A hB (h2 0) (h1 0 v xs Z Z) (hne xs (by simp)) (Pm (r ρ) xs);obtain⟨q,d,z,l,t⟩:=LU r a vs (λi=>G (i+1)) _ p _ u s (λk b=>hB k b.1) (by simpa using hl) (λy I=>hne y (by simp[I])) (λi J n h m=>h1 (i+1) J n (by simpa using h) (by simpa using m)) (λi k b=>⟨h2 _ k b,λC=>by have:=h3 _ _ k b C;omega⟩) (λi j k D E=>by have:=h3 _ _ k D E;omega);refine⟨q,fC.le_trans f d,z,.cons (F.le d) l,t.mono λk b=>⟨⟨b.1,b.2 0⟩,λi=>b.2 (i+1)⟩⟩
theorem On:∀vs:List Value,cellsOf fE.raw vs=vs
 | []=>rfl
 |v::vs=>by show v::cellsOf fE.raw vs=_;rw[On vs]
end
section
variable {P:Program} {gs:BA} {w0:fQ gs} {w:World} {ρ:fC} {H:GH}
theorem HT {f:Nat} {a:List Value} {L:List bI} {V:Value} {g:GV} (c:aV P f) (d:aW P f a.toArray L (λ_:Unit=>V) (λ_ l=>l) (λ_ l=>l)) (R:gH w0 ρ H w) (b:∀h∈L,h.p w All) (i:∀ρ,Rl ρ g V):lX P w0 ρ f a w g H:=by
 refine .inr ⟨c _ w,(d w All b).mono ?_⟩;rintro e j ⟨_,rfl,t⟩;exact⟨V,ρ,rfl,fC.le_refl _,R.ext' t.old.ext,i _⟩
theorem TR {V W:Type} {e:fE V} {g:V->List GV} {q:fE W} {s:W->List GV} (hg:∀ρ x,qL ρ (g x) (e.enc x)) (I:∀ρ x,qL ρ (s x) (q.enc x)) {f:Nat} {S:List Value} {L:List bI} {r:List V×List (List W)} (C:r.1≠[]) (D:r.2≠[]) (h3:∀U∈r.2,U≠[]) (hb:aV P f)
  (hm:aW P f S.toArray L (λx:Value×Value×List Value=>Value.agg #[x.1,x.2.1]) (λx l=>Ar e x.1 r.1::Ar fE.raw x.2.1 x.2.2::k_ q x.2.2 r.2::l) (λ_ l=>l)) (R:gH w0 ρ H w) (hL:∀h∈L,h.p w All):
  lX P w0 ρ f S w (.agg [.sl H.n 0 r.1.length e.sz,.sl (xX q.sz s r.2 (H.new (.cells (r.1.flatMap g)))).2.n 0 r.2.length 1]) ((xX q.sz s r.2 (H.new (.cells (r.1.flatMap g)))).2.new (.cells (xX q.sz s r.2 (H.new (.cells (r.1.flatMap g)))).1)):=by
 refine .inr ⟨hb _ w,(hm w All hL).mono ?_⟩;rintro en A ⟨x,rfl,t⟩;obtain⟨F,O,_⟩:=t.own;have q0:Gv _ A (F 0) x.1 r.1:=O.res 0 _ Z;have q1:Gv fE.raw A (F 1) x.2.1 x.2.2:=O.res 1 _ Z;obtain⟨z,G,q2,Q,q4⟩:(k_ q x.2.2 r.2).p A (F 2):=O.res 2 _ Z;have R':=R.ext' t.old.ext;have E:∀i k,F i k->w.heap.size<=k:=λi k c=>by
  rcases(O.rng i k c).1 with h|h
  ·exact h
  exact h.elim
 obtain⟨X,y,R1,K,A1⟩:=JA (B:=λk=>w.heap.size<=k) R' (λa o l C D=>Hi.start R a o l C D) (λk c=> .inl (zB0 R.ext.size c)) (E 0) q0 C (Pm (hg ρ) r.1);obtain⟨ad,j,R2,M,A2⟩:=LU I r.2 x.2.2 G _ X _ R1 A1 (λk c=> .inl (zB0 R.ext.size c.1)) z h3 q2 (λi k c=>⟨E _ _ (Q i k c),λu=>by have:=O.dis _ _ k (Q i k c) u;omega⟩) q4;have J:x.2.2≠[]:=λu=>by rw[u]at z;exact D (zAo z.symm)
 obtain⟨Y,m,R3,N,_⟩:=JA (cs:=(xX q.sz s r.2 (H.new (.cells (r.1.flatMap g)))).1) (F:=F 1) R2 A2 (λk c=> .inl (zB0 R.ext.size c.1.1)) (λk c=>⟨⟨E _ _ c,λu=>by have:=O.dis _ _ k c u;omega⟩,λi hi=>by have:=O.dis _ _ k c (Q i k hi);omega⟩) q1 J (by rw[On];exact M);refine⟨_,Y,rfl,fC.le_trans y (fC.le_trans j m),R3,?_⟩
 refine Il (vs:=[x.1,x.2.1]) (.cons ((K.le j).le m) (.cons (by rw[<-z];exact N) .nil)) λv hv=>?_;have d:∀{γ:Type} {e:fE γ} {F:Nat->Prop} {v:Value} {U:List γ},Gv e A F v U->one v=true:=λh=>by
  obtain⟨_,_,h⟩:=h;rcases h with⟨rfl,_⟩|⟨b,ac,aa,T,ab,rfl,_⟩<;>rfl
 simp at hv;rcases hv with rfl|rfl
 ·exact d q0
 exact d q1
end
noncomputable section
def NU (H:GH) (v:GV):Option (List Int):=Na H 1 (dI .i64) v
def YM (H:GH) (v:GV):Option (List (List (Int×Int))):=Na H 1 (dS H 2 (dP 1 (dI .i64) (dI .i64))) v
def YL (H:GH) (v:GV):Option (List Int×List (List (Int×Int))):=ob v.asA λc=>List.casesOn (motive:=λ_=>Option (List Int×List (List (Int×Int)))) c none λa r=>List.casesOn (motive:=λ_=>Option (List Int×List (List (Int×Int)))) r none λb r=>List.casesOn (motive:=λ_=>Option (List Int×List (List (Int×Int)))) r (ob (NU H a) λx=>ob (YM H b) λy=>some (x,y)) λ_ _=>none
end
section
variable {P:Program} {gs:BA} {w0:fQ gs} {w:World} {ρ:fC} {H:GH}
theorem Iv (R:gH w0 ρ H w) {v:GV} {V:Value} {xs:List Int} (hv:Rl ρ v V) (h:NU H v=some xs):(Sl (fU.int .i64) V xs).p w All:=by
 obtain⟨zs,rfl,hz⟩:=Df R (λ_ _=>trivial) (eX.int .i64) hv h;rw[List.map_id];exact hz
theorem WH (R:gH w0 ρ H w) {v:GV} {V:Value} {b:List (List (Int×Int))} (c:Rl ρ v V) (h:YM H v=some b):∃a,(S2 (fU.pair (fU.int .i64) (fU.int .i64)) V a b).p w All:=by
 obtain⟨a,rfl,d⟩:=Df R (λ_ _=>trivial) (eX.sl R (λ_ _=>trivial) (eX.pair (eX.int .i64) (eX.int .i64))) c h;exact⟨a,d,by simp⟩
theorem WG (R:gH w0 ρ H w) {v:GV} {V:Value} {p:List Int×List (List (Int×Int))} (j:Rl ρ v V) (h:YL H v=some p):∃e f i,V = .agg #[e,f]∧(Sl (fU.int .i64) e p.1).p w All∧(S2 (fU.pair (fU.int .i64) (fU.int .i64)) f i p.2).p w All:=by
 obtain⟨c,g,h⟩:=aF.1 (show ob v.asA _=some p from h);rw[Ls g]at j;obtain⟨k,rfl,d,_⟩:=j.agg_inv;cases c with
 |nil=>cases h
 |cons a c=>
 cases c with
 |nil=>cases h
 |cons b c=>
 cases c with
 |cons _ _=>cases h
 |nil=>
 obtain⟨x,n,h⟩:=aF.1 (show ob (NU H a) _=some p from h);obtain⟨y,o,h⟩:=aF.1 h;cases h;obtain⟨e,k,rfl,l,d⟩:=d.of_cons;obtain⟨f,k,rfl,m,d⟩:=d.of_cons;rw[d.of_nil];obtain⟨i,q⟩:=WH R m o;exact⟨e,f,i,rfl,Iv R l n,q⟩
end
end Go.Gx