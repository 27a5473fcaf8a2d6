/- Models and proofs. Conditions: none. -/
import Derived.Test.YtgciopekomcbfaaGreatDoorZTMA3
import Derived.Test.YtgciopekomcbfaaGreatDoorZTMA1
import Derived.RecoverIn
import Derived.DefersIn
import Derived.Lib.Bytealg
import Derived.Test.YtgciopekomcbfaaGreatDoorZTMA2
set_option linter.unusedVariables false
set_option linter.unusedSimpArgs false
set_option maxHeartbeats 4000000
set_option maxRecDepth 20000
open Go.Proofs.Tryz
namespace Go.Gx
open Go Go.Sx Go.RowKit
section
variable {R α:Type}
theorem AN (r:OR) (k:GV->GH->V1 R):fW r k=fW (fW r GU) k:=by
 cases r with
 |none=>rfl
 |some p=>rfl
theorem eK (x:V1 α) {f:α->V1 R} {g:α->OR} {k:GV->GH->V1 R} (h:∀a,f a=fW (g a) k):ob x f=fW (ob x g) k:=by
 cases x with
 |none=>rfl
 |some a=>exact h a
theorem aeP {n:TB} {s:CH} {d:GF} {H:GH} (o:Op) (k:GV->GH->V1 R):Rb n s o d H k=fW (Rb n s o d H GU) k:=by
 have e:∀x (f:GV->V1 GV),k1 x f d H k=fW (k1 x f d H GU) k:=λx f=>eK _ λx=>eK _ λv=>eK _ λg=>rfl;have j:∀x y (f:GV->GV->V1 GV),k2 x y f d H k=fW (k2 x y f d H GU) k:=λx y f=>eK _ λx=>eK _ λv=>eK _ λu=>eK _ λg=>rfl;have B:∀x y z (f:GV->GV->GV->V1 GV),k3 x y z f d H k=fW (k3 x y z f d H GU) k:=λx y z f=>eK _ λx=>eK _ λv=>eK _ λu=>eK _ λt=>eK _ λg=>rfl;cases o with
 |move x=>exact eK _ λv=>rfl
 |assign x=>exact eK _ λv=>rfl
 |pick c x y=>exact B _ _ _ _
 |alloc T=>exact AN _ _
 |box T x=>exact eK _ λv=>AN _ _
 |build T G=>exact eK _ λJ=>eK _ λg=>rfl
 |buildSlice T m G=>exact eK _ λx=>AN _ _
 |load T x=>exact eK _ λv=>eK _ λg=>rfl
 |store T x y=>exact eK _ λv=>eK _ λu=>AN _ _
 |nilCheck x=>exact e _ _
 |binOp F T x y A=>exact j _ _ _
 |unOp F T x=>exact e _ _
 |convert S D x=>exact e _ _
 |makeFunc C first r=>
  cases C with
  |func f=>exact eK _ λI=>eK _ λJ=>rfl
  |_=>rfl
 |makeMap T q=>
  cases q with
  |none=>exact AN _ _
  |some x=>rfl
 |makeSlice T x y=>exact eK _ λv=>eK _ λu=>AN _ _
 |slice T x L K E=>
  cases E with
  |none=>exact eK _ λv=>eK _ λl=>eK _ λh=>eK _ λg=>rfl
  |some y=>rfl
 |fieldAddr T x f=>exact e _ _
 |field T x f=>exact e _ _
 |indexAddr T x y=>exact j _ _ _
 |index T x y=>exact j _ _ _
 |lookup T x y M=>exact eK _ λv=>eK _ λu=>eK _ λg=>rfl
 |mapUpdate T x y z=>exact eK _ λv=>eK _ λu=>eK _ λt=>AN _ _
 |extract x i=>exact e _ _
 | call c =>
  obtain⟨p,a,w⟩:=c;cases p with
  |value f=>exact eK _ λv=>eK _ λg=>eK _ λI=>AN _ _
  |invoke x m=>rfl
  | builtin b =>
   show Vf n a w b d H k=fW (Vf n a w b d H GU) k;obtain⟨a⟩:=a;cases b with
   |len=>
    match a with
    | []=>rfl
    | [x]=>exact eK _ λT=>eK _ λv=>eK _ λg=>rfl
    |_::_::_=>rfl
   |max=>
    match a with
    | []=>rfl
    | [x]=>rfl
    | [x,y]=>exact j _ _ _
    |_::_::_::_=>rfl
   |min=>
    match a with
    | []=>rfl
    | [x]=>rfl
    | [x,y]=>exact j _ _ _
    |_::_::_::_=>rfl
   |append=>
    match a with
    | []=>rfl
    | [x]=>rfl
    | [x,y]=>exact eK _ λT=>eK _ λA=>eK _ λv=>eK _ λu=>AN _ _
    |_::_::_::_=>rfl
   |copy=>
    match a with
    | []=>rfl
    | [x]=>rfl
    | [x,y]=>exact eK _ λT=>eK _ λv=>eK _ λu=>AN _ _
    |_::_::_::_=>rfl
   |cap=>
    match a with
    | []=>rfl
    | [x]=>exact eK _ λT=>eK _ λv=>eK _ λg=>rfl
    |_::_::_=>rfl
   |_=>rfl
 |_=>rfl
theorem Eu {b a:GF}:∀{xs:V6 V3},(∀x∈xs,lF b x=lF a x)->HC b xs=HC a xs
 | [],_=>rfl
 |x::xs,h=>by
  show ob (lF b x) (λv=>ob (HC b xs) λc=>some (v::c))=ob (lF a x) (λv=>ob (HC a xs) λc=>some (v::c));rw[h x zAe,Eu λy d=>h y (zAk _ d)]
theorem Ev {b a:GF}:∀{xs:V6 (Nat×V3)},(∀x∈xs,lF b x.2=lF a x.2)->wD b xs=wD a xs
 | [],_=>rfl
 |x::xs,h=>by
  show ob (lF b x.2) (λv=>ob (wD b xs) λc=>some ((x.1,v)::c))=ob (lF a x.2) (λv=>ob (wD a xs) λc=>some ((x.1,v)::c));rw[h x zAe,Ev λy d=>h y (zAk _ d)]
theorem Mv {b a:GF} {o:V1 V3} (h:∀x∈o.toArray,lF b x=lF a x):Jv b o=Jv a o:=by
 cases o with
 |none=>rfl
 |some x=>
  show ob (lF b x) (λv=>some (some v))=ob (lF a x) (λv=>some (some v));rw[h x V8]
theorem Yr {n:TB} {G:CH} {j a:GF} {H:GH} {o:Op} {k:GV->GH->V1 R} (h:∀x∈o.operands,lF j x=lF a x):Rb n G o j H k=Rb n G o a H k:=by
 have s:∀x (f:GV->V1 GV),lF j x=lF a x->k1 x f j H k=k1 x f a H k:=λx f e=>by simp only[k1,ob,e]
 have t:∀x y (f:GV->GV->V1 GV),lF j x=lF a x->lF j y=lF a y->k2 x y f j H k=k2 x y f a H k:=λx y f e w=>by simp only[k2,ob,e,w]
 have J:∀x y z (f:GV->GV->GV->V1 GV),lF j x=lF a x->lF j y=lF a y->lF j z=lF a z->k3 x y z f j H k=k3 x y z f a H k:=λx y z f e w A=>by simp only[k3,ob,e,w,A]
 cases o with
 |move x=>show Kt x j H k=Kt x a H k;simp only[Kt,ob,h x (by simp[Op.operands])]
 |assign x=>show Kt x j H k=Kt x a H k;simp only[Kt,ob,h x (by simp[Op.operands])]
 |pick c x y=>exact J _ _ _ _ (h _ (by simp[Op.operands])) (h _ (by simp[Op.operands])) (h _ (by simp[Op.operands]))
 |alloc T=>rfl
 |box T x=>show aeZ x j H k=aeZ x a H k;simp only[aeZ,ob,h x (by simp[Op.operands])]
 | build T ps =>
  show ob (wD j ps.toList) _=ob (wD a ps.toList) _;rw[Ev λx d=>h x.2 (by
   have:x∈ps:=by simpa using d
   simp only[Op.operands,List.mem_toArray,zAs];exact⟨x,d,rfl⟩)]
 | buildSlice T m ps =>
  show ob (wD j ps.toList) _=ob (wD a ps.toList) _;rw[Ev λx d=>h x.2 (by
   simp only[Op.operands,List.mem_toArray,zAs];exact⟨x,d,rfl⟩)]
 |load T x=>show WQ n T x j H k=WQ n T x a H k;simp only[WQ,ob,h x (by simp[Op.operands])]
 |store T x y=>show Qk n T x y j H k=Qk n T x y a H k;simp only[Qk,ob,h x (by simp[Op.operands]),h y (by simp[Op.operands])]
 |nilCheck x=>exact s _ _ (h _ (by simp[Op.operands]))
 |binOp L T x y M=>exact t _ _ _ (h _ (by simp[Op.operands])) (h _ (by simp[Op.operands]))
 |unOp L T x=>exact s _ _ (h _ (by simp[Op.operands]))
 |convert S D x=>exact s _ _ (h _ (by simp[Op.operands]))
 | makeFunc fn first caps =>
  cases fn with
  | func f =>
   show ob (HC j first.toList) _=ob (HC a first.toList) _;rw[Eu λx d=>h x (by simp only[Op.operands,Array.mem_append];exact .inl (by simpa using d)),
    Eu (xs:=caps.toList) λx d=>h x (by simp only[Op.operands,Array.mem_append];exact .inr (by simpa using d))]
  |_=>rfl
 |makeMap T q=>
  cases q with
  |none=>rfl
  |some x=>rfl
 |makeSlice T x y=>show WS n T x y j H k=WS n T x y a H k;simp only[WS,ob,h x (by simp[Op.operands]),h y (by simp[Op.operands])]
 | slice T x lo hi mx =>
  cases mx with
  |none=>
   show ob (some x) (λx=>ob (lF j x) λv=>ob (Jv j lo) λl=>ob (Jv j hi) λh=>ob (CL n T v l h H) λg=>k g H)=ob (some x) (λx=>ob (lF a x) λv=>ob (Jv a lo) λl=>ob (Jv a hi) λh=>ob (CL n T v l h H) λg=>k g H);have C:Jv j lo=Jv a lo:=Mv λy F=>h y (by simp only[Op.operands,Array.mem_append];exact .inl (.inl (.inr F)));have B:Jv j hi=Jv a hi:=Mv λy F=>h y (by simp only[Op.operands,Array.mem_append];exact .inl (.inr F));have d:lF j x=lF a x:=h x (by simp only[Op.operands,Array.mem_append];exact .inl (.inl (.inl V8)));simp only[ob,C,B,d]
  |some y=>rfl
 |fieldAddr T x f=>exact s _ _ (h _ (by simp[Op.operands]))
 |field T x f=>exact s _ _ (h _ (by simp[Op.operands]))
 |indexAddr T x y=>exact t _ _ _ (h _ (by simp[Op.operands])) (h _ (by simp[Op.operands]))
 |index T x y=>exact t _ _ _ (h _ (by simp[Op.operands])) (h _ (by simp[Op.operands]))
 |lookup T x y I=>show WR n T x y I j H k=WR n T x y I a H k;simp only[WR,ob,h x (by simp[Op.operands]),h y (by simp[Op.operands])]
 |mapUpdate T x y z=>show Qj n T x y z j H k=Qj n T x y z a H k;simp only[Qj,ob,h x (by simp[Op.operands]),h y (by simp[Op.operands]),h z (by simp[Op.operands])]
 |extract x i=>exact s _ _ (h _ (by simp[Op.operands]))
 | call c =>
  obtain⟨u,p,r⟩:=c;cases u with
  |value f=>
   have K:lF j f=lF a f:=h f (by simp[Op.operands,Call.operands]);have E:HC j p.toList=HC a p.toList:=Eu λx d=>h x (by simp[Op.operands,Call.operands];exact .inr (by simpa using d));show ob (lF j f) _=ob (lF a f) _;simp only[ob,K,E]
  |invoke x m=>rfl
  | builtin b =>
   show Vf n p r b j H k=Vf n p r b a H k;have d:∀x∈p,lF j x=lF a x:=λx d=>h x (by simp[Op.operands,Call.operands];exact d);obtain⟨p⟩:=p;cases b with
   |len=>
    match p,d with
    | [],_=>rfl
    | [x],d=>show Yy n r.toList x j H k=Yy n r.toList x a H k;simp only[Yy,ob,d x V8]
    |_::_::_,_=>rfl
   |max=>
    match p,d with
    | [],_=>rfl
    | [x],_=>rfl
    | [x,y],d=>exact t _ _ _ (d _ V8) (d _ V8)
    |_::_::_::_,_=>rfl
   |min=>
    match p,d with
    | [],_=>rfl
    | [x],_=>rfl
    | [x,y],d=>exact t _ _ _ (d _ V8) (d _ V8)
    |_::_::_::_,_=>rfl
   |append=>
    match p,d with
    | [],_=>rfl
    | [x],_=>rfl
    | [x,y],d=>show abj n r.toList x y j H k=abj n r.toList x y a H k;simp only[abj,ob,d x V8,d y V8]
    |_::_::_::_,_=>rfl
   |copy=>
    match p,d with
    | [],_=>rfl
    | [x],_=>rfl
    | [x,y],d=>show SI n r.toList x y j H k=SI n r.toList x y a H k;simp only[SI,ob,d x V8,d y V8]
    |_::_::_::_,_=>rfl
   |cap=>
    match p,d with
    | [],_=>rfl
    | [x],d=>show Yx n r.toList x j H k=Yx n r.toList x a H k;simp only[Yx,ob,d x V8]
    |_::_::_,_=>rfl
   |_=>rfl
 |_=>rfl
end
noncomputable def GM (c:TB) (b:CH) (all:V6 V5) (o:V5) (a:GF) (H:GH):OR:=Option.casesOn (motive:=λ_=>OR) o.guard (Rb c b o.op a H GU) λg=>ob (Jg all g.1) λe=>ob e.dst λd=>ob (GQ a d) λv=>evG c b o ⟨a,H⟩ g.2 v
theorem aeK {b:TB} {a:CH} {all:V6 V5} {o:V5} {k:GS->RS} {s:GS}:Mn b a all o k s=fW (GM b a all o s.σ s.H) (opK o.dst s k):=by
 unfold Mn GM;cases o.guard with
 |none=>exact aeP _ _
 |some g=>exact eK _ λd=>eK _ λc=>eK _ λv=>rfl
theorem Gv {d:TB} {c:CH} {all:V6 V5} {o:V5} {k:GS->RS} {s:GS} {a:RB} (h:Mn d c all o k s=some a):∃g b,GM d c all o s.σ s.H=some (g,b)/\k ⟨putD o.dst g s.σ,b⟩=some a:=by
 rw[aeK]at h;obtain⟨g,b,e,f⟩:=nG h;exact⟨g,b,e,f⟩
theorem UP {c:TB} {b:CH} {all:V6 V5} {o:V5} {d a:GF} {H:GH} (h:∀t∈o.looksAt all.toArray,GQ d t=GQ a t):GM c b all o d H=GM c b all o a H:=by
 have e:Rb c b o.op d H GU=Rb c b o.op a H GU:=Yr λx l=>by
  cases x with
  |tmp t=>exact h t (List.mem_append_left _ (List.mem_filterMap.2 ⟨.tmp t,by simpa using l,rfl⟩))
  |_=>rfl
 unfold GM;cases j:o.guard with
 |none=>exact e
 | some g =>
  show ob (Jg all g.1) _=ob (Jg all g.1) _;cases f:Jg all g.1 with
  |none=>rfl
  | some oj =>
   show ob oj.dst _=ob oj.dst _;cases i:oj.dst with
   |none=>rfl
   | some dj =>
    have k:dj∈o.looksAt all.toArray:=by
     rw[wG]at f;simp[Oper.looksAt,j,f,i]
    show ob (GQ d dj) (λv=>evG c b o ⟨d,H⟩ g.2 v)=ob (GQ a dj) (λv=>evG c b o ⟨a,H⟩ g.2 v);rw[h dj k];cases GQ a dj with
    |none=>rfl
    | some v =>
     show evG c b o ⟨d,H⟩ g.2 v=evG c b o ⟨a,H⟩ g.2 v;cases v with
     |bool q=>
      show Bool.casesOn (motive:=λ_=>OR) (WL q g.2) (some (.un,H)) (Rb c b o.op d H GU)=Bool.casesOn (motive:=λ_=>OR) (WL q g.2) (some (.un,H)) (Rb c b o.op a H GU);rw[e]
     |_=>rfl
section
variable {P:Program} {tb:TB} {gs:AZ} {w0:fM gs}
theorem Gu {u:CH} {all:V6 V5} {n:Nat} {o:V5} {r:GF} {H k:GH} {g:GV} {ρ:eZ} {a:Act} (F:mC ρ n r a) (h:GM tb u all o r H=some (g,k)):
  (Region.wanted o (yielded all.toArray a.tmps)=true/\Rb tb u o.op r H GU=some (g,k))\/(Region.wanted o (yielded all.toArray a.tmps)=false/\g = .un/\k=H):=by
 unfold GM at h;cases l:o.guard with
 |none=>
  rw[l]at h;exact .inl ⟨by simp[Region.wanted,l],h⟩
 | some gd =>
  rw[l]at h;obtain⟨A,m,h⟩:=aE.1 (show ob (Jg all gd.1) _=some (g,k)from h);obtain⟨i,s,h⟩:=aE.1 h;obtain⟨v,y,j⟩:=aE.1 h;have e:=F.slot i v y;rw[wG]at m;have t:yielded all.toArray a.tmps gd.1=(match a.tmps[i]? with|some (.bool b)=>some b|_=>none):=by
   unfold yielded;have:(all.toArray[gd.1]?).bind (·.dst)=some i:=by simp[m,s]
   rw[this];rfl
  cases v with
  | bool q =>
   have d:=e.bool_inv;have x:a.tmps[i]? = some (.bool q):=by
    simp only[Act.eval,Array.getD_eq_getD_getElem?]at d;cases p:a.tmps[i]? with
    |none=>rw[p]at d;cases d
    |some z=>rw[p]at d;simp at d;rw[d]
   rw[x]at t;have c:Bool.casesOn (motive:=λ_=>OR) (WL q gd.2) (some (.un,H)) (Rb tb u o.op r H GU)=some (g,k):=j;rw[HA]at c;have w:Region.wanted o (yielded all.toArray a.tmps)=(q==gd.2):=by
    simp only[Region.wanted,l];rw[t];cases q<;>cases gd.2<;>rfl
   cases f:(q==gd.2)with
   |true=>rw[f]at c;exact .inl ⟨by rw[w,f],c⟩
   |false=>rw[f]at c;cases c;exact .inr ⟨by rw[w,f],rfl,rfl⟩
  | un =>
   have d:=e.un_inv;cases j;refine .inr ⟨?_,rfl,rfl⟩;simp only[Region.wanted,l];rw[t];have:(match a.tmps[i]? with|some (.bool b)=>some b|_=>none)=(none:V1 V4):=by
    simp only[Act.eval,Array.getD_eq_getD_getElem?]at d;cases p:a.tmps[i]? with
    |none=>rfl
    |some z=>rw[p]at d;simp at d;rw[d];rfl
   rw[this];rfl
  |_=>cases j
theorem Lh {f:CH} (k:gA P tb) (c:tR P w0 f) {all:V6 V5} {n:Nat} {o:V5} {e:GF} {H b:GH} {g:GV} {d:eZ} {a:Act} {w:V2} (p:JI n o=true) (F:mC d n e a) (R:gQ w0 d H w) (h:GM tb f all o e H=some (g,b)):
  (Region.wanted o (yielded all.toArray a.tmps)=true/\DJ P w0 d e a w o g H b)\/(Region.wanted o (yielded all.toArray a.tmps)=false/\g = .un/\b=H):=by
 obtain⟨_,_,j⟩:=vF p;rcases Gu F h with⟨r,l⟩|h
 .obtain⟨s,i,m,q⟩:=UX k c F R j l;cases m;exact .inl ⟨r,q⟩
 .exact .inr h
def acw (tb:TB) (T:V9):V4:=match tb T with
 |some t=>(match t.desc with|.array .. => false|_=>true)
 |none=>false
def pureOp (tb:TB):Op->V4
 | .move _ | .assign _ | .pick .. | .build .. | .nilCheck _ | .binOp .. | .unOp .. | .convert .. | .makeFunc .. | .fieldAddr .. | .field .. | .indexAddr .. | .index .. | .extract .. => true
 | .slice T _ _ _ _=>acw tb T
 | .call ⟨.builtin .len,_,_⟩ | .call ⟨.builtin .max,_,_⟩ | .call ⟨.builtin .min,_,_⟩=>true
 |_=>false
def isFloat:Op->V4
 | .buildSlice .. | .alloc .. | .box .. | .makeSlice .. => true
 |_=>false
theorem iL {b:eZ} {g:GV} {s:Sem V0} {a:Act} {o:V5} (h:Ee P b s g) (c:∀w v,s.run P w = .ok v w->(execOp a.eval o).run P w = .ok (.value v) w):∃v,Rl b g v/\∀w,(execOp a.eval o).run P w = .ok (.value v) w:=
 let ⟨v,hv,hr⟩:=h;⟨v,hv,λw=>c w v (hr w)⟩
theorem aa_ {ih:CH} (E:gA P tb) {ρ:eZ} {n:Nat} {s:GF} {a:Act} (F:mC ρ n s a) {o:V5} {H r:GH} {g:GV} (R:pureOp tb o.op=true) (aa:MS o.op=true) (h:Rb tb ih o.op s H GU=some (g,r)):
  r=H/\∃v,Rl ρ g v/\∀w,(execOp a.eval o).run P w = .ok (.value v) w:=by
 obtain⟨d,W,J,ad,ac,gd⟩:=o;cases W with
 |move x=>
  obtain⟨v,q,h⟩:=aE.1 (show ob (lF s x) _=some (g,r)from h);cases h;exact⟨rfl,_,cM F q,λw=>by simp[execOp]⟩
 |assign x=>
  obtain⟨v,q,h⟩:=aE.1 (show ob (lF s x) _=some (g,r)from h);cases h;exact⟨rfl,_,cM F q,λw=>by simp[execOp]⟩
 |pick c x y=>
  obtain⟨v,q,h⟩:=aE.1 (show ob (lF s c) _=some (g,r)from h);obtain⟨u,C,h⟩:=aE.1 h;obtain⟨t,ht,h⟩:=aE.1 h;obtain⟨z,k,h⟩:=aE.1 h;cases h;obtain⟨b,hb,k⟩:=aE.1 (show ob v.asB _=some g from k);have Y:=cM F q;rw[Do hb]at Y;cases b with
  |true=>cases k;exact⟨rfl,_,cM F C,λw=>by simp[execOp,Y.bool_inv,asBool]⟩
  |false=>cases k;exact⟨rfl,_,cM F ht,λw=>by simp[execOp,Y.bool_inv,asBool]⟩
 | build T ps =>
  obtain⟨vs,N,h⟩:=aE.1 (show ob (wD s ps.toList) _=some (g,r)from h);obtain⟨z,k,h⟩:=aE.1 h;cases h;exact⟨rfl,iL (OU E (DR F N) k) (λw v j=>by
   have e:(ps.toList.map λp=>(p.1,a.eval p.2)).toArray=ps.map λp=>(p.1,a.eval p.2):=by apply Array.toList_inj.1;simp
   rw[e]at j;simp[execOp,j])⟩
 |nilCheck x=>
  obtain⟨v,q,h⟩:=aE.1 (show ob (lF s x) _=some (g,r)from h);obtain⟨z,k,h⟩:=aE.1 h;cases h;obtain⟨rfl,j⟩:=SX (P:=P) (cM F q) k;exact⟨rfl,_,cM F q,λw=>j _ x a.eval Z Z w⟩
 | binOp W T x y T' =>
  obtain⟨v,q,h⟩:=aE.1 (show ob (lF s x) _=some (g,r)from h);obtain⟨u,C,h⟩:=aE.1 h;obtain⟨z,k,h⟩:=aE.1 h;cases h;exact⟨rfl,iL (Xy E x y (cM F q) (cM F C) k) (λw v j=>by
   simp only[execOp];simp at j ⊢;cases V:Sem.run P (eqGuard W T x y (a.eval x) (a.eval y)) w with
   |ok u w1=>rw[V]at j;simp at j;simp[j]
   |halt h1 w1=>rw[V]at j;cases j)⟩
 |unOp W T x=>
  obtain⟨v,q,h⟩:=aE.1 (show ob (lF s x) _=some (g,r)from h);obtain⟨z,k,h⟩:=aE.1 h;cases h;exact⟨rfl,iL (ac_ (cM F q) k) (λw v j=>by simp[execOp,j])⟩
 |convert S D x=>
  obtain⟨v,q,h⟩:=aE.1 (show ob (lF s x) _=some (g,r)from h);obtain⟨z,k,h⟩:=aE.1 h;cases h;exact⟨rfl,iL (TN E (cM F q) k) (λw v j=>by simp[execOp,j])⟩
 | makeFunc fn first caps =>
  cases fn with
  |func f=>
   obtain⟨us,ab,h⟩:=aE.1 (show ob (HC s first.toList) _=some (g,r)from h);obtain⟨vs,N,h⟩:=aE.1 h;cases h;refine⟨rfl,_,Rl.fn' (Gw F ab) (Gw F N),λw=> ?_⟩
   have e1:(first.toList.map a.eval).toArray=first.map a.eval:=by apply Array.toList_inj.1;simp
   have e2:(caps.toList.map a.eval).toArray=caps.map a.eval:=by apply Array.toList_inj.1;simp
   rw[e1,e2];simp[execOp,Instr.makeFunc]
  |_=>cases h
 |fieldAddr T x f=>
  obtain⟨v,q,h⟩:=aE.1 (show ob (lF s x) _=some (g,r)from h);obtain⟨z,k,h⟩:=aE.1 h;cases h;exact⟨rfl,iL (OV E (cM F q) k) (λw v j=>by simp[execOp,j])⟩
 |field T x f=>
  obtain⟨v,q,h⟩:=aE.1 (show ob (lF s x) _=some (g,r)from h);obtain⟨z,k,h⟩:=aE.1 h;cases h;exact⟨rfl,iL (TT E (cM F q) k) (λw v j=>by simp[execOp,j])⟩
 |indexAddr T x y=>
  obtain⟨v,q,h⟩:=aE.1 (show ob (lF s x) _=some (g,r)from h);obtain⟨u,C,h⟩:=aE.1 h;obtain⟨z,k,h⟩:=aE.1 h;cases h;exact⟨rfl,iL (OW E (cM F q) (cM F C) k) (λw v j=>by simp[execOp,j])⟩
 |index T x y=>
  obtain⟨v,q,h⟩:=aE.1 (show ob (lF s x) _=some (g,r)from h);obtain⟨u,C,h⟩:=aE.1 h;obtain⟨z,k,h⟩:=aE.1 h;cases h;exact⟨rfl,iL (acP E (cM F q) (cM F C) k) (λw v j=>by simp[execOp,j])⟩
 | slice T x lo hi mx =>
  cases mx with
  | none =>
   obtain⟨v,q,h⟩:=aE.1 (show ob (lF s x) _=some (g,r)from h);obtain⟨l,hl,h⟩:=aE.1 h;obtain⟨e,he,h⟩:=aE.1 h;obtain⟨z,k,h⟩:=aE.1 h;cases h;have hA:∀t,tb T=some t->tdA t.desc=none:=λt ht=>by
    have U:acw tb T=true:=R;unfold acw at U;rw[ht]at U;simp only at U;cases V:t.desc<;>rw[V]at U<;>first|rfl|cases U
   exact⟨rfl,iL (OX (gs:=noG) E (.inr hA) (cM F q) (Lm F hl) (Lm F he) k) (λw v j=>by simp[execOp,j])⟩
  |some y=>cases h
 |extract x i=>
  obtain⟨v,q,h⟩:=aE.1 (show ob (lF s x) _=some (g,r)from h);obtain⟨z,k,h⟩:=aE.1 h;cases h;exact⟨rfl,iL (XA (cM F q) k) (λw v j=>by simp[execOp,j])⟩
 | call c =>
  obtain⟨X,Q,B⟩:=c;cases X with
  |value f=>cases R
  |invoke x m=>cases R
  | builtin b =>
   have A:B.size=Q.size:=zA6 aa;have h:Vf tb Q B b s H GU=some (g,r):=h;cases b with
   | len =>
    obtain⟨x,O,h⟩:=Ew (show MC Q.toList (Yy tb B.toList) s H GU=some (g,r)from h);obtain⟨T,M,h⟩:=aE.1 (show ob (Jg B.toList 0) _=some (g,r)from h);obtain⟨v,q,h⟩:=aE.1 h;obtain⟨z,k,h⟩:=aE.1 h;cases h;have L:=Lv O;subst L;have K:B = #[T]:=by
     rw[wG]at M;obtain⟨l⟩:=B
     match l,A with
     | [t],_=>simp at M;subst M;rfl
    subst K;exact⟨rfl,iL (XC E (ty:=J) (cM F q) k) (λw v j=>by simp[execOp,resolve,invoke,builtin,j])⟩
   | cap =>
    obtain⟨x,O,h⟩:=Ew (show MC Q.toList (Yx tb B.toList) s H GU=some (g,r)from h);obtain⟨T,M,h⟩:=aE.1 (show ob (Jg B.toList 0) _=some (g,r)from h);obtain⟨v,q,h⟩:=aE.1 h;obtain⟨z,k,h⟩:=aE.1 h;cases h;have L:=Lv O;subst L;have K:B = #[T]:=by
     rw[wG]at M;obtain⟨l⟩:=B
     match l,A with
     | [t],_=>simp at M;subst M;rfl
    subst K;exact⟨rfl,iL (Xz E (ty:=J) (cM F q) k) (λw v j=>by simp[execOp,resolve,invoke,builtin,j])⟩
   | max =>
    obtain⟨x,y,O,h⟩:=AB (show FC Q.toList (λx y=>k2 x y TS) s H GU=some (g,r)from h);obtain⟨v,q,h⟩:=aE.1 (show ob (lF s x) _=some (g,r)from h);obtain⟨u,C,h⟩:=aE.1 h;obtain⟨z,k,h⟩:=aE.1 h;cases h;have L:=GJ O;subst L;obtain⟨G,I,K⟩:∃G I,B = #[G,I]:=by
     obtain⟨l⟩:=B
     match l,A with
     | [t,t'],_=>exact⟨t,t',rfl⟩
    subst K;exact⟨rfl,iL (XD (t1:=G) (t2:=I) (ty:=J) (cM F q) (cM F C) k) (λw v j=>by simp[execOp,resolve,invoke,builtin,j])⟩
   | min =>
    obtain⟨x,y,O,h⟩:=AB (show FC Q.toList (λx y=>k2 x y acX) s H GU=some (g,r)from h);obtain⟨v,q,h⟩:=aE.1 (show ob (lF s x) _=some (g,r)from h);obtain⟨u,C,h⟩:=aE.1 h;obtain⟨z,k,h⟩:=aE.1 h;cases h;have L:=GJ O;subst L;obtain⟨G,I,K⟩:∃G I,B = #[G,I]:=by
     obtain⟨l⟩:=B
     match l,A with
     | [t,t'],_=>exact⟨t,t',rfl⟩
    subst K;exact⟨rfl,iL (XE (t1:=G) (t2:=I) (ty:=J) (cM F q) (cM F C) k) (λw v j=>by simp[execOp,resolve,invoke,builtin,j])⟩
   |_=>cases R
 |_=>cases R
theorem TM (hG:gA P tb) {T:TypeId} {n:Nat} {l:List (Nat×GV)} {parts:List (Nat×V0)} {ρ:eZ} {H H':GH} {g:GV} (hp:RlP ρ l parts) (h:vQ tb T n l H=some (g,H')):
  ∃cs a' T' len sz,H'=H.new (.cells cs)/\g = .sl H.n 0 len sz/\VW ρ cs a'/\cs.length=a'.size/\∀w:World,∃V,(Instr.buildSlice T n parts.toArray).run P w = .ok V (w.alloc (.cells a' T'))/\∀ρ':eZ,ρ' H.n=some ⟨w.heap.size,0,a'.size,.cells a' T',.cells cs⟩->Rl ρ' g V:=by
 obtain⟨te,hte,h⟩:=aE.1 (show ob (Bu tb T) _=some (g,H')from h);obtain⟨zc,hz,h⟩:=aE.1 h;obtain⟨hlen,h⟩:=bV.1 h;obtain⟨hbig,h⟩:=bV.1 h;obtain⟨h0,h⟩:=lE.1 h;obtain⟨cs,hfill,h⟩:=aE.1 h;rw[jM]at h;cases h;obtain⟨⟨d,hd,hde⟩,hE,htab⟩:=yL hG hte;obtain⟨dz,hdz,_,hC⟩:=vR (ρ:=ρ) hG hz;rw[htab]at hdz;cases hdz;have hlen:zc.length=te.2.size:=zA6 hlen;have h0:te.2.size≠0:=λe=>by rw[e]at h0;cases h0
 have hbig:n*te.2.size<16777216:=by simpa [zAy]using hbig
 have hrep:=IG hC (by omega) n;rw[hlen]at hrep;obtain⟨a',f1,f2⟩:=Gy hp hrep hfill;have hsz0:cs.length=a'.size:=by have:=f2.r.len;simpa using this
 have hsz:a'.size=n*te.2.size:=by
  have e1:=f2.r.len;have:cs.length=(Ui zc n).length:=HD hfill;rw[this,IF,hlen]at e1;simp at e1;omega
 refine⟨cs,a',te.1,n,te.2.size,rfl,rfl,f2,hsz0,λw=>⟨.slice (some ⟨w.heap.size,0,none⟩) n n,?_,λρ' hρ=> .sl (l:=⟨w.heap.size,0,a'.size,.cells a' te.1,.cells cs⟩) hρ (zAg _) (.inr ⟨rfl,by simp[hsz]⟩)⟩⟩
 have hu:=hd.run_und w;rw[hde]at hu;by_cases hn:n*te.2.size=0
 .have hz0:n=0:=by rcases Nat.mul_eq_zero.1 hn with h|h;exact h;exact absurd h h0
  subst hz0;have e0:(Array.range (0*te.2.size)).map (te.2.zero.cells[· % te.2.zero.cells.size]!)=(#[]:Array V0):=by simp
  rw[e0]at f1;have e1:(Array.range 0).map (λ_=>(default:V0)) = #[]:=by simp
  simp[Instr.buildSlice,hu,hE.run_size w,newRow];simp[e1,f1]
 .simp[Instr.buildSlice,hu,hE.run_size w,hE.run_zero w,hn,f1,newRow,show¬(16777216<n*te.2.size) by omega]
theorem ZK {t u w:eZ} (x:∀h A l,t h=some A->u h=some l->w h=some l) {g:GV} {v:V0} (C:Rl u g v):∀{r:V0},Rl t g r->Rl w g v:=by
 induction C with
 |int k n=>exact λ_=> .int k n
 |bool b=>exact λ_=> .bool b
 |str s=>exact λ_=> .str s
 |ptr y q=>exact λj=>by cases j with|ptr _ m=>exact .ptr y (x _ _ _ m q)
 |pnil=>exact λ_=> .pnil
 |sl q E D=>exact λj=>by cases j with|sl m _ _=>exact .sl (x _ _ _ m q) E D
 |snil=>exact λ_=> .snil
 |map q=>exact λj=>by cases j with|map m=>exact .map (x _ _ _ m q)
 | fn f a b c d ihb ihd =>
   intro r j;cases j with
   | fn _ z p B d0 =>
    refine .fn f a (λi g v e o=> ?_) c (λi g v e o=> ?_)
    .have:=bB e;exact ihb i g v e o (p i g _ e (zA0 V7))
    .have:=bB e;exact ihd i g v e o (d0 i g _ e (zA0 V7))
 |fnil=>exact λ_=> .fnil
 |inil=>exact λ_=> .inil
 | agg a b c ihb =>
   intro r j;cases j with
   |agg z p B=>
    refine .agg a (λi g v e o=> ?_) c;have:=bB e;exact ihb i g v e o (p i g _ e (zA0 V7))
 | tup a b ihb =>
   intro r j;cases j with
   |tup z p=>
    refine .tup a (λi g v e o=> ?_);have:=bB e;exact ihb i g v e o (p i g _ e (zA0 V7))
 |un=>exact λ_=> .un
 |bad v=>exact λ_=> .bad v
 | opn v h hx =>
   intro r j;obtain⟨A,a,_⟩:=j.opn_inv;exact .opn v (x _ _ _ a h) hx
structure Trc (tb:TB) (ih:CH) (all l:List Oper) (S:Nat->GF) (HH:Nat->GH) (gg:Nat->GV):Prop where
 st:∀i o,l[i]? = some o->GM tb ih all o (S i) (HH i)=some (gg i,HH (i+1))
 up:∀i o,l[i]? = some o->S (i+1)=putD o.dst (gg i) (S i)
theorem Ol {d:CH} {all:V6 V5} {k:GS->RS} {b:RB}:∀(l:V6 V5) (s:GS),He tb d all k l s=some b->∃S c e,S 0=s.σ/\c 0=s.H/\Trc tb d all l S c e/\k ⟨S l.length,c l.length⟩=some b
 | [],s,h=>⟨λ_=>s.σ,λ_=>s.H,λ_=> .un,rfl,rfl,⟨λi o a=>by simp at a,λi o a=>by simp at a⟩,h⟩
 | o :: l, s, h => by
  obtain⟨g,t,p,q⟩:=Gv (show Mn tb d all o (He tb d all k l) s=some b from h);obtain⟨S,c,e,m,n,j,r⟩:=Ol l _ q;refine⟨λi=>Nat.casesOn i s.σ S,λi=>Nat.casesOn i s.H c,λi=>Nat.casesOn i g e,rfl,rfl,⟨λi f a=> ?_,λi f a=> ?_⟩,r⟩
  .cases i with
   |zero=>simp at a;subst a;show GM tb d all o s.σ s.H=some (g,c 0);rw[p,n]
   |succ i=>exact j.st i f (by simpa using a)
  .cases i with
   |zero=>simp at a;subst a;exact m
   |succ i=>exact j.up i f (by simpa using a)
theorem Cn {o:Op} (h:o_ o=true):fI o=false:=by
 cases o<;>first|rfl|cases h
structure Vrs (all l:List Oper) (m:List Nat) (i:Nat) (S:Nat->GF) (HH:Nat->GH) (pr:List (Nat×Option (Nat×Nat))) (hs:List (Nat×GH)):Prop where
 pr:∀q h v,(q,some (h,v))∈pr->∀j oj,l[j]? = some oj->fI oj.op=true->before m (i+j) q=false->(HH (j+1)).ver h=some v
 hs:∀k ok h,l[k]? = some ok->o_ ok.op=true->ldH (S k) ok.op=some h->∃v,(HH k).ver h=some v/\∀q Hq,(q,Hq)∈hs->before m (i+k) q=false->Hq.ver h=some v
 lo:∀k ok h v,l[k]? = some ok->o_ ok.op=true->ldH (S k) ok.op=some h->(HH k).ver h=some v->
  (∀j oj,j<k->l[j]? = some oj->fI oj.op=true->before m (i+k) (i+j)=false->(HH j).ver h=some v)/\(∀j oj,k<j->l[j]? = some oj->fI oj.op=true->before m (i+j) (i+k)=false->(HH (j+1)).ver h=some v)
theorem Vrs.cons {all l:V6 V5} {m:V6 Nat} {i:Nat} {S:Nat->GF} {B:Nat->GH} {G x:V6 (Nat×V1 (Nat×Nat))} {F u:V6 (Nat×GH)} {o:V5} {L:GF} {H:GH} (V:Vrs all l m (i+1) S B x u)
  (E:∀p∈G,p∈x) (C:∀p∈F,p∈u) (I:fI o.op=true->(i,H)∈u/\∀p∈G,before m i p.1=false->∀d,p.2=some d->(B 0).ver d.1=some d.2)
  (J:o_ o.op=true->∀h,ldH L o.op=some h->∃v,H.ver h=some v/\(i,some (h,v))∈x/\∀q y,(q,y)∈F->before m i q=false->y.ver h=some v):
  Vrs all (o::l) m i (λj=>Nat.casesOn j L S) (λj=>Nat.casesOn j H B) G F:=by
 have e:∀j,i+(j+1)=i+1+j:=λj=>by omega
 refine⟨λq h v z j w g s f=> ?_,λk A h n s t=> ?_,λk A h v n s t d=>⟨λj w D g r f=> ?_,λj w D g r f=> ?_⟩⟩
 .cases j with
  |zero=>simp at g;subst g;exact(I s).2 _ z (by simpa using f) _ Z
  |succ j=>exact V.pr q h v (E _ z) j w (by simpa using g) s (by rw[<-e];exact f)
 .cases k with
  |zero=>
   simp at n;subst n;obtain⟨v,a,_,c⟩:=J s h t;exact⟨v,a,λq y z f=>c q y z (by simpa using f)⟩
  |succ k=>
   obtain⟨v,a,b⟩:=V.hs k A h (by simpa using n) s t;exact⟨v,a,λq y z f=>b q y (C _ z) (by rw[<-e];exact f)⟩
 .cases k with
  |zero=>omega
  | succ k =>
   have n:l[k]? = some A:=by simpa using n
   cases j with
   |zero=>
    simp at g;subst g;obtain⟨K,a,b⟩:=V.hs k A h n s t;have a:(B k).ver h=some K:=a;have d:(B k).ver h=some v:=d;rw[a]at d;cases d;exact b i H (I r).1 (by rw[<-e];simpa using f)
   |succ j=>exact(V.lo k A h v n s t d).1 j w V7 (by simpa using g) r (by rw[<-e,<-e];exact f)
 .cases j with
  |zero=>omega
  | succ j =>
   have g:l[j]? = some w:=by simpa using g
   cases k with
   |zero=>
    simp at n;subst n;obtain⟨K,a,b,_⟩:=J s h t;have d:H.ver h=some v:=d;rw[a]at d;cases d;exact V.pr i h v b j w g r (by rw[<-e];simpa using f)
   |succ k=>exact(V.lo k A h v (by simpa using n) s t d).2 j w V7 g r (by rw[<-e,<-e];exact f)
theorem Li {x:CH} {all:V6 V5} {m:V6 Nat} {k:GS->RS} {A:RB}:∀(l:V6 V5) (i:Nat) (J:V6 (Nat×V1 (Nat×Nat))) (D:V6 (Nat×GH)) (s:GS),evW tb x all m k l i J D s=some A->
  ∃S a r,S 0=s.σ/\a 0=s.H/\Trc tb x all l S a r/\Vrs all l m i S a J D/\k ⟨S l.length,a l.length⟩=some A
 | [],i,J,D,s,h=>⟨λ_=>s.σ,λ_=>s.H,λ_=> .un,rfl,rfl,⟨λi o d=>by simp at d,λi o d=>by simp at d⟩,⟨λ_ _ _ _ j Y V=>by simp at V,λk X h f=>by simp at f,λk X h v f=>by simp at f⟩,h⟩
 | o :: l, i, J, D, s, h => by
  have t:aaN tb x all m o (evW tb x all m k l) i J D s=some A:=h;have B:∀{g:GV} {C:GH} {S:Nat->GF} {a:Nat->GH} {r:Nat->GV},GM tb x all o s.σ s.H=some (g,C)->S 0=putD o.dst g s.σ->a 0=C->Trc tb x all l S a r->Trc tb x all (o::l) (λj=>Nat.casesOn j s.σ S) (λj=>Nat.casesOn j s.H a) (λj=>Nat.casesOn j g r):=λ{g C S a r} z y n w=>⟨λi O d=>by
    cases i with
    |zero=>simp at d;subst d;show GM tb x all o s.σ s.H=some (g,a 0);rw[z,n]
    |succ i=>exact w.st i O (by simpa using d),λi O d=>by
    cases i with
    |zero=>simp at d;subst d;exact y
    |succ i=>exact w.up i O (by simpa using d)⟩
  unfold aaN at t;cases b:fI o.op with
  |true=>
   rw[b]at t;obtain⟨g,C,z,E⟩:=Gv t;obtain⟨_,u,K⟩:=aE.1 E;have u:=Fx u;obtain⟨S,a,r,y,n,w,I,f⟩:=Li l _ _ _ _ K;refine⟨_,_,_,rfl,rfl,B z y n w,I.cons (λ_ h=>h) (λp G=>zAk _ G) (λ_=>⟨zAe,λp G L M U=>by rw[n];exact u p G L M U⟩) (λc=>by rw[Cn c]at b;cases b),f⟩
  | false =>
   rw[b]at t;cases c:o_ o.op with
   |true=>
    simp only[c]at t;obtain⟨g,C,z,E⟩:=Gv t;obtain⟨e,u,K⟩:=aE.1 E;obtain⟨S,a,r,y,n,w,I,f⟩:=Li l _ _ _ _ K;refine⟨_,_,_,rfl,rfl,B z y n w,I.cons (λp G=>zAk _ G) (λ_ h=>h) (λh=>by rw[b]at h;cases h) (λ_ Q F=> ?_),f⟩
    rw[F]at u;obtain⟨v,N,u⟩:=aE.1 (show ob (s.H.ver Q) (λv=>Mh m i Q v D)=some e from u);obtain⟨rfl,T⟩:=Fy u;exact⟨v,N,zAe,λq R W L=>T (q,R) W L⟩
   |false=>
    simp only[c]at t;obtain⟨g,C,z,E⟩:=Gv t;obtain⟨S,a,r,y,n,w,I,f⟩:=Li l _ _ _ _ E;exact⟨_,_,_,rfl,rfl,B z y n w,I.cons (λ_ h=>h) (λ_ h=>h) (λh=>by rw[b]at h;cases h) (λh=>by rw[c]at h;cases h),f⟩
theorem aaM {s:CH} (t:gA P tb) (p:tR P w0 s) {all:V6 V5} {n:Nat} {o:V5} {q:GF} {H k:GH} {g:GV} {d:eZ} {a:Act} {w:V2} (r:JI n o=true) (F:mC d n q a) (R:gQ w0 d H w) (h:GM tb s all o q H=some (g,k)):
  ∃b i e,d.le b/\gQ w0 b k e/\mC b n (putD o.dst g q) i:=by
 obtain⟨_,c,_⟩:=vF r;rcases Lh t p r F R h with⟨_,x⟩|⟨_,rfl,rfl⟩
 .rcases x with⟨_,_,_,rfl,v,f,_⟩|⟨_,_,rfl,v,_,_,_,_,_,f,_⟩|⟨_,_,rfl,v,f,_⟩|⟨_,u⟩
  .exact⟨d,_,w,eZ.le_refl _,R,F.putD c f⟩
  .exact⟨d,_,w,eZ.le_refl _,R,F.putD c f⟩
  .exact⟨d,_,w,eZ.le_refl _,R,F.putD c f⟩
  .obtain⟨i,e,b,v,j,l,m,rfl⟩:=SZ (u (λi e=>∃b v,d.le b/\gQ w0 b k e/\Rl b g v/\i=a.put o.dst v) λb e v j l m=>⟨b,v,j,l,m,rfl⟩);exact⟨b,_,e,j,l,(F.le j).putD c m⟩
 .exact⟨d,_,w,eZ.le_refl _,R,F.putD c .un⟩
theorem OO {q:CH} (p:gA P tb) (f:tR P w0 q) {all:V6 V5} {n:Nat} (c:all.all (JI n)=true) {S:Nat->GF} {g:Nat->GH} {u:Nat->GV} (T:Trc tb q all all S g u) {k:eZ} {a:Act} {w:V2} (F:mC k n (S 0) a) (R:gQ w0 k (g 0) w):
    ∀m,m<=all.length->∃b:Nat->eZ,(∀i,i<=m->∃a w,gQ w0 (b i) (g i) w/\mC (b i) n (S i) a)/\∀i,i<m->(b i).le (b (i+1))
  | 0, _ => ⟨λ_ => k, λi h => by
      have : i = 0 := by omega
      subst this;exact⟨a,w,R,F⟩,λi h=>V7⟩
  | m + 1, hm => by
    obtain⟨b,o,v⟩:=OO p f c T F R m V7;obtain⟨A,B,s,r⟩:=o m (zAg _);have d:all[m]? = some all[m]:=zA0 V7;obtain⟨l,t,z,j,x,y⟩:=aaM p f (zA7.1 c _ (List.getElem_mem V7)) r s (T.st m _ d);refine⟨λi=>if i<=m then b i else l,λi h=> ?_,λi h=> ?_⟩
    · by_cases e:i<=m
      · simp only[e,if_true];exact o i e
      · have:i=m+1:=V7
        subst this;simp only[e,if_false];exact⟨t,z,x,by rw[T.up m _ d];exact y⟩
    · by_cases e:i+1<=m
      · simp only[e,show i<=m by omega,if_true];exact v i V7
      · have:i=m:=V7
        subst this;simp only[e,zAg,if_true,if_false];exact j
theorem TG {a:Nat->GH} {m:Nat} (b:∀i,i<m->(a i).n<=(a (i+1)).n) {i:Nat}:∀{j:Nat},i<=j->j<=m->(a i).n<=(a j).n
  | 0, h, _ => by
      have : i = 0 := by omega
      subst this;exact zAg _
  | j + 1, h, hj => by
    by_cases e:i=j+1
    · subst e;exact zAg _
    · exact zB4 (TG b V7 V7) (b j V7)
theorem Np {w:CH} {all:V6 V5} {S:Nat->GF} {u:Nat->GH} {n:Nat->GV} (T:Trc tb w all all S u n) {t:Nat} {g:GV}:∀k,k<=all.length->GQ (S k) t=some g->
  (∃i o,i<k/\all[i]? = some o/\o.dst=some t/\n i=g/\∀j a,i<j->j<k->all[j]? = some a->a.dst≠some t)\/((∀j a,j<k->all[j]? = some a->a.dst≠some t)/\GQ (S 0) t=some g)
 |0,_,h=> .inr ⟨λj a s=>V7,h⟩
 | k + 1, hk, h => by
  have c:all[k]? = some all[k]:=zA0 V7;rw[T.up k _ c]at h;have m:all[k].dst≠some t->GQ (S k) t=some g->_:=λl h=>
   match Np T k V7 h with
   | .inl ⟨i, o, q, p, h3, h4, h5⟩ => (.inl ⟨i, o, by omega, p, h3, h4, λj a r s b => by
     by_cases e:j=k
     .subst e;rw[c]at b;cases b;exact l
     .exact h5 j a r V7 b⟩:(∃i o,i<k+1/\all[i]? = some o/\o.dst=some t/\n i=g/\∀j a,i<j->j<k+1->all[j]? = some a->a.dst≠some t)\/((∀j a,j<k+1->all[j]? = some a->a.dst≠some t)/\GQ (S 0) t=some g))
   | .inr ⟨q, p⟩ => .inr ⟨λj a s b => by
     by_cases e:j=k
     .subst e;rw[c]at b;cases b;exact l
     .exact q j a V7 b,p⟩
  cases f:all[k].dst with
  |none=>
   rw[f]at h;exact m (by rw[f];simp) h
  | some d =>
   rw[f]at h;have h:GQ ((d,n k)::S k) t=some g:=h;rw[Ci]at h;by_cases e:t=d
   .subst e;rw[if_pos Z]at h;cases h;exact .inl ⟨k,_,V7,c,f,rfl,λj a q p=>V7⟩
   .rw[if_neg e]at h;exact m (by rw[f];intro v;cases v;exact e Z) h
def sN (o:Op):V4:=fI o && !isFloat o
def MF (tb:TB) (x o:Op):V4:=pureOp tb x||pureOp tb o||isFloat o||(!fI x && !fI o)||(o_ x&&fI o)||(fI x&&o_ o)
def chkF (tb:TB) (l:V6 V5) (m:V6 Nat):V4:=
 (List.range l.length).all λi=>match l[i]? with
  |none=>false
  |some o=>
   (vT o).all (λe=>Nat.blt e i&&before m i e&&(List.range i).all (λk=> !before m e k||before m i k)) &&
   (List.range l.length).all (λk=> !before m i k||(Nat.blt k i&&(vT o).any (λe=>Nat.beq e k||before m e k))) &&
   !DT o.op &&
   (List.range i).all (λx=>before m i x||(match l[x]? with|none=>false|some a=>a.apart l.toArray o&&MF tb a.op o.op))
structure Zi (tb:TB) (l:List Oper) (m:List Nat):Prop where
 edge:∀(i:Nat) (o:Oper),l[i]? = some o->∀e∈vT o,e<i/\before m i e=true
 trans:∀(i:Nat) (o:Oper),l[i]? = some o->∀k,before m i k=true->k<l.length->k<i/\∃e∈vT o,e=k\/before m e k=true
 ind:∀(i x:Nat) (oi ox:Oper),l[i]? = some oi->l[x]? = some ox->x<i->before m i x=false->ox.apart l.toArray oi=true/\MF tb ox.op oi.op=true
theorem Jp {l:V6 V5} {m:V6 Nat} (h:chkF tb l m=true):Zi tb l m:=by
 have b:∀(i:Nat) (o:V5),l[i]? = some o->
   ((vT o).all (λe=>Nat.blt e i&&before m i e&&(List.range i).all (λk=> !before m e k||before m i k))=true)/\
   ((List.range l.length).all (λk=> !before m i k||(Nat.blt k i&&(vT o).any (λe=>Nat.beq e k||before m e k)))=true)/\DT o.op=false/\
   ((List.range i).all (λx=>before m i x||(match l[x]? with|none=>false|some g=>g.apart l.toArray o&&MF tb g.op o.op))=true):=by
  intro i o c;have:=zA7.1 h i (zAi.2 (bB c));simp only[c,zA4,Bool.not_eq_true']at this;exact⟨this.1.1.1,this.1.1.2,this.1.2,this.2⟩
 refine⟨?_,?_,?_⟩
 .intro i o c e f;have:=zA7.1 (b i o c).1 e f;simp only[zA4,zAy]at this;exact⟨this.1.1,this.1.2⟩
 .intro i o c k q a;have:=zA7.1 (b i o c).2.1 k (zAi.2 a);simp only[q,Bool.not_true,Bool.false_or,zA4,zAy,List.any_eq_true,zAx]at this;obtain⟨j,e,f,d⟩:=this;refine⟨j,e,f,?_⟩
  rcases d with d|d
  .exact .inl (zA6 d)
  .exact .inr d
 .intro i x s g p r a n;have:=(b i s p).2.2.2;have:=zA7.1 this x (zAi.2 a);simp only[n,Bool.false_or,r,zA4]at this;exact this
theorem YX (G:gA P tb) {T:V9} {ρ:eZ} {H x:GH} {g v u:GV} {V U:V0} (J:Rl ρ v V) (I:Rl ρ u U) (h:TQ tb T v u H=some (g,x)):
  ∃t m F,x=H.new (.cells t)/\VW ρ t m/\t.length=m.size/\∀w:V2,∃X,(Instr.makeSlice T V U).run P w = .ok X (w.alloc (.cells m F))/\∀l:eZ,l H.n=some ⟨w.heap.size,0,m.size,.cells m F,.cells t⟩->Rl l g X:=by
 obtain⟨j,C,h⟩:=aE.1 (show ob (Bu tb T) _=some (g,x)from h);obtain⟨zc,Y,h⟩:=aE.1 h;obtain⟨k,R,h⟩:=aE.1 h;obtain⟨c,O,h⟩:=aE.1 h;obtain⟨f,h⟩:=bV.1 h;obtain⟨n,S,h⟩:=aE.1 h;obtain⟨a,h⟩:=bV.1 h;obtain⟨o,h⟩:=bV.1 h;obtain⟨q,h⟩:=bV.1 h;obtain⟨y,h⟩:=lE.1 h;rw[Ss,jM]at h;cases h;obtain⟨⟨d,Q,A⟩,M,s⟩:=yL G C;obtain⟨dz,p,_,L⟩:=vR (ρ:=ρ) G Y;rw[s]at p;cases p;have a:zc.length=j.2.size:=zA6 a;have y:j.2.size≠0:=λe=>by rw[e]at y;cases y
 have o:n*j.2.bytes<16777216:=by simpa [zAy]using o
 have q:n<16777216:=by simpa [zAy]using q
 rw[nK R]at J;rw[nK O]at I;rw[Jt]at f;have f:=zB5 f;rw[J.int_inv,I.int_inv,<-f,Hw S];have b:=IG L V7 n;rw[a]at b;obtain⟨K,B,W,N,D⟩:=M.info;have i:=Q.und;rw[A]at i;have z:(K.bytes:Int)*(n:Int)<=281474976710656:=by
  have e:(j.2.bytes:Int)*(n:Int)=((n*j.2.bytes:Nat):Int):=by rw[Nat.mul_comm];simp
  rw[N,e];omega
 refine⟨_,_,j.1,rfl,b,by have:=b.r.len;simpa using this,λw=>⟨_,?_,λl E=> .sl E (zAg n) (.inr ⟨rfl,?_⟩)⟩⟩
 .rw[run_make (P:=P) w T j.1 K j.2.zero i B D k.1 c.1 n n V7 (Int.le_refl _) z V7];simp[madeCells,W]
 .simp
theorem Ot {ih:CH} (K:gA P tb) {all:V6 V5} {n:Nat} {o:V5} {B:GF} {H c:GH} {g:GV} {D:eZ} {a:Act} (W:isFloat o.op=true) (F:mC D n B a) (h:GM tb ih all o B H=some (g,c)):
  (Region.wanted o (yielded all.toArray a.tmps)=false/\g = .un/\c=H)\/
  (Region.wanted o (yielded all.toArray a.tmps)=true/\∃j f A,c=H.new (.cells j)/\VW D j f/\j.length=f.size/\∀w:V2,∃V,(execOp a.eval o).run P w = .ok (.value V) (w.alloc (.cells f A))/\∀i:eZ,i H.n=some ⟨w.heap.size,0,f.size,.cells f A,.cells j⟩->Rl i g V):=by
 rcases Gu F h with⟨Y,b⟩|h
 .refine .inr ⟨Y,?_⟩;obtain⟨d,op,ty,ab,R,gd⟩:=o;cases op with
  |buildSlice T m M=>
   obtain⟨vs,L,b⟩:=aE.1 (show ob (wD B M.toList) _=some (g,c)from b);obtain⟨E,k,b,q⟩:=nG b;cases q;obtain⟨j,f,A,aa,sz,C,h2,G,I,J⟩:=TM (P:=P) K (DR F L) b;refine⟨j,f,A,C,G,I,λw=> ?_⟩
   obtain⟨V,s,t⟩:=J w;refine⟨V,?_,t⟩
   have e:(M.toList.map λp=>(p.1,a.eval p.2)).toArray=M.map λp=>(p.1,a.eval p.2):=by apply Array.toList_inj.1;simp
   rw[e]at s;simp[execOp,s]
  |alloc T=>
   obtain⟨E,k,b,q⟩:=nG (show fW (wH tb T H) GU=some (g,c)from b);cases q;obtain⟨Q,hz,b⟩:=aE.1 (show ob (DF tb T) _=some (g,c)from b);rw[jM]at b;cases b;obtain⟨d,hd,S,N⟩:=vR (ρ:=D) K hz;refine⟨Q,d.zero.cells,T,rfl,N,by have:=N.r.len;simpa using this,λw=>⟨_,?_,λi z=> .ptr (l:=⟨w.heap.size,0,d.zero.cells.size,.cells d.zero.cells T,.cells Q⟩) 0 z⟩⟩
   simp[execOp,JO w S]
  |makeSlice T x y=>
   obtain⟨v,t,b⟩:=aE.1 (show ob (lF B x) (λv=>ob (lF B y) λu=>fW (TQ tb T v u H) GU)=some (g,c)from b);obtain⟨u,X,b⟩:=aE.1 b;obtain⟨E,k,b,q⟩:=nG b;cases q;obtain⟨j,f,A,C,G,I,J⟩:=YX (P:=P) K (cM F t) (cM F X) b;refine⟨j,f,A,C,G,I,λw=> ?_⟩
   obtain⟨V,s,t⟩:=J w;refine⟨V,?_,t⟩
   simp[execOp,s]
  |box T x=>
   obtain⟨v,t,b⟩:=aE.1 (show ob (lF B x) (λv=>fW (HR v H) GU)=some (g,c)from b);obtain⟨E,k,b,q⟩:=nG b;cases q;obtain⟨O,U,b⟩:=aE.1 (show ob v.cells _=some (g,c)from b);rw[jM]at b;cases b;obtain⟨vs,e,s,C⟩:=(cM F t).cells U;refine⟨O,(a.eval x).cells,T,rfl,by rw[e];exact⟨s,C⟩,by rw[e];have:=s.len;simpa using this,λw=>⟨_,?_,λi z=> .ptr (l:=⟨w.heap.size,0,(a.eval x).cells.size,.cells (a.eval x).cells T,.cells O⟩) 0 z⟩⟩
   simp[execOp,Instr.box,newVar,newRow]
  |_=>cases W
 .exact .inl h
end
def HT (b a:eZ):eZ:=λh=>match b h with
 |some l=>some l
 |none=>a h
theorem zD {a b:eZ} {h:Nat} {l:NV} (e:a h=some l):HT a b h=some l:=by simp[HT,e]
theorem zC {b a:eZ} {h:Nat} (e:b h=none):HT b a h=a h:=by simp[HT,e]
theorem Ix {a b:eZ}:a.le (HT a b):=λ_ _ e=>zD e
def SlD (all:V6 V5) (b:GF) (c:Nat->GV) (D:Nat->V4) (t:Nat) (g:GV):Prop:=
 (∃i o,D i=true/\all[i]? = some o/\o.dst=some t/\c i=g/\∀j a,D j=true->all[j]? = some a->a.dst=some t->j<=i)\/((∀j a,D j=true->all[j]? = some a->a.dst≠some t)/\GQ b t=some g)
def ins (D:Nat->V4) (k:Nat):Nat->V4:=λj=>j==k||D j
theorem Cm (D:Nat->V4) (k:Nat):ins D k k=true:=by simp[ins]
theorem Bz {D:Nat->V4} {k j:Nat} (h:j≠k):ins D k j=D j:=by simp[ins,h]
theorem Ck {D:Nat->V4} {k j:Nat} (h:D j=true):ins D k j=true:=by simp[ins,h]
noncomputable def EO (σ:GF) (L:rR):GF:=L.filterMap λt=>(GQ σ t).map λg=>(t,g)
theorem DO {σ:GF} {t:Nat}:∀{L:rR},GQ (EO σ L) t=if t∈L then GQ σ t else none
 | []=>rfl
 | x :: L => by
  have c:=DO (σ:=σ) (t:=t) (L:=L);cases b:GQ σ x with
  |none=>
   have e:EO σ (x::L)=EO σ L:=by simp[EO,b]
   rw[e,c];by_cases a:t=x
   .subst a;simp[b]
   .simp[a]
  |some g=>
   have e:EO σ (x::L)=(x,g)::EO σ L:=by simp[EO,b]
   rw[e,Ci,c];by_cases a:t=x
   .subst a;simp[b]
   .simp[a]
section
variable {P:Program} {tb:TB} {gs:AZ} {w0:fM gs} {ih:CH} {all:V6 V5} {n:Nat} {S:Nat->GF} {HH:Nat->GH} {gg:Nat->GV}
structure x_ (P:Program) (tb:TB) {gs:AZ} (w0:fM gs) (ih:CH) (all:List Oper) (n:Nat) (S:Nat->GF) (HH:Nat->GH) (gg:Nat->GV):Prop where
 tab:gA P tb
 call:∀w0:fM gs,tR P w0 ih
 ops:all.all (JI n)=true
 chk:Zi tb all (qF all)
 trc:Trc tb ih all all S HH gg
 vrs:∀k ok h v,all[k]? = some ok->o_ ok.op=true->ldH (S k) ok.op=some h->(HH k).ver h=some v->
  (∀j oj,j<k->all[j]? = some oj->fI oj.op=true->before (qF all) k j=false->(HH j).ver h=some v)/\(∀j oj,k<j->all[j]? = some oj->fI oj.op=true->before (qF all) j k=false->(HH (j+1)).ver h=some v)
 chain:∃ρs:Nat->eZ,(∀i,i<=all.length->∃a w,gQ w0 (ρs i) (HH i) w/\mC (ρs i) n (S i) a)/\∀i,i<all.length->(ρs i).le (ρs (i+1))
theorem x_.ghost (E:x_ P tb w0 ih all n S HH gg) (i:Nat) (c:i<=all.length):∃b a w,gQ w0 b (HH i) w/\mC b n (S i) a:=
 let ⟨ρs,h,_⟩:=E.chain
 ⟨ρs i,h i c⟩
theorem x_.mono (E:x_ P tb w0 ih all n S HH gg) (i:Nat) (a:i<all.length):(HH i).n<=(HH (i+1)).n:=by
 obtain⟨e,h,b⟩:=E.chain;obtain⟨_,_,c,_⟩:=h i (Nat.le_of_lt a);obtain⟨_,_,d,_⟩:=h (i+1) a;exact c.mono d (b i a)
theorem Si {a:Nat->eZ} {m:Nat} (h:∀i,i<m->(a i).le (a (i+1))) {i:Nat}:∀{j:Nat},i<=j->j<=m->(a i).le (a j)
  | 0, h1, _ => by
      have : i = 0 := by omega
      subst this;exact eZ.le_refl _
  | j + 1, h1, hj => by
    by_cases e:i=j+1
    · subst e;exact eZ.le_refl _
    · exact eZ.le_trans (Si h V7 V7) (h j V7)
theorem x_.same (E:x_ P tb w0 ih all n S HH gg) {i j:Nat} (b:i<=j) (u:j<=all.length) {h v:Nat} (q:(HH i).ver h=some v) (r:(HH j).ver h=some v):(HH i).get h=(HH j).get h:=by
 obtain⟨J,s,e⟩:=E.chain;have A:=Si e b u;obtain⟨_,K,l,_⟩:=s i V7;obtain⟨_,L,m,_⟩:=s j u;have a:∀{k:Nat},(HH k).ver h=some v->∃o,(HH k).get h=some o:=λ{k} hv=>by
  obtain⟨p,B,_⟩:=aE.1 (show ob ((HH k).t.get h) _=some v from hv);exact⟨p.2,by unfold GH.get;rw[B];rfl⟩
 obtain⟨H,f⟩:=a q;obtain⟨I,g⟩:=a r;obtain⟨C,c,_⟩:=l.live h H f;obtain⟨D,d,_⟩:=m.live h I g;obtain⟨F,w,_,y⟩:=l.vers h v C q c;obtain⟨G,x,_,z⟩:=m.vers h v D r d;have:=A _ _ w;rw[x]at this;cases this;rw[y,z]
theorem x_.op (E:x_ P tb w0 ih all n S HH gg) {k:Nat} {o:V5} (a:all[k]? = some o):JI n o=true:=zA7.1 E.ops o (zA3 a)
theorem x_.quiet (E:x_ P tb w0 ih all n S HH gg) {k:Nat} {o:V5} (b:all[k]? = some o) (c:fI o.op=false):HH (k+1)=HH k:=by
 obtain⟨e,a,w,R,F⟩:=E.ghost k (Nat.le_of_lt (bB b));rcases Lh E.tab (E.call w0) (E.op b) F R (E.trc.st k o b)with⟨_,d⟩|⟨_,_,h⟩
 .rcases d with⟨_,_,_,h,_⟩|⟨_,_,h,_⟩|⟨_,_,h,_⟩|⟨h,_⟩
  .exact h
  .exact h
  .exact h
  .rw[c]at h;cases h
 .exact h
theorem x_.floats (E:x_ P tb w0 ih all n S HH gg) {k:Nat} {o:V5} (c:all[k]? = some o) (d:isFloat o.op=true):HH (k+1)=HH k\/∃b,HH (k+1)=(HH k).new (.cells b):=by
 obtain⟨e,a,w,R,F⟩:=E.ghost k (Nat.le_of_lt (bB c));rcases Ot (P:=P) E.tab d F (E.trc.st k o c)with⟨_,_,h⟩|⟨_,b,_,_,h,_⟩
 .exact .inl h
 .exact .inr ⟨b,h⟩
theorem abI {H:GH} {o:GO} (h:H=H.new o):False:=by
 have:H.n=H.n+1:=congrArg GH.n h;omega
theorem YE {H:GH} {c a:V6 GV} (h:H.new (.cells c)=H.new (.cells a)):c=a:=by
 have b:=rT H (.cells c) H.n;have d:=rT H (.cells a) H.n;rw[if_pos Z]at b d;rw[h,d]at b;cases b;rfl
theorem x_.mono' (E:x_ P tb w0 ih all n S HH gg) {i j:Nat} (h:i<=j) (a:j<=all.length):(HH i).n<=(HH j).n:=TG E.mono h a
theorem x_.apart (E:x_ P tb w0 ih all n S HH gg) {i j:Nat} {b c:V6 GV} (k:i<all.length) (l:j<all.length) (d:HH (i+1)=(HH i).new (.cells b)) (f:HH (j+1)=(HH j).new (.cells c)) (h:(HH i).n=(HH j).n):i=j:=by
 have e:(HH (i+1)).n=(HH i).n+1:=by rw[d];rfl
 have g:(HH (j+1)).n=(HH j).n+1:=by rw[f];rfl
 rcases zB7 i j with a|a|a
 .have:=E.mono' (i:=i+1) (j:=j) V7 V7;omega
 .exact a
 .have:=E.mono' (i:=j+1) (j:=i) V7 V7;omega
structure yU {gs:AZ} (w0:fM gs) (ρb:eZ) (n:Nat) (all:List Oper) (S0:GF) (HH:Nat->GH) (gg:Nat->GV) (D:Nat->Bool) (a:Act) (w:World) (t:Nat) (ρ pm:eZ):Prop where
 tm:t<=all.length
 lou:∀j o,all[j]? = some o->sN o.op=true->(D j=true↔j<t)
 flo:∀j o,all[j]? = some o->isFloat o.op=true->j<t->D j=true
 rel:gQ w0 ρ (HH t) w
 up:ρb.le ρ
 defers:a.defers=[]
 size:a.tmps.size=n
 slot:∀s g,SlD all S0 gg D s g->Rl (HT ρ pm) g (a.eval (.tmp s))
 pend:∀i o cs,all[i]? = some o->isFloat o.op=true->HH (i+1)=(HH i).new (.cells cs)->t<=i->D i=true->∃l,pm (HH i).n=some l/\w0.mine l.b/\¬Zn ρ (HH t) l.b/\w.heap[l.b]? = some l.x/\Ak (HT ρ pm) w l (.cells cs)/\l.o = .cells cs
 only:∀h l,pm h=some l->∃i o cs,all[i]? = some o/\isFloat o.op=true/\HH (i+1)=(HH i).new (.cells cs)/\t<=i/\D i=true/\h=(HH i).n
 inj:∀h h' l l',pm h=some l->pm h'=some l'->l.b=l'.b->h=h'
variable {D:Nat->V4} {a:Act} {w:V2} {t:Nat} {ρ pm ρb:eZ}
theorem yU.low (E:x_ P tb w0 ih all n S HH gg) (I:yU w0 ρb n all (S 0) HH gg D a w t ρ pm) {h:Nat} {l:NV} (d:pm h=some l):(HH t).n<=h:=by
 obtain⟨i,o,e,b,_,_,c,_,rfl⟩:=I.only h l d;exact E.mono' c (Nat.le_of_lt (bB b))
theorem yU.adopt (E:x_ P tb w0 ih all n S HH gg) (I:yU w0 ρb n all (S 0) HH gg D a w t ρ pm) {o:V5} (Y:all[t]? = some o) (hl:sN o.op=false) (hf:isFloat o.op=true->D t=true):
  ∃c b,yU w0 ρb n all (S 0) HH gg D a w (t+1) c b/\HT c b=HT ρ pm:=by
 have ht:=bB Y;have G:∀j o,all[j]? = some o->sN o.op=true->(D j=true↔j<t+1):=λj oj N Q=>by
  have q:j≠t:=λe=>by subst e;rw[Y]at N;cases N;rw[hl]at Q;cases Q
  rw[I.lou j oj N Q];omega
 have C:∀j o,all[j]? = some o->isFloat o.op=true->j<t+1->D j=true:=λj oj N ab ah=>by
  by_cases e:j=t
  .subst e;rw[Y]at N;cases N;exact hf ab
  .exact I.flo j oj N ab V7
 -- nothing is taken up
 have H:HH (t+1)=HH t->∃c b,yU w0 ρb n all (S 0) HH gg D a w (t+1) c b/\HT c b=HT ρ pm:=λe=>
  ⟨ρ,pm,⟨ht,G,C,by rw[e];exact I.rel,I.up,I.defers,I.size,I.slot,λi W B f r y h4 K=>by rw[e];exact I.pend i W B f r y V7 K,λh l hp=>by
   obtain⟨i,W,B,f,r,y,h4,K,h6⟩:=I.only h l hp;refine⟨i,W,B,f,r,y,?_,K,h6⟩
   by_cases e':i=t
   .subst e';rw[e]at y;exact(abI y).elim
   .omega,I.inj⟩,rfl⟩
 cases z:isFloat o.op with
 |false=>exact H (E.quiet Y (by simpa [sN,z]using hl))
 | true =>
  rcases E.floats Y z with e|⟨B,e⟩
  .exact H e
  obtain⟨l,hp,U,M,hx,ad,ag⟩:=I.pend t o B Y z e (zAg _) (hf z);have m:ρ (HH t).n=none:=I.rel.fresh _ (zAg _);let c:=ρ.upd (HH t).n l;let b:eZ:=λh=>if h=(HH t).n then none else pm h;have k:c (HH t).n=some l:=by simp[c,eZ.upd]
  have u:∀h,h≠(HH t).n->c h=ρ h:=λh hh=>by simp[c,eZ.upd,hh]
  have O:HT c b=HT ρ pm:=by
   funext h;by_cases d:h=(HH t).n
   .subst d;rw[zD k,zC m,hp]
   .unfold HT;rw[u h d];simp[b,d]
  have hn:(HH (t+1)).n=(HH t).n+1:=by rw[e];rfl
  -- what the object holds is older
  have aa:∀{g:GV} {v v0:V0} {x:eZ},(∀h l,x h=some l->h<(HH (t+1)).n)->Rl (HT ρ pm) g v->Rl x g v0->Rl c g v:=λ{g v v0 x} hlow f h0=>by
   refine ZK (λh l0 l1 e0 X=> ?_) f h0;have ah:=hlow h l0 e0;by_cases d:h=(HH t).n
   .subst d;rw[zC m,hp]at X;rw[k];exact X
   .rw[u h d];cases hr:ρ h with
    |some l2=>rw[zD hr]at X;exact X
    |none=>
     rw[zC hr]at X;have:=I.low E X;omega
  obtain⟨x,a0,wg,R0,F0⟩:=E.ghost (t+1) ht;have R:∀h l,x h=some l->h<(HH (t+1)).n:=λh l hl=>by
   rcases zAr h (HH (t+1)).n with J|J
   .exact J
   .rw[R0.fresh h J]at hl;cases hl
  have L:(HH (t+1)).get (HH t).n=some (.cells B):=by rw[e,rT,if_pos Z]
  obtain⟨l0,_,_,ac⟩:=R0.live _ _ L;obtain⟨ai,T0,q1,q2,q3,q4⟩:=ac;have V:Ak c w l (.cells B):=by
   obtain⟨ae,T,p1,p2,p3,p4⟩:=ad;refine⟨ae,T,p1,p2,p3,λi g F=> ?_⟩
   obtain⟨v,r1,r2,r3⟩:=p4 i g F;obtain⟨v0,_,s2,_⟩:=q4 i g F;exact⟨v,r1,aa R r2 s2,r3⟩
  obtain⟨af,R'⟩:=I.rel.new (o:= .cells B) (l:=l) I.rel.ext (λh o' l' F p=>⟨rfl,λeb=>M ⟨h,o',l',F,p,eb⟩⟩) U V hx ag;rw[<-e]at R';refine⟨c,b,⟨ht,G,C,R',eZ.le_trans I.up af,I.defers,I.size,λs g hs=>by rw[O];exact I.slot s g hs,λi W ci f r y h4 K=> ?_,λh l1 A=> ?_,λh J l1 l2 f r hb=> ?_⟩,O⟩
  .obtain⟨li,a1,a2,a3,a4,a5,a6⟩:=I.pend i W ci f r y V7 K;have q:(HH i).n≠(HH t).n:=λd=>by
    have:=E.apart (bB f) ht y e d;omega
   refine⟨li,by simp[b,q,a1],a2,?_,a4,by rw[O];exact a5,a6⟩
   rintro⟨h,o',l',F,p,eb⟩;rw[e,rT]at F;by_cases d:h=(HH t).n
   .subst d;rw[k]at p;cases p;exact q (I.inj _ _ _ _ a1 hp eb.symm)
   .rw[if_neg d]at F;rw[u h d]at p;exact a3 ⟨h,o',l',F,p,eb⟩
  .have q:h≠(HH t).n:=λd=>by subst d;simp[b]at A
   have A:pm h=some l1:=by simpa [b,q]using A
   obtain⟨i,W,ci,f,r,y,h4,K,h6⟩:=I.only h l1 A;refine⟨i,W,ci,f,r,y,?_,K,h6⟩
   by_cases e':i=t
   .subst e';exact absurd h6 q
   .omega
  .have f:pm h=some l1:=by
    by_cases d:h=(HH t).n
    .simp[b,d]at f
    .simpa [b,d]using f
   have r:pm J=some l2:=by
    by_cases d:J=(HH t).n
    .simp[b,d]at r
    .simpa [b,d]using r
   exact I.inj h J l1 l2 f r hb
theorem yU.adoptTo (E:x_ P tb w0 ih all n S HH gg):∀(d t k:Nat) (ρ pm:eZ),yU w0 ρb n all (S 0) HH gg D a w t ρ pm->t+d=k->k<=all.length->(∀j o,t<=j->j<k->all[j]? = some o->sN o.op=false/\(isFloat o.op=true->D j=true))->
  ∃c b,yU w0 ρb n all (S 0) HH gg D a w k c b/\HT c b=HT ρ pm
 |0,t,k,ρ,pm,I,hd,hk,_=>by
  have:t=k:=V7
  subst this;exact⟨ρ,pm,I,rfl⟩
 |d+1,t,k,ρ,pm,I,hd,hk,h=>by
  have p:all[t]? = some all[t]:=zA0 V7;obtain⟨m,e⟩:=h t _ (zAg _) V7 p;obtain⟨i,f,q,s⟩:=I.adopt E p m e;obtain⟨l,g,r,u⟩:=yU.adoptTo E d (t+1) k i f q V7 hk (λj o m e=>h j o V7 e);exact⟨l,g,r,by rw[u,s]⟩
def Cl (all:V6 V5) (D:Nat->V4):Prop:=∀j k,D j=true->before (qF all) j k=true->k<all.length->D k=true
structure Uu (all:List Oper) (D:Nat->Bool) (k:Nat) (o:Oper):Prop where
 get:all[k]? = some o
 undone:D k=false
 past:∀j,before (qF all) k j=true->j<all.length->D j=true
theorem Uu.behind (C:Zi tb all (qF all)) (c:Cl all D) {k:Nat} {o:V5} (e:Uu all D k o) {j:Nat} {b:V5} (h:all[j]? = some b) (g:D j=true) (d:k<j):o.apart all.toArray b=true/\MF tb o.op b.op=true:=by
 cases f:before (qF all) j k with
 |false=>exact C.ind j k b o h e.get d f
 |true=>
  have:=c j k g f (bB e.get);rw[e.undone]at this;cases this
theorem Uu.ahead (C:Zi tb all (qF all)) {k:Nat} {o:V5} (f:Uu all D k o) {j:Nat} {b:V5} (e:all[j]? = some b) (c:j<k):D j=true\/b.apart all.toArray o=true/\MF tb b.op o.op=true:=by
 cases d:before (qF all) k j with
 |true=>exact .inl (f.past j d (bB e))
 |false=>exact .inr (C.ind k j o b f.get e c d)
theorem Uu.look (E:x_ P tb w0 ih all n S HH gg) (q:Cl all D) {k:Nat} {o:V5} (p:Uu all D k o) {s:Nat} {g:GV} (u:s∈o.looksAt all.toArray) (y:GQ (S k) s=some g):SlD all (S 0) gg D s g:=by
 have b:∀j c,D j=true->all[j]? = some c->c.dst=some s->j<k:=λj c d f e=>by
  rcases zB7 j k with h|h|h
  .exact h
  .subst h;rw[p.undone]at d;cases d
  .obtain⟨l,_⟩:=p.behind E.chk q f d h;exact absurd u ((Oper.apart_spec l).2.2 s e)
 rcases Np E.trc k (Nat.le_of_lt (bB p.get)) y with⟨i,z,l,m,r,v,x⟩|⟨l,m⟩
 .refine .inl ⟨i,z,?_,m,r,v,λj c d f e=> ?_⟩
  .rcases p.ahead E.chk m l with h|⟨h,_⟩
   .exact h
   .exact absurd u ((Oper.apart_spec h).1 s r)
  .have:=b j c d f e;rcases zAr i j with h|h
   .exact absurd e (x j c h this f)
   .exact h
 .exact .inr ⟨λj c d f e=>l j c (b j c d f e) f e,m⟩
theorem Uu.slot (C:Zi tb all (qF all)) (F:Cl all D) {K:GF} {k:Nat} {o:V5} (y:Uu all D k o) (x:∀d,o.dst=some d->d<n) (I:a.tmps.size=n) {z u:eZ} (G:z.le u) (q:∀s g,SlD all K gg D s g->Rl z g (a.eval (.tmp s))) {v:V0} (Q:Rl u (gg k) v):
  ∀s g,SlD all K gg (ins D k) s g->Rl u g ((a.put o.dst v).eval (.tmp s)):=λs g L=>by
 have c:∀j r,D j=true->all[j]? = some r->o.dst=some s->r.dst=some s->j<k:=λj r m O f p=>by
  rcases zB7 j k with h|h|h
  .exact h
  .subst h;rw[y.undone]at m;cases m
  .obtain⟨b,_⟩:=y.behind C F O m h;exact absurd p ((Oper.apart_spec b).2.1 s f)
 by_cases f:o.dst=some s
 .have N:gg k=g:=by
   rcases L with⟨i,J,b,l,A,B,E⟩|⟨b,_⟩
   .have R:=E k o (Cm D k) y.get f;by_cases e:i=k
    .subst e;exact B
    .rw[Bz e]at b;have:=c i J b l f A;omega
   .exact absurd f (b k o (Cm D k) y.get)
  rw[f,<-N];have H:=x s f;have:(a.put (some s) v).eval (.tmp s)=v:=by simp[Act.put,Act.eval,I,H]
  rw[this];exact Q
 .have M:(a.put o.dst v).eval (.tmp s)=a.eval (.tmp s):=Act.eval_put λd p e=>by cases e;exact f p
  rw[M];refine(q s g ?_).le G;rcases L with⟨i,J,b,l,A,B,E⟩|⟨b,l⟩
  .have e:i≠k:=λe=>by subst e;rw[y.get]at l;cases l;exact f A
   rw[Bz e]at b;exact .inl ⟨i,J,b,l,A,B,λj r m=>E j r (Ck m)⟩
  .exact .inr ⟨λj r m=>b j r (Ck m),l⟩
theorem GG (a:Act) (d:V1 Tmp) (v:V0):(a.put d v).defers=a.defers/\(a.put d v).tmps.size=a.tmps.size:=by
 cases d with
 |none=>exact⟨rfl,rfl⟩
 |some d=>exact⟨rfl,by simp[Act.put]⟩
theorem yU.plain (E:x_ P tb w0 ih all n S HH gg) (u:Cl all D) (I:yU w0 ρb n all (S 0) HH gg D a w t ρ pm) {k:Nat} {o:V5} (q:Uu all D k o) (F:sN o.op=false) (C:isFloat o.op=true->HH (k+1)=HH k) {v:V0} (H:Rl (HT ρ pm) (gg k) v):
  yU w0 ρb n all (S 0) HH gg (ins D k) (a.put o.dst v) w t ρ pm:=by
 obtain⟨_,f,_⟩:=vF (E.op q.get);obtain⟨J,K⟩:=GG a o.dst v;refine⟨I.tm,λj A g b=> ?_,λj A g x y=>Ck (I.flo j A g x y),I.rel,I.up,by rw[J];exact I.defers,by rw[K];exact I.size,q.slot E.chk u f I.size (eZ.le_refl _) I.slot H,λi z r c m d s p=> ?_,λh l G=> ?_,I.inj⟩
 .have e:j≠k:=λe=>by subst e;rw[q.get]at g;cases g;rw[F]at b;cases b
  rw[Bz e];exact I.lou j A g b
 .have e:i≠k:=λe=>by
   subst e;rw[q.get]at c;cases c;rw[C m]at d;exact abI d
  rw[Bz e]at p;exact I.pend i z r c m d s p
 .obtain⟨i,z,r,c,m,d,s,p,B⟩:=I.only h l G;exact⟨i,z,r,c,m,d,s,Ck p,B⟩
def Po (all:V6 V5) (D:Nat->V4) (t:Nat):Prop:=t=0\/∃o,all[t - 1]? = some o/\sN o.op=true/\D (t - 1)=true
theorem Po.ins {k:Nat} (h:Po all D t):Po all (ins D k) t:=by
 rcases h with h|⟨o,b,c,d⟩
 .exact .inl h
 .exact .inr ⟨o,b,c,Ck d⟩
theorem GE {o:Op} (h:pureOp tb o=true):fI o=false:=by
 unfold pureOp at h;split at h<;>first|rfl|cases h
theorem HB {o:Op} (h:isFloat o=true):fI o=true:=by
 unfold isFloat at h;split at h<;>first|rfl|cases h
theorem Mq {o:Op} (h:isFloat o=true):pureOp tb o=false:=by
 cases b:pureOp tb o with
 |false=>rfl
 |true=>have:=GE b;rw[HB h]at this;cases this
theorem yU.reach (E:x_ P tb w0 ih all n S HH gg) (u:Cl all D) (I:yU w0 ρb n all (S 0) HH gg D a w t ρ pm) (i:Po all D t) {k:Nat} {o:V5} (r:Uu all D k o) (z:pureOp tb o.op=false) (B:isFloat o.op=false) (m:o_ o.op=false):
  ∃q p,yU w0 ρb n all (S 0) HH gg D a w k q p/\HT q p=HT ρ pm:=by
 have F:=bB r.get;have C:t<=k:=by
  rcases i with h|⟨d,x,f,s⟩
  .omega
  .rcases zAr (t - 1) k with h|h
   .omega
   .exfalso;by_cases e:t - 1=k
    .rw[e,r.undone]at s;cases s
    .obtain⟨_,A⟩:=r.behind E.chk u x s V7;simp only[sN,zA4,Bool.not_eq_true']at f;have:pureOp tb d.op=false:=by
      cases v:pureOp tb d.op with
      |false=>rfl
      |true=>have:=GE v;rw[f.1]at this;cases this
     have c:o_ d.op=false:=by
      cases v:o_ d.op with
      |false=>rfl
      |true=>rw[Cn v]at f;cases f.1
     simp[MF,z,this,f.1,f.2,m,c]at A
 refine I.adoptTo E (k - t) t k ρ pm V7 V7 λj d x f y=> ?_;have g:D j=true\/fI d.op=false\/pureOp tb d.op=true:=by
  rcases r.ahead E.chk y f with h|⟨_,h⟩
  .exact .inl h
  .simp only[MF,z,B,m,Bool.or_false,Bool.and_false,zAx,zA4,Bool.not_eq_true']at h;rcases h with(h|h)|h
   .exact .inr (.inr h)
   .exact .inr (.inl h.1)
   .exact .inr (.inl (Cn h.1))
 refine⟨?_,λl=> ?_⟩
 .cases c:sN d.op with
  |false=>rfl
  |true=>
   exfalso;have b:=c;simp only[sN,zA4,Bool.not_eq_true']at b;rcases g with h|h|h
   .have:=(I.lou j d y c).1 h;omega
   .rw[b.1]at h;cases h
   .have:=GE h;rw[b.1]at this;cases this
 .rcases g with h|h|h
  .exact h
  .rw[HB l]at h;cases h
  .rw[Mq l]at h;cases h
theorem yU.frame (E:x_ P tb w0 ih all n S HH gg) (c:Cl all D) (I:yU w0 ρb n all (S 0) HH gg D a w t ρ pm) {k:Nat} {o:V5} (e:Uu all D k o):mC (HT ρ pm) n (EO (S k) (o.looksAt all.toArray)) a:=
 ⟨I.defers,I.size,λs g b=>by
  rw[DO]at b;by_cases d:s∈o.looksAt all.toArray
  .rw[if_pos d]at b;exact I.slot s g (e.look E c d b)
  .rw[if_neg d]at b;cases b⟩
theorem yU.frame' (E:x_ P tb w0 ih all n S HH gg) (e:Cl all D) {k:Nat} (I:yU w0 ρb n all (S 0) HH gg D a w k ρ pm) {o:V5} (i:Uu all D k o):mC ρ n (EO (S k) (o.looksAt all.toArray)) a:=by
 have F:=I.frame E e i;obtain⟨u,v,z,p,m⟩:=E.ghost k (Nat.le_of_lt (bB i.get));refine⟨F.defers,F.size,λs g b=> ?_⟩
 have q:=F.slot s g b;rw[DO]at b;by_cases j:s∈o.looksAt all.toArray
 .rw[if_pos j]at b;refine ZK (λh x l f d=> ?_) q (m.slot s g b);cases c:ρ h with
  |some y=>rw[zD c]at d;exact d
  |none=>
   rw[zC c]at d;have r:=I.low E d;rw[p.fresh h r]at f;cases f
 .rw[if_neg j]at b;cases b
theorem x_.st (E:x_ P tb w0 ih all n S HH gg) {k:Nat} {o:V5} (b:all[k]? = some o):GM tb ih all o (EO (S k) (o.looksAt all.toArray)) (HH k)=some (gg k,HH (k+1)):=by
 rw[<-E.trc.st k o b];exact UP λs c=>by rw[DO,if_pos c]
theorem yU.loads (E:x_ P tb w0 ih all n S HH gg) (N:Cl all D) (I:yU w0 ρb n all (S 0) HH gg D a w t ρ pm) (s:Po all D t) {k:Nat} {o:V5} (z:Uu all D k o) (c:o_ o.op=true) {h:Nat} {W:GO} (hh:ldH (S k) o.op=some h) (i:(HH k).get h=some W):
    ∃p K J,yU w0 ρb n all (S 0) HH gg D a w p K J/\HT K J=HT ρ pm/\(HH p).get h=some W:=by
  have hk:=bB z.get;have hq:=Cn c;have ae:pureOp tb o.op=false:=by cases Q:o.op<;>rw[Q]at c<;>first|rfl|cases c
  have aa:isFloat o.op=false:=by cases Q:o.op<;>rw[Q]at c<;>first|rfl|cases c
  obtain⟨v,V⟩:∃v,(HH k).ver h=some v:=by
    obtain⟨p,hp,_⟩:=aE.1 (show Gx.ob ((HH k).t.get h) _=some W from i);exact⟨p.1,by unfold GH.ver;rw[hp];rfl⟩
  obtain⟨v1,v2⟩:=E.vrs k o h v z.get c hh V;rcases zAr k t with H|H
  · -- later than in the text
    rcases s with e|⟨b,y,B,q⟩
    · omega
    have F:=B;simp only[sN,zA4]at F;have r:before (qF all) (t - 1) k=false:=by
      cases r:before (qF all) (t - 1) k with
      |false=>rfl
      |true=>have:=N _ _ q r hk;rw[z.undone]at this;cases this
    have ab:t - 1≠k:=λe=>by rw[e,z.undone]at q;cases q
    have:=v2 (t - 1) b V7 y F.1 r;rw[show t - 1+1=t by omega]at this;exact⟨t,ρ,pm,I,rfl,by rw[<-E.same (Nat.le_of_lt H) I.tm V this];exact i⟩
  · -- earlier,or there
    let f:Nat->V5->V4:=λj b=>sN b.op||(isFloat b.op && !D j)
    have first:∀d g,g+d=k->t<=g->(∀j b,t<=j->j<g->all[j]? = some b->f j b=false)->∃p,t<=p/\p<=k/\(∀j b,t<=j->j<p->all[j]? = some b->f j b=false)/\(p=k\/∃A,all[p]? = some A/\f p A=true):=by
      intro d
      induction d with
      |zero=>exact λg e U h=>⟨g,U,V7,h,.inl V7⟩
      | succ d ihd =>
        intro g e U h;have m:all[g]? = some all[g]:=zA0 V7;cases hl:f g all[g]with
        |true=>exact⟨g,U,V7,h,.inr ⟨_,m,hl⟩⟩
        | false =>
          refine ihd (g+1) V7 V7 λj b y B C=> ?_;by_cases e:j=g
          · subst e;rw[m]at C;cases C;exact hl
          · exact h j b y V7 C
    obtain⟨p,ac,ad,R,T⟩:=first (k - t) t V7 (zAg _) (λj b y B=>V7)
    obtain⟨Y,X,I1,e1⟩:=I.adoptTo E (p - t) t p ρ pm V7 V7 λj b y B C=>by
      have q:=R j b y B C;simp only[f,Bool.or_eq_false_iff,Bool.and_eq_false_iff,Bool.not_eq_false']at q;exact ⟨q.1, λO => by
          rcases q.2 with L | L; · rw [O] at L; cases L
          · exact L⟩
    refine⟨p,Y,X,I1,e1,?_⟩
    rcases T with e|⟨A,l,x⟩
    · rw[e];exact i
    · simp only[f,zAx,zA4,Bool.not_eq_true']at x;have u:fI A.op=true:=by
        rcases x with h|h
        · simp only[sN,zA4]at h;exact h.1
        · exact HB h.1
      have G:p<k:=by
        rcases zAr p k with h|h
        · exact h
        · have:p=k:=V7
          subst this;rw[z.get]at l;cases l;rw[hq]at u;cases u
      have M:D p=false:=by
        rcases x with h|h
        · cases hd:D p with
          |false=>rfl
          |true=>have:=(I.lou p A l h).1 hd;omega
        · exact h.2
      have r:before (qF all) k p=false:=by
        cases r:before (qF all) k p with
        |false=>rfl
        |true=>have:=z.past p r V7;rw[M]at this;cases this
      rw[E.same (Nat.le_of_lt G) (Nat.le_of_lt hk) (v1 p A G l u r) V];exact i
theorem yU.step (E:x_ P tb w0 ih all n S HH gg) (z:Cl all D) (I:yU w0 ρb n all (S 0) HH gg D a w t ρ pm) (m:Po all D t) {k:Nat} {o:V5} (A:Uu all D k o) {Q:Exit->Act->V2->Prop} {K:Act->V2->Prop}
  (hK:∀a' w' t' aY O,yU w0 ρb n all (S 0) HH gg (ins D k) a' w' t' aY O->Po all (ins D k) t'->K a' w'):Sx.wpOp P all.toArray Q k K a w:=by
 have hk:=bB A.get;obtain⟨_,ai,aS⟩:=vF (E.op A.get);have am:=E.st A.get;unfold Sx.wpOp;simp only[List.getElem?_toArray,A.get];cases hp:pureOp tb o.op with
 | true =>
  have Y:sN o.op=false:=by simp[sN,GE hp]
  have aF:isFloat o.op=false:=by
   cases hf:isFloat o.op with
   |false=>rfl
   |true=>rw[Mq hf]at hp;cases hp
  have F:=I.frame E z A;rcases Gu F am with⟨N,C⟩|⟨N,C,hH⟩
  .rw[if_pos N];have aG:MS o.op=true:=by
    rcases aS with h|⟨c,f,y,G⟩
    .exact h
    .obtain⟨a8,xs,ts⟩:=c;simp only at G;rw[y,G]at hp;cases hp
   obtain⟨_,v,hv,u⟩:=aa_ (P:=P) E.tab F hp aG C;left;simp only[Oper.wp,u w,Oper.upon];exact hK _ _ t ρ pm (I.plain E z A Y (λh=>by rw[aF]at h;cases h) hv) m.ins
  .rw[if_neg (by rw[N];simp)];exact hK _ _ t ρ pm (I.plain E z A Y (λh=>by rw[aF]at h;cases h) (by rw[C];exact .un)) m.ins
 | false =>
  cases hf:isFloat o.op with
  | true =>
   have Y:sN o.op=false:=by simp[sN,hf]
   have F:=I.frame E z A;rcases Ot (P:=P) E.tab hf F am with⟨N,C,hH⟩|⟨N,cs,a',T',hH,hC,a0,u⟩
   .rw[if_neg (by rw[N];simp)];exact hK _ _ t ρ pm (I.plain E z A Y (λ_=>hH) (by rw[C];exact .un)) m.ins
   .rw[if_pos N];obtain⟨V,hV,aI⟩:=u w;left;simp only[Oper.wp,hV,Oper.upon];have aJ:t<=k:=by
     rcases zAr k t with h|h
     .have:=I.flo k o A.get hf h;rw[A.undone]at this;cases this
     .exact h
    let l:NV:=⟨w.heap.size,0,a'.size,.cells a' T',.cells cs⟩
    have e:Ph w (w.alloc (.cells a' T')):=(Below.refl _ _).alloc (zAg _) _;have aX:ρ (HH k).n=none:=I.rel.fresh _ (E.mono' aJ V7);have aT:pm (HH k).n=none:=by
     cases U:pm (HH k).n with
     |none=>rfl
     |some W=>
      obtain⟨i,L,R,y,G,h3,h4,h5,h6⟩:=I.only _ _ U;have:=E.apart (bB y) hk h3 hH h6.symm;subst this;rw[A.undone]at h5;cases h5
    let O:=pm.upd (HH k).n l;have M:O (HH k).n=some l:=by simp[O,eZ.upd]
    have J:∀h,h≠(HH k).n->O h=pm h:=λh hh=>by simp[O,eZ.upd,hh]
    have ad:(HT ρ pm).le (HT ρ O):=λh W y=>by
     cases H:ρ h with
     |some l2=>rw[zD H]at y;rw[zD H];exact y
     |none=>
      rw[zC H]at y;rw[zC H,J h (λeh=>by subst eh;rw[aT]at y;cases y)];exact y
    have aP:HT ρ O (HH k).n=some l:=by rw[zC aX,M]
    obtain⟨p1,p2⟩:=GG a o.dst V;have az:∀h W,pm h=some W->W.b<w.heap.size:=λh W y=>by
     obtain⟨i,L,R,q1,q2,q3,q4,q5,rfl⟩:=I.only _ _ y;obtain⟨l2,r1,_,_,r4,_⟩:=I.pend i L R q1 q2 q3 q4 q5;rw[y]at r1;cases r1;exact(zAh.1 r4).1
    refine hK _ _ t ρ O ⟨I.tm,λj oj hj ak=> ?_,λj oj hj ao aD=>Ck (I.flo j oj hj ao aD),I.rel.ext' e,I.up,by rw[p1];exact I.defers,by rw[p2];exact I.size,A.slot E.chk z ai I.size ad I.slot (aI _ aP),λi L R y G h3 h4 h5=> ?_,λh W ar=> ?_,λh h' W l2 y G hb=> ?_⟩ m.ins
    .have e:j≠k:=λe=>by subst e;rw[A.get]at hj;cases hj;rw[Y]at ak;cases ak
     rw[Bz e];exact I.lou j oj hj ak
    .by_cases ei:i=k
     .subst ei;rw[hH]at h3;have:=YE h3;subst this;refine⟨l,M,.inl I.rel.ext.size,?_,heap_alloc_new w _,⟨a',T',heap_alloc_new w _,rfl,by show 0+cs.length<=a'.size;omega,λj g C=> ?_⟩,rfl⟩
      .rintro⟨h,o',l',C,ax,eb⟩;obtain⟨l2,r1,_,r3⟩:=I.rel.live h o' C;rw[ax]at r1;cases r1;have:=r3.lt;rw[eb]at this;exact absurd this (Nat.lt_irrefl _)
      .obtain⟨x,hx,aU⟩:=hC.r.get C;rw[zAl]at hx;exact⟨x,by show a'[0+j]? = some x;simpa using hx,aU.le ad,Qc hC.one hx⟩
     .rw[Bz ei]at h5;obtain⟨W,a1,a2,a3,a4,a5,a6⟩:=I.pend i L R y G h3 h4 h5;have aR:(HH i).n≠(HH k).n:=λeh=>ei (E.apart (bB y) hk h3 hH eh);have hb:=az _ _ a1;exact⟨W,by rw[J _ aR];exact a1,a2,a3,by rw[e.block _ hb];exact a4,a5.move ad (e.block _ hb),a6⟩
    .by_cases eh:h=(HH k).n
     .exact⟨k,o,cs,A.get,hf,hH,aJ,Cm D k,eh⟩
     .rw[J h eh]at ar;obtain⟨i,L,R,q1,q2,q3,q4,q5,q6⟩:=I.only h W ar;exact⟨i,L,R,q1,q2,q3,q4,Ck q5,q6⟩
    .by_cases eh:h=(HH k).n
     .by_cases ah:h'=(HH k).n
      .rw[eh,ah]
      .rw[J h' ah]at G;subst eh;rw[M]at y;cases y;have:=az _ _ G;rw[<-hb]at this;exact absurd this (Nat.lt_irrefl _)
     .rw[J h eh]at y;by_cases ah:h'=(HH k).n
      .subst ah;rw[M]at G;cases G;have:=az _ _ y;rw[hb]at this;exact absurd this (Nat.lt_irrefl _)
      .rw[J h' ah]at G;exact I.inj h h' W l2 y G hb
  | false =>
   cases aj:o_ o.op with
   | true =>
    have Y:sN o.op=false:=by simp[sN,Cn aj]
    have F0:=I.frame E z A;rcases Gu F0 am with⟨N,C⟩|⟨N,C,hH⟩
    .rw[if_pos N];have aH:∃T x,o.op = .load T x:=by
      cases ho:o.op<;>rw[ho]at aj<;>first|exact⟨_,_,rfl⟩|cases aj
     obtain⟨T,x,al⟩:=aH;rw[al]at C;obtain⟨va,aL,C⟩:=aE.1 (show ob (lF (EO (S k) (o.looksAt all.toArray)) x) _=some (gg k,HH (k+1))from C);obtain⟨g',av,aQ⟩:=aE.1 C;have eg:g'=gg k:=by
      have:=congrArg (λo=>o.map Prod.fst) (show some (g',HH k)=some (gg k,HH (k+1))from aQ);simpa using this
     rw[eg]at av;obtain⟨q,U,hc⟩:=aE.1 (show ob va.asP _=some (gg k)from av);obtain⟨cs,aO,hc⟩:=aE.1 hc;have aA:=jQ.1 aO;have aW:∀s,x = .tmp s->s∈o.looksAt all.toArray:=λs e=>List.mem_append_left _ (List.mem_filterMap.2 ⟨.tmp s,by rw[al,e];simp[Op.operands],rfl⟩);have aM:lF (S k) x=some va:=by
      rw[<-aL];cases x with
      |tmp s=>
       show GQ (S k) s=GQ (EO (S k) (o.looksAt all.toArray)) s;rw[DO,if_pos (aW s Z)]
      |_=>rfl
     have hh:ldH (S k) o.op=some q.1:=by
      rw[al];show ob (lF (S k) x) _=_;rw[aM];show ob va.asP _=_;rw[U];rfl
     obtain⟨p,ag,af,B,ap,aB⟩:=I.loads E z m A aj hh aA;have aK:=cM F0 aL;have aV:Rl ag va (a.eval x):=by
      rw[Fu U]at aK ⊢;obtain⟨l,Y,e⟩:=aK.ptr_inv;obtain⟨W,aC,_⟩:=B.rel.live _ _ aB;rw[<-ap,zD aC]at Y;cases Y;rw[e];exact .ptr _ aC
     have ay:uR tb T va (HH p)=some (gg k):=by
      show ob va.asP _=_;rw[U];show ob ((HH p).cells q.1) _=_;rw[jQ.2 aB];exact hc
     obtain⟨X,_,l,_,_,_,hX,u⟩:=Nr (P:=P) E.tab B.rel aV ay;left;have H:(execOp a.eval o).run P w = .ok (.value X) w:=by
      have:=u w Z;obtain⟨d,op,ty,a9,a7,gd⟩:=o;simp only at al;subst al;simp[execOp,this]
     simp only[Oper.wp,H,Oper.upon];exact hK _ _ t ρ pm (I.plain E z A Y (λh=>by rw[hf]at h;cases h) (by rw[<-ap];exact hX.le Ix)) m.ins
    .rw[if_neg (by rw[N];simp)];exact hK _ _ t ρ pm (I.plain E z A Y (λh=>by rw[hf]at h;cases h) (by rw[C];exact .un)) m.ins
   |false=>
   obtain⟨ag,af,B,ap⟩:=I.reach E z m A hp hf aj;have F:=B.frame' E z A;cases ae:fI o.op with
   | false =>
    have Y:sN o.op=false:=by simp[sN,ae]
    have an:∀v,Rl ag (gg k) v->yU w0 ρb n all (S 0) HH gg (ins D k) (a.put o.dst v) w t ρ pm:=λv hv=>
     I.plain E z A Y (λh=>by rw[hf]at h;cases h) (by rw[<-ap];exact hv.le Ix)
    rcases Lh E.tab (E.call w0) (E.op A.get) F B.rel am with⟨N,hs⟩|⟨N,C,hH⟩
    .rw[if_pos N];left;rcases hs with⟨_,_,_,_,v,hv,u⟩|⟨_,_,_,v,_,_,_,_,_,hv,u⟩|⟨_,_,_,v,hv,u⟩|⟨U,_⟩
     .simp only[Oper.wp,u w,Oper.upon];exact hK _ _ t ρ pm (an v hv) m.ins
     .simp only[Oper.wp,u w Z,Oper.upon];exact hK _ _ t ρ pm (an v hv) m.ins
     .simp only[Oper.wp,u,Oper.upon];exact hK _ _ t ρ pm (an v hv) m.ins
     .rw[ae]at U;cases U
    .rw[if_neg (by rw[N];simp)];exact hK _ _ t ρ pm (an undef (by rw[C];exact .un)) m.ins
   | true =>
    have Y:sN o.op=true:=by simp[sN,ae,hf]
    have aq:∀(i:Nat) (L:V5) (R:V6 GV),all[i]? = some L->isFloat L.op=true->i≠k:=λi L R y G e=>by
     subst e;rw[A.get]at y;cases y;rw[hf]at G;cases G
    have aw:∀j o,all[j]? = some o->sN o.op=true->(ins D k j=true↔j<k+1):=λj oj hj ak=>by
     by_cases e:j=k
     .subst e;simp[Cm]
     .rw[Bz e,B.lou j oj hj ak];omega
    have au:∀j o,all[j]? = some o->isFloat o.op=true->j<k+1->ins D k j=true:=λj oj hj ao aD=>by
     have:=aq j oj [] hj ao;exact Ck (B.flo j oj hj ao V7)
    have aa:∀h l,af h=some l->∃i o cs,all[i]? = some o/\isFloat o.op=true/\HH (i+1)=(HH i).new (.cells cs)/\k+1<=i/\ins D k i=true/\h=(HH i).n:=λh l ar=>by
     obtain⟨i,L,R,q1,q2,q3,q4,q5,q6⟩:=B.only h l ar;have:=aq i L R q1 q2;exact⟨i,L,R,q1,q2,q3,V7,Ck q5,q6⟩
    have ac:Po all (ins D k) (k+1):= .inr ⟨o,by simpa using A.get,Y,by simp[Cm]⟩;rcases Lh E.tab (E.call B.rel.base) (E.op A.get) F B.rel.rebase am with⟨N,hs⟩|⟨N,C,hH⟩
    .rw[if_pos N];left;rcases hs with⟨U,_⟩|⟨U,_⟩|⟨U,_⟩|⟨_,u⟩
     .rw[ae]at U;cases U
     .rw[ae]at U;cases U
     .rw[ae]at U;cases U
     refine MP (u _ λaN w2 v ad R2 hv=>hK _ _ (k+1) aN af ?_ ac);obtain⟨R3,ab⟩:=B.rel.back R2;have hj:(HT ag af).le (HT aN af):=λh l y=>by
      cases H:ag h with
      |some l2=>rw[zD H]at y;cases y;exact zD (ad _ _ H)
      |none=>
       rw[zC H]at y;obtain⟨i,L,R,q1,q2,q3,q4,q5,rfl⟩:=aa h l y;rw[zC (R2.fresh _ (E.mono' q4 (Nat.le_of_lt (bB q1))))];exact y
     obtain⟨p1,p2⟩:=GG a o.dst v;refine⟨hk,aw,au,R3,eZ.le_trans B.up ad,by rw[p1];exact B.defers,by rw[p2];exact B.size,A.slot E.chk z ai B.size hj B.slot (hv.le Ix),λi L R y G h3 h4 h5=> ?_,aa,B.inj⟩
     rw[Bz (aq i L R y G)]at h5;obtain⟨W,a1,a2,a3,a4,a5,a6⟩:=B.pend i L R y G h3 V7 h5;have hb:W.b<w.heap.size:=(zAh.1 a4).1;refine⟨W,a1,a2,?_,by rw[ab _ hb a3];exact a4,a5.move hj (ab _ hb a3),a6⟩
     rintro⟨h,o',l',C,ax,eb⟩;obtain⟨l2,r1,r2,_⟩:=R2.live h o' C;rw[ax]at r1;cases r1;rw[eb]at r2;rcases r2 with r2|r2
     .have:w.heap.size<=W.b:=r2;omega
     .exact a3 r2
    .rw[if_neg (by rw[N];simp)];obtain⟨p1,p2⟩:=GG a o.dst undef;refine hK _ _ (k+1) ag af ⟨hk,aw,au,by rw[hH];exact B.rel,B.up,by rw[p1];exact B.defers,by rw[p2];exact B.size,A.slot E.chk z ai B.size (eZ.le_refl _) B.slot (by rw[C];exact .un),λi L R y G h3 h4 h5=> ?_,aa,B.inj⟩ ac;rw[Bz (aq i L R y G)]at h5;rw[hH];exact B.pend i L R y G h3 V7 h5
theorem yU.done (E:x_ P tb w0 ih all n S HH gg) (I:yU w0 ρb n all (S 0) HH gg D a w t ρ pm) (b:∀i,i<all.length->D i=true):∃f,ρb.le f/\gQ w0 f (HH all.length) w/\mC f n (S all.length) a:=by
 obtain⟨d,e,k,_⟩:=I.adoptTo E (all.length - t) t all.length ρ pm (by have:=I.tm;omega) (zAg _) λj q m p c=>by
  refine⟨?_,λ_=>b j p⟩
  cases B:sN q.op with
  |false=>rfl
  |true=>have:=(I.lou j q c B).1 (b j p);omega
 refine⟨d,k.up,k.rel,k.defers,k.size,λs g A=> ?_⟩
 have r:∀h,e h=none:=λh=>by
  cases C:e h with
  |none=>rfl
  |some l=>
   obtain⟨i,H,G,m,_,_,u,_⟩:=k.only h l C;have:=bB m;omega
 have c:HT d e=d:=by
  funext h;unfold HT;rw[r];cases d h<;>rfl
 have F:SlD all (S 0) gg D s g:=by
  rcases Np E.trc all.length (zAg _) A with⟨i,o,m,p,v,u,x⟩|⟨m,p⟩
  .refine .inl ⟨i,o,b i m,p,v,u,λj q y c z=> ?_⟩;rcases zAr i j with h|h
   .exact absurd z (x j q h (bB c) c)
   .exact h
  .exact .inr ⟨λj q y c=>m j q (bB c) c,p⟩
 have:=k.slot s g F;rwa[c]at this
theorem Ym (E:x_ P tb w0 ih all n S HH gg) {Q:Exit->Act->V2->Prop} (hQ:∀c K M,ρb.le c->gQ w0 c (HH all.length) M->mC c n (S all.length) K->Q .normal K M):
  ∀(d:Nat) (L:V6 Nat) (b:Array V4) (a:Act) (w:V2) (t:Nat) (ρ pm:eZ),L.length<=d->b.size=all.length->(∀i,i<all.length->b.getD i false=false->i∈L)->Cl all (λj=>b.getD j false)->
  yU w0 ρb n all (S 0) HH gg (λj=>b.getD j false) a w t ρ pm->Po all (λj=>b.getD j false) t->Sx.wpAny P .any all.toArray Q d b a w:=by
 intro d
 induction d with
 | zero =>
  intro L b a w t ρ pm G J g m I h;have hL:L=[]:=zAn V7;subst hL;have f:∀i,i<all.length->b.getD i false=true:=λi r=>by
   cases u:b.getD i false with
   |true=>rfl
   |false=>have:=g i r u;simp at this
  refine⟨?_,?_⟩
  .rw[List.eq_nil_iff_forall_not_mem];intro i r;obtain⟨l,o,s,_⟩:=mem_ready.1 r;have W:i<all.length:=by have:=(zAh.1 s).1;simpa using this
   have:=f i W;have hs:i<b.size:=V7
   simp[hs]at this l;rw[l]at this;cases this
  .obtain⟨c,l,N,O⟩:=I.done E f;exact hQ c a w l N O
 | succ d ihf =>
  intro L b a w t ρ pm G J g m I h;refine⟨λY=> ?_,λk hk=> ?_⟩
  .have f:∀i,i<all.length->b.getD i false=true:=by
    intro i
    induction i using Nat.strongRecOn with
    | ind i ihi =>
     intro r;cases u:b.getD i false with
     |true=>rfl
     | false =>
      exfalso;have s:all[i]? = some all[i]:=zA0 r;have H:i∈Region.ready .any all.toArray b:=by
       refine mem_ready.2 ⟨?_,all[i],V8,λe R v=> ?_⟩
       .have hs:i<b.size:=V7
        simp[hs]at u ⊢;exact u
       .have U:e.on∈vT all[i]:=zAs.2 ⟨e,List.mem_filter.2 ⟨by simpa using R,v⟩,rfl⟩;have:=(E.chk.edge i _ s e.on U).1;exact ihi e.on this V7
      rw[Y]at H;simp at H
   obtain⟨c,l,N,O⟩:=I.done E f;exact hQ c a w l N O
  .obtain⟨l,o,X,q⟩:=mem_ready.1 hk;have s:all[k]? = some o:=by simpa using X
   have V:k<all.length:=bB s;have F:k<b.size:=V7
   have x:b.getD k false=false:=by simp[F]at l ⊢;exact l
   have hr:Uu all (λj=>b.getD j false) k o:=by
    refine⟨s,x,λj v B=> ?_⟩
    obtain⟨_,e,R,hej⟩:=E.chk.trans k o s j v B;obtain⟨ed,T,rfl⟩:=zAs.1 R;obtain⟨z,A⟩:=List.mem_filter.1 T;have hl:=q ed (by simpa using z) A;rcases hej with rfl|hej
    .exact hl
    .exact m _ _ hl hej B
   have y:(λj=>(b.setIfInBounds k true).getD j false)=ins (λj=>b.getD j false) k:=by
    funext j;by_cases e:j=k
    .subst e;rw[Cm];simp[F]
    .rw[Bz e];exact getD_set_ne false (Ne.symm e)
   refine I.step E m h hr λK M t' c aa I' p=>ihf (L.erase k) _ K M t' c aa ?_ (by simp[J]) (λi r u=> ?_) ?_ (by rw[y];exact I') (by rw[y];exact p)
   .have hm:=g k V x;rw[List.length_erase_of_mem hm];omega
   .have e:i≠k:=λe=>by
     subst e;have:=congrFun y i;rw[Cm]at this;rw[u]at this;cases this
    have:b.getD i false=false:=by
     have:=congrFun y i;rw[Bz e]at this;rw[<-this];exact u
    exact(List.mem_erase_of_ne e).2 (g i r this)
   .rw[y];intro j k' B v C;by_cases e:j=k
    .subst e;exact Ck (hr.past k' v C)
    .rw[Bz e]at B;exact Ck (m j k' B v C)
theorem P_ (hG:gA P tb) (e:∀w0:fM gs,tR P w0 ih) (hm:P.follows .mixedOrders=true) {b:V6 V5} {id:Nat} (f:b.all (JI n)=true) (N:chkF tb b (qF b)=true) {k:GS->RS} {s:GS} {p:RB} {ρ:eZ} {a:Act} {w:V2} {Q:Exit->Act->V2->Prop} (F:mC ρ n s.σ a) (R:gQ w0 ρ s.H w) (h:(He tb ih b k b s=some p/\GA b o_=true)\/evW tb ih b (qF b) k b 0 [] [] s=some p)
  (r:∀G m I L,k G=some p->ρ.le m->mC m n G.σ I->gQ w0 m G.H L->Q .normal I L):(Code.region id b.toArray true).wpr none P Q a w:=by
 have W:b.all kD=true:=zA7.2 λo U=>(vF (zA7.1 f o U)).1;obtain⟨S,HH,gg,z,A,T,C,c⟩:∃S HH gg,S 0=s.σ/\HH 0=s.H/\Trc tb ih b b S HH gg/\(∀k y h v,b[k]? = some y->o_ y.op=true->ldH (S k) y.op=some h->(HH k).ver h=some v->
   (∀j u,j<k->b[j]? = some u->fI u.op=true->before (qF b) k j=false->(HH j).ver h=some v)/\(∀j u,k<j->b[j]? = some u->fI u.op=true->before (qF b) j k=false->(HH (j+1)).ver h=some v))/\k ⟨S b.length,HH b.length⟩=some p:=by
  rcases h with⟨h,ho⟩|h
  .obtain⟨S,HH,gg,z,A,T,c⟩:=Ol b s h;refine⟨S,HH,gg,z,A,T,λk y h v r K _ _=>⟨λj u O q x B=> ?_,λj u O q x B=> ?_⟩,c⟩
   .rcases IC ho r q K x with d|d
    .rw[d]at B;cases B
    .have:=((Jp N).trans j u q k d (bB r)).1;omega
   .rcases IC ho r q K x with d|d
    .have:=((Jp N).trans k y r j d (bB q)).1;omega
    .rw[d]at B;cases B
  .obtain⟨S,HH,gg,z,A,T,V,c⟩:=Li b 0 [] [] s h;exact⟨S,HH,gg,z,A,T,λk y h v r K hh hv=>by have:=V.lo k y h v r K hh hv;simpa using this,c⟩
 rw[<-z]at F;rw[<-A]at R;have E:x_ P tb w0 ih b n S HH gg:=⟨hG,e,f,Jp N,T,C,OO hG (e w0) f T F R _ (zAg _)⟩
 have J:∀j,(Array.replicate b.length false).getD j false=false:=λj=>by
  by_cases h:j<b.length<;>simp[h]
 refine Gh W hm ?_;have Y:b.toArray.size=b.length:=V8
 rw[Y];refine Ym (ρb:=ρ) E (λm I L h0 d M=>r ⟨S b.length,HH b.length⟩ m I L c h0 M d) b.length (List.range b.length) _ a _ 0 ρ (λ_=>none) V8 V8 (λi hi _=>zAi.2 hi) (λj k' q=>by simp only[J]at q;cases q) ?_ (.inl Z);refine⟨Nat.zero_le _,λj o _ _=>by simp only[J];simp,λj o _ _ h=>absurd h (Nat.not_lt_zero j),R.ext' ((Below.refl _ _).drew),eZ.le_refl _,F.defers,F.size,λG g hs=> ?_,λi o cs _ _ _ _ h5=>(by simp only[J]at h5;cases h5),λh l X=>(by cases X),λh h' l l' X=>(by cases X)⟩
 rcases hs with⟨i,o,d,_⟩|⟨_,M⟩
 .simp only[J]at d;cases d
 .exact(F.slot G g M).le Ix
end
def Jh (c:TB) (n:Nat):Code->V4
 | .skip | .exit _ | .ret=>true
 | .region _ ops dr=>ops.toList.all (JI n)&&(!dr||chkF c ops.toList (qF ops.toList))
 | .seq a b=>Jh c n a&&Jh c n b
 | .cond _ a b=>Jh c n a&&Jh c n b
 | .block _ b=>Jh c n b
 | .loop b=>Jh c n b
 |_=>false
section
variable {P:Program} {G:GP} {tb:TB} {Fs:FT} {gs:AZ} {w0:fM gs}
def Fi (P:Program) (c:Code) (Q:Exit->Act->V2->Prop) (a:Act) (w:V2):Prop:=
 ∀(b:Frame) (k:V6 Item) (d:V6 Frame),b.roundOf=(FR none).round->(FR none).fn b.fn->(FR none).room (d.length+1+0)->
  ∃e f g,Q e f g/\ArrivesIn (Machine.fenced P (FR none)) P (lone (b.atR a (.code c :: .inLoop c::k)) d w) b k d e f g
theorem Fi.loop {c:Code} {Q:Exit->Act->V2->Prop} {a:Act} {w:V2} (h:Fi P c Q a w):(Code.loop c).wpr none P Q a w:=by
 intro b k l f g i;obtain⟨e,j,n,m,d⟩:=h b k l f g i;exact⟨e,j,n,m,.of_steps (.one (fenced_calm g i Z) stepR_loop) d⟩
theorem Fi.round {c:Code} {Q:Exit->Act->V2->Prop} {a:Act} {w:V2} (h:c.wpr none P (Exit.then (Fi P c Q) Q) a w):Fi P c Q a w:=by
 intro b k t p r s;obtain⟨e,f,g,m,d⟩:=h b (.inLoop c::k) t p r s;cases e with
 |normal=>
  obtain⟨o,n,q,j,i⟩:=m b k t p r s;exact⟨o,n,q,j,.of_steps (StepsIn.trans d (.one (fenced_calm r s Z) stepR_inLoop)) i⟩
 |exit id=>exact⟨_,f,g,m,.pass (x:= .inLoop c) Z (λ_ _=> .inl V8) d⟩
 |goto l=>exact⟨_,f,g,m,.pass (x:= .inLoop c) Z (λ_ _=> .inl V8) d⟩
 |ret=>exact⟨_,f,g,m,.pass (x:= .inLoop c) Z (λ_ _=> .inl V8) d⟩
 |panic u=>exact⟨_,f,g,m,.pass (x:= .inLoop c) Z (λ_ _=> .inl V8) d⟩
 |outgrown=>exact⟨_,f,g,m,.pass (x:= .inLoop c) Z (λ_ _=> .inl V8) d⟩
noncomputable def Lj (a:Cx) (id:Nat) (s:GS):RS:=some ⟨.exit id,DY s.σ (mN (Dt a.env id)),s.H⟩
structure Zy {gs:AZ} (w0:fM gs) (tb:TB) (n:Nat) (cx:Cx) (k:GS->RS) (out:RB) (ρ:eZ) (Q:Exit->Act->World->Prop):Prop where
 k:∀s' ρ' a' w',k s'=some out->ρ.le ρ'->mC ρ' n s'.σ a'->gQ w0 ρ' s'.H w'->Q .normal a' w'
 x:∀id s' ρ' a' w',Lj cx id s'=some out->ρ.le ρ'->mC ρ' n s'.σ a'->gQ w0 ρ' s'.H w'->Q (.exit id) a' w'
 r:∀s' ρ' a' w',Vv tb cx s'=some out->ρ.le ρ'->mC ρ' n s'.σ a'->gQ w0 ρ' s'.H w'->Q .ret a' w'
def Jm (P:Program) {gs:AZ} (w0:fM gs) (tb:TB) (l:LH):Prop:=∀b h j H d,l b h j H=some d->∀n k i a w Q,Jh tb n b=true->lB (mN (live (.loop b) 0 h)) j some=some k->mC i n k a->gQ w0 i H w->
 (∀id e c f g,Lj h id e=some d->i.le c->mC c n e.σ f->gQ w0 c e.H g->Q (.exit id) f g)->
 (∀e c f g,Vv tb h e=some d->i.le c->mC c n e.σ f->gQ w0 c e.H g->Q .ret f g)->Fi P b Q a w
theorem QB {b:Cx} {s:GS} {a:RB} (h:Vv tb b s=some a):a.e = .ret:=by
 obtain⟨c,_,h⟩:=aE.1 (show ob (Tp tb s b.res) _=some a from h);cases h;rfl
theorem Cb {b:Cx} {id:Nat} {s:GS} {a:RB} (h:Lj b id s=some a):a.e = .exit id:=by cases h;rfl
theorem Vu {b:V6 Nat} {s:GS} {a:RB} (h:II b s=some a):a.e = .normal/\a.vs=DY s.σ b/\a.H=s.H:=by cases h;exact⟨rfl,rfl,rfl⟩
theorem Ve {n:Nat} {m:Cx} {j:V6 Nat} {k:GS->RS} {o b:RB} {l:eZ} {Q:Exit->Act->V2->Prop} (L:Zy w0 tb n m k b l Q) (h:lB j o.vs (λg=>k ⟨g,o.H⟩)=some b) {c:GS} {a:eZ} {d:Act} {f:V2}
  (r:o.vs=DY c.σ j) (q:o.H=c.H) (e:l.le a) (F:mC a n c.σ d) (R:gQ w0 a c.H f):Q .normal d f:=by
 obtain⟨g,i,p⟩:=sG h;rw[r]at i;exact L.k ⟨g,o.H⟩ a d f p e (Lr F i) (by rw[q];exact R)
theorem Es {M:CH} {W:LH} (O:gA P tb) (V:P.follows .mixedOrders=true) (j:∀w0:fM gs,tR P w0 M) (p:Jm P w0 tb W) {n:Nat}:∀(c:Code) (m:Nat) (f:Cx) (k:GS->RS) (s:GS) (d:RB) (q:eZ) (a:Act) (w:V2) (Q:Exit->Act->V2->Prop),
  Jh tb n c=true->evC tb M W c m f k s=some d->mC q n s.σ a->gQ w0 q s.H w->Zy w0 tb n f k d q Q->c.wpr none P Q a w
 | .skip,m,f,k,s,d,q,a,w,Q,_,h,F,R,L=>Ud (L.k s q a w h (eZ.le_refl _) F R)
 | .region id ops dr, m, f, k, s, d, q, a, w, Q, ho, h, F, R, L => by
  have l:ops.toList.all (JI n)=true/\(!dr||chkF tb ops.toList (qF ops.toList))=true:=by simpa [Jh]using ho
  have ad:ops.toList.all kD=true:=zA7.2 λo ac=>(vF (zA7.1 l.1 o ac)).1;have N:Bool.casesOn (motive:=λ_=>RS) (aiK dr ops.toList) (He tb M ops.toList k ops.toList s) (evW tb M ops.toList (qF ops.toList) k ops.toList 0 [] [] s)=some d:=h;have e:ops=ops.toList.toArray:=V8
  cases dr with
  |false=>
   rw[e];exact uS ad (Ir O (j w0) ops.toList s q a w l.1 F R N L.k)
  | true =>
   rw[e];have hF:chkF tb ops.toList (qF ops.toList)=true:=by simpa using l.2
   have u:(He tb M ops.toList k ops.toList s=some d/\GA ops.toList o_=true)\/evW tb M ops.toList (qF ops.toList) k ops.toList 0 [] [] s=some d:=by
    cases T:aiK true ops.toList with
    |true=>rw[T]at N;exact .inr N
    |false=>
     rw[T]at N;have:(!GA ops.toList o_)=false:=T;exact .inl ⟨N,by simpa using this⟩
   exact P_ O j V l.1 hF F R u L.k
 | .seq x y,m,f,k,s,d,q,a,w,Q,ho,h,F,R,L=>by
  have l:Jh tb n x=true/\Jh tb n y=true:=by simpa [Jh]using ho
  refine XK (Es O V j p x (live y m f) f (evC tb M W y m f k) s d q a w _ l.1 h F R ⟨λA t E I z g B C=> ?_,L.x,L.r⟩);exact Es O V j p y m f k A d t E I Q l.2 z B C ⟨λs2 K X w2 J u=>L.k s2 K X w2 J (eZ.le_trans g u),λid s2 K X w2 J u=>L.x id s2 K X w2 J (eZ.le_trans g u),λs2 K X w2 J u=>L.r s2 K X w2 J (eZ.le_trans g u)⟩
 | .cond x thn els, m, f, k, s, d, q, a, w, Q, ho, h, F, R, L => by
  have l:Jh tb n thn=true/\Jh tb n els=true:=by simpa [Jh]using ho
  obtain⟨v,hv,h⟩:=aE.1 (show ob (lF s.σ x) _=some d from h);obtain⟨b,U,h⟩:=aE.1 h;obtain⟨o,J,h⟩:=aE.1 (show ob _ (λo=>Ex.casesOn (motive:=λ_=>RS) o.e (lB (mN m) o.vs λσ=>k ⟨σ,o.H⟩) (λ_=>some o) (some o))=some d from h);have hx:=cM F hv;rw[Do U]at hx;have L':Zy w0 tb n f (II (mN m)) o q Q:=by
   refine⟨λA t E I z g B C=> ?_,λid A t E I z g B C=> ?_,λA t E I z g B C=> ?_⟩
   .obtain⟨D,e2,e3⟩:=Vu z;rw[D]at h;exact Ve L h e2 e3 g B C
   .have D:=Cb z;rw[D]at h;cases h;exact L.x id A t E I z g B C
   .have D:=QB z;rw[D]at h;cases h;exact L.r A t E I z g B C
  refine Gg hx.bool_inv (λab=> ?_) (λaa=> ?_)
  .rw[ab]at J;exact Es O V j p thn m f (II (mN m)) s o q a w Q l.1 J F R L'
  .rw[aa]at J;exact Es O V j p els m f (II (mN m)) s o q a w Q l.2 J F R L'
 | .block id b, m, f, k, s, d, q, a, w, Q, ho, h, F, R, L => by
  have l:Jh tb n b=true:=by simpa [Jh]using ho
  obtain⟨o2,u,h⟩:=aE.1 (show ob (nB id (evC tb M W b m ⟨f.res,f.retm,(id,m)::f.env⟩ (II (mN m)) s)) (λo=>Ex.casesOn (motive:=λ_=>RS) o.e (lB (mN m) o.vs λσ=>k ⟨σ,o.H⟩) (λ_=>some o) (some o))=some d from h);obtain⟨o,J,u⟩:=aE.1 (show ob (evC tb M W b m ⟨f.res,f.retm,(id,m)::f.env⟩ (II (mN m)) s) (λo=>Ex.casesOn (motive:=λ_=>RS) o.e (some o) (λi=>Bool.casesOn (motive:=λ_=>RS) (Nat.beq i id) (some o) (some ⟨.normal,o.vs,o.H⟩)) (some o))=some o2 from u);refine Pa (Es O V j p b m _ (II (mN m)) s o q a w _ l J F R ⟨λA t E I z g B C=> ?_,λi A t E I z g B C=> ?_,λA t E I z g B C=> ?_⟩)
  .obtain⟨D,e2,e3⟩:=Vu z;rw[D]at u;cases u;rw[D]at h;exact Ve L h e2 e3 g B C
  .have D:=Cb z;rw[D]at u;by_cases hi:i=id
   .subst hi;have U:Nat.beq i i=true:=V8
    simp only[U]at u;cases u;show Exit.inBlock i Q (.exit i) E I;simp only[Exit.inBlock,if_true];have S:o=⟨.exit i,DY A.σ (mN (Dt ((i,m)::f.env) i)),A.H⟩:=by cases z;rfl
    have he:Dt ((i,m)::f.env) i=m:=by
     show(bif Nat.beq i i then m else Dt f.env i)=m;rw[U];rfl
    rw[he]at S;exact Ve (o:=⟨.normal,o.vs,o.H⟩) L h (by rw[S]) (by rw[S]) g B C
   .have U:Nat.beq i id=false:=oC hi;simp only[U]at u;cases u;rw[D]at h;cases h;show Exit.inBlock id Q (.exit i) E I;simp only[Exit.inBlock,if_neg hi];refine L.x i A t E I ?_ g B C;have he:Dt ((id,m)::f.env) i=Dt f.env i:=by
     show(bif Nat.beq id i then m else Dt f.env i)=_;rw[oC (Ne.symm hi)];rfl
    rw[<-z];show Lj f i A=some ⟨.exit i,DY A.σ (mN (Dt ((id,m)::f.env) i)),A.H⟩;rw[he];rfl
  .have D:=QB z;rw[D]at u;cases u;rw[D]at h;cases h;exact L.r A t E I z g B C
 | .loop b,m,f,k,s,d,q,a,w,Q,ho,h,F,R,L=>by
  have l:Jh tb n b=true:=by simpa [Jh]using ho
  have N:W b f (DY s.σ (mN (live (.loop b) 0 f))) s.H=some d:=h;have ae:=Qz s.σ (mN (live (.loop b) 0 f));obtain⟨σ,Y⟩:=ae;exact Fi.loop (p b f _ s.H d N n σ q a w Q l Y (Lr F Y) R L.x L.r)
 | .exit id,m,f,k,s,d,q,a,w,Q,_,h,F,R,L=>Uc (L.x id s q a w h (eZ.le_refl _) F R)
 | .ret,m,f,k,s,d,q,a,w,Q,_,h,F,R,L=>XJ (L.r s q a w h (eZ.le_refl _) F R)
 | .rangeFunc _ _ _ _,m,f,k,s,d,q,a,w,Q,ho,_,_,_,_=>by simp[Jh]at ho
 | .scope _,m,f,k,s,d,q,a,w,Q,ho,_,_,_,_=>by simp[Jh]at ho
 | .label _,m,f,k,s,d,q,a,w,Q,ho,_,_,_,_=>by simp[Jh]at ho
 | .goto _,m,f,k,s,d,q,a,w,Q,ho,_,_,_,_=>by simp[Jh]at ho
 | .refuse _,m,f,k,s,d,q,a,w,Q,ho,_,_,_,_=>by simp[Jh]at ho
theorem afw (j:gA P tb) {n:Nat} {s:GS} {f:eZ} {a:Act} {w:V2} (F:mC f n s.σ a) (R:gQ w0 f s.H w) {r:ResultVar} {g:GV} (h:aiu tb s r=some g):∃v,Rl f g v/\(Hi a.tmps r).run P w = .ok v w:=by
 cases r with
 |tmp t=>exact⟨_,F.slot t g h,by simp[Hi,Act.eval]⟩
 |cell q T=>
  obtain⟨v,m,h⟩:=aE.1 (show ob (GQ s.σ q) _=some g from h);have d:=F.slot q v m;obtain⟨x,_,_,_,_,_,o,c⟩:=Nr (P:=P) j R d h;have c:=c w Z;refine⟨x,o,?_⟩
  obtain⟨p,k,_⟩:=aE.1 (show ob v.asP _=some g from h);rw[Fu k]at d;obtain⟨l,u,e⟩:=d.ptr_inv;have i:a.tmps.getD q undef = .pointer (some ⟨l.b,l.off+p.2,none⟩):=e;rw[e]at c;simp only[Instr.loadAt,Instr.sureAddr]at c;simp only[Hi,i,asAddr];simpa using c
theorem Tq (f:gA P tb) {n:Nat} {s:GS} {e:eZ} {a:Act} {w:V2} (F:mC e n s.σ a) (R:gQ w0 e s.H w):∀{l:V6 ResultVar} {gs:V6 GV},Tp tb s l=some gs->∃b,qE e gs b/\(l.mapM (Hi a.tmps)).run P w = .ok b w
 | [],gs,h=>by cases h;exact⟨[],.nil,V8⟩
 |r::l,gs,h=>by
  obtain⟨g,m,h⟩:=aE.1 (show ob (aiu tb s r) (λv=>ob (Tp tb s l) λb=>some (v::b))=some gs from h);obtain⟨i,c,h⟩:=aE.1 h;cases h;obtain⟨v,o,j⟩:=afw (P:=P) f F R m;obtain⟨b,d,k⟩:=Tq f F R c;exact⟨v::b,.cons o d,by simp[List.mapM_cons,j,k]⟩
theorem abS {b:eZ} {gs:V6 GV} {a:V6 V0} (h:qE b gs a):Rl b (YI gs) (if h:a.toArray.size=1 then a.toArray[0]else .tuple a.toArray):=by
 cases gs with
 |nil=>rw[h.of_nil];exact KZ .nil
 | cons g gs =>
  obtain⟨v,a,rfl,c,d⟩:=h.of_cons;cases gs with
  |nil=>rw[d.of_nil];show Rl b g _;simpa using c
  |cons j gs=>
   obtain⟨k,i,rfl,e,f⟩:=d.of_cons;rw[dif_neg V8];exact KZ (.cons c (.cons e f))
theorem IJ (j:gA P tb) {fn:Func} {c:Cx} (d:c.res=fn.results.toList) {n:Nat} {s:GS} {g:eZ} {a:Act} {w:V2} {b:RB} (F:mC g n s.σ a) (R:gQ w0 g s.H w) (h:Vv tb c s=some b):b.H=s.H/\∃v,Rl g (YI b.vs) v/\(results fn a.tmps).run P w = .ok v w:=by
 obtain⟨gs,e,h⟩:=aE.1 (show ob (Tp tb s c.res) _=some b from h);cases h;obtain⟨l,f,i⟩:=Tq (P:=P) j F R e;rw[d]at i;refine⟨rfl,_,abS f,?_⟩
 rw[Cs];have k:(fn.results.mapM (Hi a.tmps)).run P w = .ok l.toArray w:=by
  rw[Array.mapM_eq_mapM_toList];simp[i]
 simp[k]
structure VU (P:Program) (G:GP) (Fs:FT) {gs:AZ} (w0:fM gs):Prop where
 tab:gA P G.tab
 mixed:P.follows .mixedOrders=true
 fns:∀{f fn},Fs f=some fn->P.funcs[f]? = some fn/\aU P f/\(∀c,fn.body=some c->Jh G.tab fn.ntmps c=true)/\fn.params.size+fn.nfree<=fn.ntmps
 ext:∀{f us H g H'},G.ext f us H=some (g,H')->∀ρ w vs,gQ w0 ρ H w->qE ρ us vs->lK P w0 ρ f vs w g H'
 exn:∀{f us g},G.exn f us=some g->∀ρ w vs H,gQ w0 ρ H w->qE ρ us vs->lK P w0 ρ f vs w g H
 /-- the function that catches returns 0 and 0 if its argument returns;its two variables are new objects -/
 cat:∀{ρ:eZ} {g us cs w H H' c1 c2},gQ w0 ρ H w->(∀ρ' w',ρ.le ρ'->gQ w0 ρ' ((H.new (.cells [Ai])).new (.cells [Ai])) w'->∃x,lK P w0 ρ' g (us++cs) w' x H')->H'.cells H.n=some [c1]->H'.cells (H.n+1)=some [c2]->
  lK P w0 ρ G.cat [.func (.func g) us.toArray cs.toArray] w (.tup [Ai,Ai]) ((((H'.set H.n (.cells [Ai])).set (H.n+1) (.cells [Ai])).del H.n).del (H.n+1))
def Zl (P:Program) {gs:AZ} (w0:fM gs) (h:IH):Prop:=∀f d H a,h (.fn f) d H=some a->a.e = .ret->∀c w g,gQ w0 c H w->qE c d g->
 aU P f/\Calls P f g.toArray w λe i=>∃v b,e = .returned v/\c.le b/\gQ w0 b a.H i/\Rl b (YI a.vs) v
theorem Se {d:IH} (h:Zl P w0 d):tR P w0 (ajj d):=λf i H g j m q w p R n=>by
 obtain⟨o,k,b⟩:=aE.1 (show ob (d (.fn f) i H) _=some (g,j)from m);cases c:o.e with
 |normal=>rw[c]at b;cases b
 |exit id=>rw[c]at b;cases b
 |ret=>
  rw[c]at b;cases b;obtain⟨l,a⟩:=h f i H o k c q w p R n;exact .inr ⟨l _ w,a⟩
theorem Me {B:IH} (j:VU P G Fs w0) (h:Zl P w0 B):tR P w0 (Fv G B):=λf b H g z a t w i R e=>by
 unfold Fv callQ at a;cases c:Nat.beq f G.cat with
 | false =>
  rw[c]at a;cases n:G.ext f b H with
  |some r=>
   simp only[n]at a;cases a;exact j.ext n t w i R e
  | none =>
   simp only[n]at a;cases s:G.exn f b with
   |some r=>
    simp only[s]at a;cases a;exact j.exn s t w i _ R e
   |none=>
    simp only[s]at a;exact Se h f b H g z a t w i R e
 | true =>
  rw[c]at a;have c:=zA6 c;subst c;cases b with
  |nil=>cases a
  | cons u b =>
   cases b with
   |cons _ _=>cases a
   |nil=>
    obtain⟨p,F,a⟩:=aE.1 (show ob u.asF _=some (g,z)from a);rw[jM,jM]at a;obtain⟨x,J,a⟩:=aE.1 a;obtain⟨O,k,a⟩:=aE.1 a;obtain⟨Q,l,a⟩:=aE.1 a;obtain⟨o,a⟩:=bV.1 a;obtain⟨q,a⟩:=bV.1 a;rw[Ap,Ap,Hs,Hs]at a;cases a;obtain⟨M,rfl⟩:=List.length_eq_one_iff.1 (zA6 o);obtain⟨N,rfl⟩:=List.length_eq_one_iff.1 (zA6 q);obtain⟨v,i,rfl,A,E⟩:=e.of_cons;rw[E.of_nil];rw[aaa F]at A;obtain⟨K,D,rfl,I,m⟩:=A.fn_inv;exact j.cat R (λy L d C=>⟨x.1,Se h p.1 _ _ x.1 x.2 J y L _ C ((I.le d).append (m.le d))⟩) k l
theorem ahP {x:IH} (p:∀w0:fM gs,VU P G Fs w0) (B:∀w0:fM gs,Zl P w0 x) (l:Jm P w0 G.tab λb z=>x (.loop b z)) {f:Nat} {i:Func} {K:V6 GV} {H:GH} {d:RB} (T:Fs f=some i) (h:Yj G.tab (Fv G x) (λb z=>x (.loop b z)) i K H=some d) (S:d.e = .ret) {u:eZ} {w:V2} {t:V6 V0} (R:gQ w0 u H w) (I:qE u K t):
  aU P f/\Calls P f t.toArray w λe y=>∃v a,e = .returned v/\u.le a/\gQ w0 a d.H y/\Rl a (YI d.vs) v:=by
 obtain⟨M,N,O,Q⟩:=(p w0).fns T;refine⟨N,?_⟩
 obtain⟨k,E,h⟩:=aE.1 (show ob i.body _=some d from h);obtain⟨L,m,h⟩:=sG h;rw[List.range_eq_range']at m;have s:=LV m;have U:t.length<=i.ntmps:=by rw[<-I.len,s];exact Q
 refine uV M E ?_;have F:mC u i.ntmps L {tmps:=t.toArray++Array.replicate (i.ntmps - t.toArray.size) undef,defers:=[]}:=by
  refine Pz Z Q1 I (λj v q=> ?_) m;have C:=bB q;rw[Nat.zero_add,zBi (by simpa using C)];simpa using q
 refine Es (p w0).tab (p w0).mixed (λw0=>Me (p w0) (B w0)) l k _ _ _ ⟨L,H⟩ d u _ w _ (O k E) h F R ⟨λJ a D y r c n o=> ?_,λid J a D y r c n o=> ?_,λJ a D y r c n o=> ?_⟩
 .obtain⟨A,v,q,g⟩:=IJ (fn:=i) (p w0).tab Z n o r;exact Sx.body_end (.inr Z) n.defers g ⟨v,a,rfl,c,by rw[A];exact o,q⟩
 .have:=Cb r;rw[S]at this;cases this
 .obtain⟨A,v,q,g⟩:=IJ (fn:=i) (p w0).tab Z n o r;exact Sx.body_end (.inl Z) n.defers g ⟨v,a,rfl,c,by rw[A];exact o,q⟩
theorem aiy (B:∀w0:fM gs,VU P G Fs w0):∀(c:Nat) (w0:fM gs),Zl P w0 (run G Fs c)/\Jm P w0 G.tab λb d=>run G Fs c (.loop b d):=by
 intro c
 induction c with
 |zero=>exact λw0=>⟨λf us H i h=>(by cases h),λb d K H i h=>(by cases h)⟩
 | succ c ih =>
  have z:∀w0:fM gs,Zl P w0 (run G Fs c):=λw0=>(ih w0).1;intro w0;have q:=(ih w0).2;refine⟨λf us H i h he V w K R hr=> ?_,λb d K H i h n O V a w Q T I F R U k=> ?_⟩
  .obtain⟨fn,E,h⟩:=aE.1 (show ob (Fs f) _=some i from h);exact ahP B z q E h he R hr
  .have D:lB (mN (live (.loop b) 0 d)) K (λO=>ob (evC G.tab (Fv G (run G Fs c)) (λb d=>run G Fs c (.loop b d)) b (live (.loop b) 0 d) d (II (mN (live (.loop b) 0 d))) ⟨O,H⟩) λo=>Ex.casesOn (motive:=λ_=>RS) o.e (run G Fs c (.loop b d) o.vs o.H) (λ_=>some o) (some o))=some i:=h;obtain⟨aa,l,D⟩:=sG D;rw[I]at l;cases l;obtain⟨o,Y,s⟩:=aE.1 D;refine Fi.round (Es (B w0).tab (B w0).mixed (λw0=>Me (B w0) (z w0)) q b _ d _ ⟨O,H⟩ o V a w _ T Y F R ⟨λt j x A p g u v=> ?_,λid t j x A p g u v=> ?_,λt j x A p g u v=> ?_⟩)
   .obtain⟨y,W,X⟩:=Vu p;rw[y,W,X]at s;obtain⟨S,m⟩:=Qz t.σ (mN (live (.loop b) 0 d));exact q b d _ t.H i s n S j x A Q T m (Lr u m) v (λid J r C L M N=>U id J r C L M (eZ.le_trans g N)) (λJ r C L M N=>k J r C L M (eZ.le_trans g N))
   .have y:=Cb p;rw[y]at s;cases s;exact U id t j x A p g u v
   .have y:=QB p;rw[y]at s;cases s;exact k t j x A p g u v
theorem Il (e:∀w0:fM gs,VU P G Fs w0) {a f:Nat} {c:V6 GV} {H H':GH} {g:GV} (h:WC G Fs a f c H=some (g,H')) {b:eZ} {w:V2} {d:V6 V0} (R:gQ w0 b H w) (i:qE b c d):lK P w0 b f d w g H':=
 Me (e w0) (aiy e a w0).1 f c H g H' h b w d R i
theorem gQ.start (b:fM gs) (c:gs.env=[]):gQ b (λ_=>none) H0 b.w:=⟨DI.refl _,λh o a=>(by cases a),λh g o k l j a=>(by cases a),λ_ _=>rfl,λh d=>absurd d (Nat.not_lt_zero h),λh v l f=>(by cases f),λi v e=>by rw[c]at e;simp at e⟩
end
end Go.Gx
namespace Go.Gx
open Go Go.Sx
noncomputable section
def oN (a:V6 GV) (H:GH):RS:=some ⟨.normal,a,H⟩
def oX (id:Nat) (a:V6 GV) (H:GH):RS:=some ⟨.exit id,a,H⟩
def oR (a:V6 GV) (H:GH):RS:=some ⟨.ret,a,H⟩
def jn (r:RS) (k:V6 GV->GH->RS):RS:=ob r λo=>Ex.casesOn (motive:=λ_=>RS) o.e (k o.vs o.H) (λ_=>some o) (some o)
def rG (v:GV) (b:V4) (H:GH) (X:OR):OR:=GV.casesOn (motive_1:=λ_=>OR) v (λ_ _=>none) (λq=>Bool.casesOn (motive:=λ_=>OR) (WL q b) (some (.un,H)) X) (λ_ _=>none) (λ_ _=>none) none (λ_ _ _ _=>none) none (λ_=>none) (λ_ _ _=>none) none none (λ_=>none) (λ_=>none) (some (.un,H)) none (λ_=>none)
def U0 {R:Type} (a:V6 GV) (f:V1 R):V1 R:=List.casesOn (motive:=λ_=>V1 R) a (f) λ_ _=>none
def U1 {R:Type} (b:V6 GV) (f:GV->V1 R):V1 R:=List.casesOn (motive:=λ_=>V1 R) b none λa c=>List.casesOn (motive:=λ_=>V1 R) c (f a) λ_ _=>none
def U2 {R:Type} (c:V6 GV) (f:GV->GV->V1 R):V1 R:=List.casesOn (motive:=λ_=>V1 R) c none λa d=>List.casesOn (motive:=λ_=>V1 R) d none λb e=>List.casesOn (motive:=λ_=>V1 R) e (f a b) λ_ _=>none
def U3 {R:Type} (d:V6 GV) (f:GV->GV->GV->V1 R):V1 R:=List.casesOn (motive:=λ_=>V1 R) d none λa e=>List.casesOn (motive:=λ_=>V1 R) e none λb g=>List.casesOn (motive:=λ_=>V1 R) g none λc h=>List.casesOn (motive:=λ_=>V1 R) h (f a b c) λ_ _=>none
def U4 {R:Type} (e:V6 GV) (f:GV->GV->GV->GV->V1 R):V1 R:=List.casesOn (motive:=λ_=>V1 R) e none λa g=>List.casesOn (motive:=λ_=>V1 R) g none λb h=>List.casesOn (motive:=λ_=>V1 R) h none λc i=>List.casesOn (motive:=λ_=>V1 R) i none λd j=>List.casesOn (motive:=λ_=>V1 R) j (f a b c d) λ_ _=>none
def U5 {R:Type} (g:V6 GV) (f:GV->GV->GV->GV->GV->V1 R):V1 R:=List.casesOn (motive:=λ_=>V1 R) g none λa h=>List.casesOn (motive:=λ_=>V1 R) h none λb i=>List.casesOn (motive:=λ_=>V1 R) i none λc j=>List.casesOn (motive:=λ_=>V1 R) j none λd k=>List.casesOn (motive:=λ_=>V1 R) k none λe l=>List.casesOn (motive:=λ_=>V1 R) l (f a b c d e) λ_ _=>none
def U6 {R:Type} (h:V6 GV) (f:GV->GV->GV->GV->GV->GV->V1 R):V1 R:=List.casesOn (motive:=λ_=>V1 R) h none λa i=>List.casesOn (motive:=λ_=>V1 R) i none λb j=>List.casesOn (motive:=λ_=>V1 R) j none λc k=>List.casesOn (motive:=λ_=>V1 R) k none λd l=>List.casesOn (motive:=λ_=>V1 R) l none λe m=>List.casesOn (motive:=λ_=>V1 R) m none λg n=>List.casesOn (motive:=λ_=>V1 R) n (f a b c d e g) λ_ _=>none
def U7 {R:Type} (i:V6 GV) (f:GV->GV->GV->GV->GV->GV->GV->V1 R):V1 R:=List.casesOn (motive:=λ_=>V1 R) i none λa j=>List.casesOn (motive:=λ_=>V1 R) j none λb k=>List.casesOn (motive:=λ_=>V1 R) k none λc l=>List.casesOn (motive:=λ_=>V1 R) l none λd m=>List.casesOn (motive:=λ_=>V1 R) m none λe n=>List.casesOn (motive:=λ_=>V1 R) n none λg o=>List.casesOn (motive:=λ_=>V1 R) o none λh p=>List.casesOn (motive:=λ_=>V1 R) p (f a b c d e g h) λ_ _=>none
def U9 {R:Type} (k:V6 GV) (f:GV->GV->GV->GV->GV->GV->GV->GV->GV->V1 R):V1 R:=List.casesOn (motive:=λ_=>V1 R) k none λa l=>List.casesOn (motive:=λ_=>V1 R) l none λb m=>List.casesOn (motive:=λ_=>V1 R) m none λc n=>List.casesOn (motive:=λ_=>V1 R) n none λd o=>List.casesOn (motive:=λ_=>V1 R) o none λe p=>List.casesOn (motive:=λ_=>V1 R) p none λg q=>List.casesOn (motive:=λ_=>V1 R) q none λh r=>List.casesOn (motive:=λ_=>V1 R) r none λi s=>List.casesOn (motive:=λ_=>V1 R) s none λj t=>List.casesOn (motive:=λ_=>V1 R) t (f a b c d e g h i j) λ_ _=>none
def VC:rR->Code->Code
 | [],c=>c
 |0::p,.seq a _=>VC p a
 |1::p,.seq _ b=>VC p b
 |0::p,.cond _ a _=>VC p a
 |1::p,.cond _ _ b=>VC p b
 |0::p,.block _ b=>VC p b
 |0::p,.loop b=>VC p b
 |_,c=>c
def dK (a:Func) (p:rR):Code:=match a.body with
 |some c=>VC p c
 |none=> .skip
def jW (b:Func) (a:I_):Cx:=⟨b.results.toList,Ls b.results.toList,a⟩
abbrev gS:=CH->QH->V6 GV->GH->RS
structure If where
 fn:Nat->Option (Func×gS)
 lp:Nat->Option ((Code×Cx)×gS)
def If.fns (T:If) (f:Nat):V1 Func:=ob (T.fn f) λe=>some e.1
def If.loop (T:If) (a:LH):QH:=λi vs H=>ob (T.lp i) λe=>a e.1.1 e.1.2 vs H
def rr (T:If) (G:GP) (n:Nat):V4->QH:=Nat.rec (motive:=λ_=>V4->QH) (λ_ _ _ _=>none) (λ_ a b t c H=>Bool.casesOn (motive:=λ_=>RS) b (ob (T.fn t) λe=>e.2 (callQ G (a false)) (a true) c H) (ob (T.lp t) λe=>e.2 (callQ G (a false)) (a true) c H)) n
structure LP (T:If) (tb:TB):Prop where
 fn:∀{f e},T.fn f=some e->∀(c:CH) (lp:LH) us H,e.2 c (T.loop lp) us H=Yj tb c lp e.1 us H
 lp:∀{i e},T.lp i=some e->∀(c:CH) (lp:LH) us H,e.2 c (T.loop lp) us H=evL tb c lp e.1.1 e.1.2 us H
theorem akd {T:If} {G:GP} (h:LP T G.tab):∀n,rr T G n false=(λf c H=>run G T.fns n (.fn f) c H)/\rr T G n true=T.loop (λb a=>run G T.fns n (.loop b a)):=by
 intro n
 induction n with
 |zero=>
  refine⟨rfl,?_⟩
  funext i vs H;show none=ob (T.lp i) λe=>none;cases T.lp i<;>rfl
 | succ n ih =>
  obtain⟨d,g⟩:=ih;constructor
  .funext f c H;show ob (T.fn f) (λe=>e.2 (callQ G (rr T G n false)) (rr T G n true) c H)=ob (T.fns f) λk=>Yj G.tab (Fv G (run G T.fns n)) (λb a=>run G T.fns n (.loop b a)) k c H;unfold If.fns;cases j:T.fn f with
   |none=>rfl
   |some e=>
    show e.2 (callQ G (rr T G n false)) (rr T G n true) c H=Yj G.tab (Fv G (run G T.fns n)) (λb a=>run G T.fns n (.loop b a)) e.1 c H;rw[d,g];exact h.fn j _ _ c H
  .funext i vs H;show ob (T.lp i) (λe=>e.2 (callQ G (rr T G n false)) (rr T G n true) vs H)=ob (T.lp i) λe=>run G T.fns (n+1) (.loop e.1.1 e.1.2) vs H;cases j:T.lp i with
   |none=>rfl
   |some e=>
    show e.2 (callQ G (rr T G n false)) (rr T G n true) vs H=evL G.tab (Fv G (run G T.fns n)) (λb a=>run G T.fns n (.loop b a)) e.1.1 e.1.2 vs H;rw[d,g];exact h.lp j _ _ vs H
def okF (a:TB) (fn:Func):V4:=match fn.body with
 |some c=>Jh a fn.ntmps c&&Nat.ble (fn.params.size+fn.nfree) fn.ntmps
 |none=>false
theorem Tb {tb:TB} {fn:Func} (h:okF tb fn=true):(∀c,fn.body=some c->Jh tb fn.ntmps c=true)/\fn.params.size+fn.nfree<=fn.ntmps:=by
 unfold okF at h;cases a:fn.body with
 |none=>rw[a]at h;cases h
 |some c=>
  rw[a]at h;simp only[zA4]at h;exact⟨λd b=>by cases b;exact h.1,by simpa using h.2⟩
def Km (T:If) (G:GP) (b:Nat) (f:FuncId) (a:V6 GV) (H:GH):OR:=callQ G (rr T G b false) f a H
theorem Fw {T:If} {G:GP} (h:LP T G.tab) (fuel:Nat) (f:FuncId) (a:V6 GV) (H:GH):Km T G fuel f a H=WC G T.fns fuel f a H:=by
 unfold Km WC Fv;rw[(akd h fuel).1]
end
end Go.Gx
section
set_option maxRecDepth 100000
namespace Go.Gx
open Go Go.Sx Go.Proofs
noncomputable section
abbrev y:=vX
def gB (f:Func) (c:CH) (_:QH) (a:V6 GV) (H:GH):RS:=Yj y c (λ_ _ _ _=>none) f a H
def Ll (f:Func) (i:Nat) (c:CH) (q:QH) (a:V6 GV) (H:GH):RS:=Yj y c (λ_ _ b H=>q i b H) f a H
def gL (e:Code×Cx) (i:Nat) (c:CH) (q:QH) (a:V6 GV) (H:GH):RS:=evL y c (λ_ _ b H=>q i b H) e.1 e.2 a H
def gL1 (e:Code×Cx) (n i j:Nat) (c:CH) (q:QH) (d:V6 GV) (H:GH):RS:=evL y c (λ_ b a H=>bif Nat.beq b.env.length n then q i a H else q j a H) e.1 e.2 d H
def gD (e:Code×Cx) (i:Nat):(Code×Cx)×gS:=(e,gL e i)
def gD1 (e:Code×Cx) (n i j:Nat):(Code×Cx)×gS:=(e,gL1 e n i j)
def rid (c:Code):Nat:=match c with|.region n _ _=>n | .seq a _=>rid a | .block _ a=>rid a | .loop a=>rid a|_=>0
def sel (l:I_) (n:Nat):Nat:=List.rec (motive:=λ_=>Nat) 0 (λp _ a=>bif Nat.beq p.1 n then p.2 else a) l
def gBs (f:Func) (l:I_) (c:CH) (q:QH) (a:V6 GV) (H:GH):RS:=Yj y c (λb _ d H=>q (sel l (rid b)) d H) f a H
def gDs (e:Code×Cx) (l:I_):(Code×Cx)×gS:=(e,λc q a H=>evL y c (λb _ d H=>q (sel l (rid b)) d H) e.1 e.2 a H)
def i (n:Nat):GV:= .int .i64 (.ofNat n)
def bC (q:V4) (f t:RS):RS:=Bool.casesOn (motive:=λ_=>RS) q f t
def K (c:CH) (f:Nat) (a:V6 GV) (H:GH) (k:GV->GH->RS):RS:=fW (c f a H) k
def bn (a:BinOp) (T:Nat) (v u:GV) (k:GV->RS):RS:=ob (Bn y a T v u) k
def ld (T:Nat) (v:GV) (H:GH) (k:GV->RS):RS:=ob (uR y T v H) k
def fd (T n:Nat) (v:GV) (k:GV->RS):RS:=ob (Ke y T n v) k
def pt (T n:Nat) (v:GV) (k:GV->RS):RS:=ob (acY y T n v) k
def ix (T:Nat) (v u:GV) (k:GV->RS):RS:=ob (VP y T v u) k
def ln (T:Nat) (v:GV) (k:GV->RS):RS:=ob (TP y T v) k
def ex (n:Nat) (v:GV) (k:GV->RS):RS:=ob (aiJ n v) k
def bd (T:Nat) (l:V6 (Nat×GV)) (k:GV->RS):RS:=ob (VN y T l) k
theorem rN {a:Type} {f n:Nat} {x y:V1 a} {e:a} {R:Prop} (b:x=some e->R) (c:y=some e->R):tN f n x y=some e->R:=by
 unfold tN;cases Nat.blt f n
 .exact c
 .exact b
theorem rL {c:Type} {f n:Nat} {x e:c} {R:Nat->c->Prop} (h:R n x):tL f n x=some e->R f e:=by
 intro a;unfold tL at a;cases b:Nat.beq f n with
 |false=>rw[b]at a;cases a
 |true=>rw[b]at a;cases a;rw[zA6 b];exact h
def B74 (c:CH) (e:QH) (b:V6 GV) (H:GH):RS:=U3 b λg h d=>
 fW (HR d H) λf a=>
 oR [] a
def B85 (c:CH) (l:QH) (p:V6 GV) (H:GH):RS:=U1 p λg=>
 ln 9 g λm=>
 bn .gtr 3 m (i 16384) λn=>
 ob (GV.asB n) λk=>jn (bC k (oN [g] H) (oR [.snil,(i 0),(i 3)] H)) λe h=>U1 e λf=>K c 143 [f,(i 0)] h λo j=>
 jn (nB 0 (l 2 [f,.snil,o] j)) λa d=>U1 a λb=>oR [b,(i 0),(i 0)] d
def L2 (c:CH) (ql:QH) (us:V6 GV) (H:GH):RS:=U3 us λa b d=>jn (ln 9 a λO=>
 bn .lss 3 d O λP=>
 ob (GV.asB P) λL=>jn (bC L (oX 0 [b] H) (oN [a,b,d] H)) λs l=>U3 s λw e f=>jn (nB 1 (ln 102 e λQ=>
 bn .eql 3 Q (i 4096) λR=>
 ob (GV.asB R) λM=>jn (bC M (oN [w,e,f] l) (oR [.snil,f,(i 3)] l)) λt D=>U3 t λg x h=>K c 144 [g,h] D λp E=>
 ex 0 p λS=>
 ex 1 p λq=>
 fW (wH y 154 E) λr F=>
 fW (qD y 154 r S F) λab m=>
 bn .neq 49 q (i 0) λT=>
 ob (GV.asB T) λN=>jn (bC N (oN [g,x,r] m) (oR [.snil,h,q] m)) λu n=>U3 u λj z k=>ld 154 k n λU=>
 fW (vQ y 102 1 [(0,U)] n) λV G=>
 fW (VL y 102 102 z V G) λW o=>
 fd 154 2 k λX=>
 ld 3 X o λY=>
 K c 143 [j,Y] o λaa I=>
 oN [j,W,aa] I)) λv J=>U3 v λA B C=>oN [A,B,C] J) (ql 2)
def s88:I_:=[(6,3),(12,4),(19,5)]
def B92 (c:CH) (i:QH) (g:V6 GV) (H:GH):RS:=U1 g λh=>
 fW (HR h H) λd a=>
 ld 28 d a λe=>
 K c 159 [e] a λf b=>
 oR [f] b
def akG (c:CH) (e:QH) (f:V6 GV) (H:GH):RS:=U2 f λg h=>
 jn (nB 0 (e 16 [g,h] H)) λa d=>U1 a λb=>oR [b] d
def L16 (c:CH) (ql:QH) (us:V6 GV) (H:GH):RS:=U2 us λa6 R=>jn (ln 9 a6 λt8=>
 bn .lss 3 R t8 λt9=>
 ob (GV.asB t9) λaa=>jn (bC aa (oX 0 [R] H) (oN [a6,R] H)) λm e=>U2 m λb d=>jn (nB 1 (ob (vAt y 9 b d) λa=>
 jn (nB 2 (bn .eql 5 a (.int .u8 (.ofNat 32)) λj=>
 ob (GV.asB j) λab=>jn (bC ab (bn .eql 5 a (.int .u8 (.ofNat 9)) λk=>
 ob (GV.asB k) λac=>jn (bC ac (bn .eql 5 a (.int .u8 (.ofNat 10)) λl=>
 ob (GV.asB l) λad=>jn (bC ad (bn .eql 5 a (.int .u8 (.ofNat 13)) λag=>
 oN [b,d,a,ag] e) (oN [b,d,a,l] e)) λn S=>U4 n λv w x z=>oN [v,w,x,z] S) (oN [b,d,a,k] e)) λo T=>U4 o λA B C D=>oN [A,B,C,D] T) (oN [b,d,a,j] e)) λp g=>U4 p λh f E F=>ob (GV.asB F) λae=>jn (bC ae (bn .eql 5 E (.int .u8 (.ofNat 35)) λai=>
 ob (GV.asB ai) λaf=>jn (bC af (oR [f] g) (jn (nB 3 (ql 17 [h,f] g)) λq U=>U2 q λG I=>oN [G,I] U)) λr V=>U2 r λJ K=>oN [J,K] V) (bn .add 3 f (i 1) λah=>
 oN [h,ah] g)) λs W=>U2 s λL M=>oN [L,M] W)) λt X=>U2 t λN O=>oN [N,O] X)) λu Y=>U2 u λP Q=>oN [P,Q] Y) (ql 16)
def L17 (c:CH) (C:QH) (D:V6 GV) (H:GH):RS:=U2 D λb d=>jn (ln 9 b λu=>
 bn .lss 3 d u λa=>
 fW (rG a true H (some (b,H))) λv e=>
 fW (rG a true e (some (d,e))) λw f=>
 fW (rG a true f (ob (vAt y 9 v w) λp=>some (p,f))) λx g=>
 fW (rG a true g (ob (Bn y .neq 5 x (.int .u8 (.ofNat 10))) λq=>some (q,g))) λz h=>
 ob (pZ a z (.bool false)) λA=>
 ob (GV.asB A) λt=>jn (bC t (oX 3 [b,d] h) (oN [b,d] h)) λj r=>U2 j λl m=>jn (nB 4 (bn .add 3 m (i 1) λB=>
 oN [l,B] r)) λk s=>U2 k λn o=>oN [n,o] s) (C 17)
def akH (c:CH) (ql:QH) (us:V6 GV) (H:GH):RS:=U2 us λx1 x2=>
 fW (HR x1 H) λO h4=>
 fW (HR x2 h4) λf h6=>
 fW (wH y 154 h6) λm h8=>
 ld 9 O h8 λt9=>
 ld 3 f h8 λaE=>
 ob (vAt y 9 t9 aE) λM=>
 jn (nB 0 (K c 186 [M] h8 λaF t=>
 ob (GV.asB aF) λau=>jn (bC au (K c 188 [M] t λaM x=>
 ob (GV.asB aM) λaw=>jn (bC aw (oN [O,f,m] x) (ob (GV.asF (.fn 185 [] [f,O])) λl=>fW (c l.1 (l.2.1++[(.fn 188 [] [])]++l.2.2) x) λP a=>
 ld 9 O a λaN=>
 ld 3 f a λaO=>
 ob (CL y 9 aN (some aO) (some P) a) λaP=>
 K c 189 [aP] a λQ z=>
 ex 0 Q λaQ=>
 ex 1 Q λaR=>
 ob (vUn .not aR) λaS=>
 ob (GV.asB aS) λax=>jn (bC ax (oN [f,m,P,aQ] z) (bd 154 [] λaT=>
 fW (qD y 154 m aT z) λa5 A=>
 ob (ob (uR y 154 m A) λaB=>some [aB,(i 2)]) λV=>oR V A)) λW B=>U4 W λag q ah ai=>ld 3 ag B λaU=>
 bd 154 [(0,(i 2)),(1,aU),(2,ah),(3,ai)] λaV=>
 fW (qD y 154 q aV B) λa6 C=>
 ob (ob (uR y 154 q C) λaC=>some [aC,(i 0)]) λX=>oR X C)) λY aq=>U3 Y λaj ak al=>oN [aj,ak,al] aq) (ob (GV.asF (.fn 185 [] [f,O])) λk=>fW (c k.1 (k.2.1++[(.fn 187 [] [])]++k.2.2) t) λN h=>
 ld 3 f h λaG=>
 bn .sub 3 N aG λaH=>
 bn .gtr 3 aH (i 24) λaI=>
 ob (GV.asB aI) λav=>jn (bC av (oN [f,m,N] h) (bd 154 [] λaJ=>
 fW (qD y 154 m aJ h) λa3 u=>
 ob (ob (uR y 154 m u) λaz=>some [az,(i 5)]) λS=>oR S u)) λT v=>U3 T λae p af=>ld 3 ae v λaK=>
 bd 154 [(0,(i 1)),(1,aK),(2,af)] λaL=>
 fW (qD y 154 p aL v) λa4 w=>
 ob (ob (uR y 154 p w) λaA=>some [aA,(i 0)]) λU=>oR U w)) λaa ar=>U3 aa λam an ao=>oN [am,an,ao] ar)) λab b=>U3 ab λap r g=>ld 9 ap b λaW=>
 ld 3 r b λaX=>
 ob (CL y 9 aW (some aX) none b) λaY=>
 K c 190 [aY] b λR D=>
 bn .eql 3 R (i 0) λa0=>
 ob (GV.asB a0) λay=>jn (bC ay (oN [r,g,R] D) (bd 154 [] λa1=>
 fW (qD y 154 g a1 D) λa7 E=>
 ob (ob (uR y 154 g E) λaD=>some [aD,(i 4)]) λac=>oR ac E)) λad j=>U3 ad λs d o=>ld 3 s j λG=>
 ld 3 s j λI=>
 bn .add 3 I o λJ=>
 bd 154 [(0,(i 3)),(1,G),(2,J)] λL=>
 fW (qD y 154 d L j) λa2 e=>
 ob (ob (uR y 154 d e) λF=>some [F,(i 0)]) λn=>oR n e
def akI (c:CH) (d:QH) (e:V6 GV) (H:GH):RS:=U4 e λf g h j=>
 jn (nB 0 (d 19 [f,g,h,j,(i 0)] H)) λa b=>U0 a (oR [] b)
def L19 (c:CH) (V:QH) (us:V6 GV) (H:GH):RS:=U5 us λS T U p q=>jn (ob (GV.nilck S) λG=>
 fd 110 0 G λI=>
 K c 192 [I] H λJ k=>
 bn .eql 9 J T λL=>
 ob (GV.asB L) λE=>jn (bC E (oX 0 [] k) (oN [S,T,U,p,q] k)) λm l=>U5 m λa f b g d=>jn (nB 1 (bn .eql 3 d b λM=>
 ob (GV.asB M) λF=>jn (bC F (oN [a,f,b,g,d] l) (ob (GV.nilck a) λN=>
 fd 110 0 N λO=>
 K c 153 [O,(i 3)] l λW z=>
 oN [a,f,b,g,d] z)) λn A=>U5 n λh r s j t=>ob (GV.nilck h) λP=>
 fd 110 0 P λQ=>
 K c 195 [Q] A λX B=>
 ob (GV.asF j) λe=>fW (c e.1 (e.2.1++[]++e.2.2) B) λY C=>
 oN [h,r,s,j,t] C)) λo D=>U5 o λu v w x y=>bn .add 3 y (i 1) λR=>
 oN [u,v,w,x,R] D) (V 19)
def akJ (c:CH) (j:QH) (g:V6 GV) (H:GH):RS:=U1 g λh=>
 ob (GV.nilck h) λa=>
 fd 108 1 a λb=>
 ld 102 b H λd=>
 ln 102 d λe=>
 bn .eql 3 e (i 0) λf=>
 oR [f] H
def aiz:I_:=[(5,21),(13,22)]
def akK (c:CH) (f:QH) (h:V6 GV) (H:GH):RS:=U1 h λb=>
 ln 22 b λg=>
 jn (nB 0 (f 27 [(.int .i64 (.negSucc 0)),b,g,(i 0)] H)) λa e=>U1 a λd=>oR [d] e
def L27 (c:CH) (y:QH) (z:V6 GV) (H:GH):RS:=U4 z λu x v w=>jn (bn .lss 3 w v λp=>
 ob (GV.asB p) λo=>jn (bC o (oX 0 [u] H) (oN [u,x,v,w] H)) λe d=>U4 e λg a h b=>jn (nB 1 (ix 22 a b λq=>
 ld 3 q d λr=>
 ob (TS g r) λs=>
 oN [s,a,h,b] d)) λf n=>U4 f λj k l m=>bn .add 3 m (i 1) λt=>
 oN [j,k,l,t] n) (y 27)
def afF:I_:=[(3,28),(9,29),(13,30)]
def akL (c:CH) (e:QH) (g:V6 GV) (H:GH):RS:=U2 g λb h=>
 ln 22 b λf=>
 jn (nB 0 (e 31 [b,h,f,(i 0)] H)) λa d=>U0 a (oR [(.int .i64 (.negSucc 0))] d)
def L31 (c:CH) (F:QH) (G:V6 GV) (H:GH):RS:=U4 G λD E B C=>jn (bn .lss 3 C B λw=>
 ob (GV.asB w) λu=>jn (bC u (oX 0 [] H) (oN [D,E,B,C] H)) λf b=>U4 f λd e j a=>jn (nB 1 (ix 22 d a λx=>
 ld 3 x b λy=>
 bn .eql 3 e y λz=>
 ob (GV.asB z) λv=>jn (bC v (oN [d,e,j,a] b) (oR [a] b)) λg s=>U4 g λk l m n=>oN [k,l,m,n] s)) λh t=>U4 h λo p q r=>bn .add 3 r (i 1) λA=>
 oN [o,p,q,A] t) (F 31)
def akM (c:CH) (k:QH) (h:V6 GV) (H:GH):RS:=U1 h λj=>
 fW (HR j H) λd a=>
 ld 33 d a λe=>
 K c 88 [e] a λf b=>
 bn .eql 49 f (i 0) λg=>
 oR [g] b
def akN (c:CH) (h:QH) (l:V6 GV) (H:GH):RS:=U1 l λb=>
 ln 36 b λd=>
 fW (TQ y 36 d d H) λj f=>
 ln 36 b λk=>
 jn (nB 0 (h 35 [j,b,k,(i 0)] f)) λa g=>U1 a λe=>oR [e] g
def L35 (c:CH) (C:QH) (E:V6 GV) (H:GH):RS:=U4 E λB k b d=>jn (bn .lss 3 d b λu=>
 ob (GV.asB u) λt=>jn (bC t (oX 0 [B] H) (oN [B,k,b,d] H)) λh g=>U4 h λe f l a=>jn (nB 1 (ix 36 f a λv=>
 ld 22 v g λw=>
 fW (VL y 22 22 .snil w g) λx q=>
 ix 36 e a λz=>
 fW (qD y 22 z x q) λD r=>
 oN [e,f,l,a] r)) λj s=>U4 j λm n o p=>bn .add 3 p (i 1) λA=>
 oN [m,n,o,A] s) (C 35)
def akO (c:CH) (g:QH) (k:V6 GV) (H:GH):RS:=U3 k λl b m=>
 K c 170 [b] H λh e=>
 ln 36 b λj=>
 jn (nB 0 (g 38 [l,b,m,h,j,(i 0)] e)) λa f=>U1 a λd=>oR [d] f
def L38 (c:CH) (W:QH) (Y:V6 GV) (H:GH):RS:=U6 Y λp q r g h j=>jn (bn .lss 3 j h λO=>
 ob (GV.asB O) λM=>jn (bC M (oX 0 [g] H) (oN [p,q,r,g,h,j] H)) λm l=>U6 m λb d e f k a=>jn (nB 1 (bn .shr 55 e a λP=>
 bn .and 55 P (.int .u32 (.ofNat 1)) λQ=>
 bn .eql 55 Q (.int .u32 (.ofNat 1)) λR=>
 ob (GV.asB R) λN=>jn (bC N (oN [b,d,e,f,k,a] l) (K c 140 [b,d,a] l λS F=>
 K c 171 [b,d,a,S] F λT G=>
 ix 36 f a λU=>
 fW (qD y 22 U T G) λX I=>
 oN [b,d,e,f,k,a] I)) λn J=>U6 n λs t u v w x=>oN [s,t,u,v,w,x] J)) λo L=>U6 o λz A B C D E=>bn .add 3 E (i 1) λV=>
 oN [z,A,B,C,D,V] L) (W 38)
def akP (c:CH) (e:QH) (g:V6 GV) (H:GH):RS:=U3 g λh i j=>
 ld 3 i H λf=>
 jn (nB 0 (e 42 [h,j,f] H)) λa d=>U1 a λb=>oR [b] d
def L42 (c:CH) (K:QH) (L:V6 GV) (H:GH):RS:=U3 L λJ s b=>jn (ld 9 s H λz=>
 ln 9 z λA=>
 bn .lss 3 b A λa=>
 fW (rG a true H (some (J,H))) λB d=>
 fW (rG a true d (ob (uR y 9 s d) λt=>some (t,d))) λC f=>
 fW (rG a true f (some (b,f))) λD g=>
 fW (rG a true g (ob (vAt y 9 C D) λu=>some (u,g))) λE h=>
 fW (rG a true h (ob (GV.asF B) λe=>fW (c e.1 (e.2.1++[E]++e.2.2) h) GU)) λF j=>
 ob (pZ a F (.bool false)) λG=>
 ob (GV.asB G) λx=>jn (bC x (oX 0 [b] j) (oN [J,s,b] j)) λk v=>U3 k λm n o=>jn (nB 1 (bn .add 3 o (i 1) λI=>
 oN [m,n,I] v)) λl w=>U3 l λp q r=>oN [p,q,r] w) (K 42)
def akQ (c:CH) (B:QH) (A:V6 GV) (H:GH):RS:=U1 A λi=>
 bn .geq 5 i (.int .u8 (.ofNat 97)) λq=>
 fW (rG q true H (some (i,H))) λw t=>
 fW (rG q true t (ob (Bn y .leq 5 w (.int .u8 (.ofNat 122))) λv=>some (v,t))) λx u=>
 ob (pZ q x (.bool false)) λh=>
 fW (rG h false u (some (i,u))) λz b=>
 fW (rG h false b (ob (Bn y .geq 5 z (.int .u8 (.ofNat 65))) λj=>some (j,b))) λn d=>
 fW (rG h false d (some (n,d))) λa e=>
 fW (rG a true e (some (i,e))) λo f=>
 fW (rG a true f (ob (Bn y .leq 5 o (.int .u8 (.ofNat 90))) λk=>some (k,f))) λp g=>
 fW (rG h false g (ob (pZ a p (.bool false)) λl=>some (l,g))) λr m=>
 ob (pZ h (.bool true) r) λs=>
 oR [s] m
def akR (c:CH) (q:QH) (p:V6 GV) (H:GH):RS:=U1 p λi=>
 K c 186 [i] H λg j=>
 fW (rG g false j (some (i,j))) λm k=>
 fW (rG g false k (fW (c 188 [m] k) GU)) λn l=>
 ob (pZ g (.bool true) n) λh=>
 fW (rG h false l (some (i,l))) λo a=>
 fW (rG h false a (ob (Bn y .eql 5 o (.int .u8 (.ofNat 95))) λb=>some (b,a))) λe d=>
 ob (pZ h (.bool true) e) λf=>
 oR [f] d
def akS (c:CH) (k:QH) (j:V6 GV) (H:GH):RS:=U1 j λd=>
 bn .geq 5 d (.int .u8 (.ofNat 48)) λa=>
 fW (rG a true H (some (d,H))) λg b=>
 fW (rG a true b (ob (Bn y .leq 5 g (.int .u8 (.ofNat 57))) λe=>some (e,b))) λh f=>
 ob (pZ a h (.bool false)) λi=>
 oR [i] f
def akT (c:CH) (t:QH) (x:V6 GV) (H:GH):RS:=U1 x λo=>
 ob (vAt y 9 o (i 0)) λu=>
 bn .eql 5 u (.int .u8 (.ofNat 48)) λf=>
 fW (rG f true H (some (o,H))) λv p=>
 fW (rG f true p (ob (TP y 9 v) λr=>some (r,p))) λw q=>
 fW (rG f true q (ob (Bn y .gtr 3 w (i 1)) λs=>some (s,q))) λl b=>
 ob (pZ f l (.bool false)) λm=>
 ob (GV.asB m) λk=>jn (bC k (oN [o] b) (oR [(i 0),(.bool false)] b)) λd h=>U1 d λa=>ln 9 a λn=>
 jn (nB 0 (t 43 [a,(i 0),n,(i 0)] h)) λe j=>U1 e λg=>oR [g,(.bool true)] j
def L43 (c:CH) (K:QH) (L:V6 GV) (H:GH):RS:=U4 L λm a b d=>jn (bn .lss 3 d b λC=>
 ob (GV.asB C) λA=>jn (bC A (oX 0 [a] H) (oN [m,a,b,d] H)) λj g=>U4 j λe n o f=>jn (nB 1 (bn .mul 3 (i 10) n λD=>
 ob (vAt y 9 e f) λE=>
 bn .sub 5 E (.int .u8 (.ofNat 48)) λF=>
 ob (acS y 5 3 F) λG=>
 bn .add 3 D G λh=>
 bn .gtr 3 h (i 1073741824) λI=>
 ob (GV.asB I) λB=>jn (bC B (oN [e,h,o,f] g) (oR [(i 0),(.bool false)] g)) λk x=>U4 k λp q r s=>oN [p,q,r,s] x)) λl z=>U4 l λt u v w=>bn .add 3 w (i 1) λJ=>
 oN [t,u,v,J] z) (K 43)
def akU (c:CH) (m:QH) (q:V6 GV) (H:GH):RS:=U1 q λr=>
 fW (vQ y 106 9 [(0,(.str 11822 2)),(1,(.str 15917 2)),(2,(.str 15674 2)),(3,(.str 9766 2)),(4,(.str 31868 2)),(5,(.str 15677 2)),(6,(.str 15649 2)),(7,(.str 15676 2)),(8,(.str 15678 2))] H) λh k=>
 ln 106 h λn=>
 jn (nB 0 (m 44 [r,h,n,(i 0)] k)) λg l=>U1 g λj=>ob (vAt y 9 j (i 0)) λo=>
 K c 218 [(.str 172099982263598878148345807877454395 15),o] l λp a=>
 bn .geq 3 p (i 0) λf=>
 ob (GV.asB f) λe=>jn (bC e (oN [] a) (oR [(i 1)] a)) λb d=>U0 b (oR [(i 0)] d)
def L44 (c:CH) (G:QH) (I:V6 GV) (H:GH):RS:=U4 I λa n b d=>jn (bn .lss 3 d b λB=>
 ob (GV.asB B) λz=>jn (bC z (oX 0 [a] H) (oN [a,n,b,d] H)) λk h=>U4 k λe f o g=>jn (nB 1 (ix 106 f g λC=>
 ld 9 C h λD=>
 K c 217 [e,D] h λE j=>
 ob (GV.asB E) λA=>jn (bC A (oN [e,f,o,g] j) (oR [(i 2)] j)) λl x=>U4 l λp q r s=>oN [p,q,r,s] x)) λm y=>U4 m λt u v w=>bn .add 3 w (i 1) λF=>
 oN [t,u,v,F] y) (G 44)
def akV (c:CH) (n:QH) (l:V6 GV) (H:GH):RS:=U2 l λe m=>
 K c 192 [e] H λj d=>
 bn .neq 9 j m λk=>
 ob (GV.asB k) λh=>jn (bC h (oN [e] d) (oR [(.bool false)] d)) λb g=>U1 b λf=>K c 195 [f] g λi a=>
 oR [(.bool true)] a
def akW (c:CH) (E:QH) (D:V6 GV) (H:GH):RS:=U1 D λv=>
 ob (GV.nilck v) λx=>
 fd 108 1 x λz=>
 ld 102 z H λA=>
 ln 102 A λB=>
 bn .eql 3 B (i 0) λC=>
 ob (GV.asB C) λw=>jn (bC w (oN [v] H) (oR [(.str 0 0)] H)) λu b=>U1 u λa=>ob (GV.nilck a) λd=>
 fd 108 0 d λe=>
 ld 9 e b λf=>
 ob (GV.nilck a) λg=>
 fd 108 1 g λh=>
 ld 102 h b λj=>
 ix 102 j (i 0) λk=>
 fd 154 1 k λl=>
 ld 3 l b λm=>
 ob (GV.nilck a) λn=>
 fd 108 1 n λo=>
 ld 102 o b λp=>
 ix 102 p (i 0) λq=>
 fd 154 2 q λr=>
 ld 3 r b λs=>
 ob (CL y 9 f (some m) (some s) b) λt=>
 oR [t] b
def akX (c:CH) (t:QH) (s:V6 GV) (H:GH):RS:=U1 s λl=>
 ob (GV.nilck l) λn=>
 fd 108 1 n λo=>
 ld 102 o H λp=>
 ln 102 p λq=>
 bn .eql 3 q (i 0) λr=>
 ob (GV.asB r) λm=>jn (bC m (oN [l] H) (oR [(i 0)] H)) λk b=>U1 k λa=>ob (GV.nilck a) λd=>
 fd 108 1 d λe=>
 ld 102 e b λf=>
 ix 102 f (i 0) λg=>
 fd 154 0 g λh=>
 ld 3 h b λj=>
 oR [j] b
def akY (c:CH) (J:QH) (O:V6 GV) (H:GH):RS:=U1 O λm=>
 ln 9 m λL=>
 bn .lss 3 L (i 1) λl=>
 fW (rG l false H (some (m,H))) λM E=>
 fW (rG l false E (ob (TP y 9 M) λG=>some (G,E))) λN F=>
 fW (rG l false F (ob (Bn y .gtr 3 N (i 24)) λI=>some (I,F))) λu d=>
 ob (pZ l (.bool true) u) λa=>
 fW (rG a false d (some (m,d))) λv e=>
 fW (rG a false e (ob (vAt y 9 v (i 0)) λo=>some (o,e))) λw f=>
 fW (rG a false f (fW (c 186 [w] f) GU)) λx g=>
 fW (rG a false g (ob (vUn .not x) λp=>some (p,g))) λz h=>
 ob (pZ a (.bool true) z) λA=>
 ob (GV.asB A) λt=>jn (bC t (oN [m] h) (oR [(.bool false)] h)) λj q=>U1 j λb=>ln 9 b λB=>
 jn (nB 0 (J 45 [b,B,(i 0)] q)) λk r=>U1 k λn=>K c 219 [n] r λC s=>
 ob (vUn .not C) λD=>
 oR [D] s
def L45 (c:CH) (D:QH) (E:V6 GV) (H:GH):RS:=U3 E λa b d=>jn (bn .lss 3 d b λx=>
 ob (GV.asB x) λv=>jn (bC v (oX 0 [a] H) (oN [a,b,d] H)) λh s=>U3 h λe l f=>jn (nB 1 (ob (vAt y 9 e f) λz=>
 K c 187 [z] s λA g=>
 ob (vUn .not A) λB=>
 ob (GV.asB B) λw=>jn (bC w (oN [e,l,f] g) (oR [(.bool false)] g)) λj t=>U3 j λm n o=>oN [m,n,o] t)) λk u=>U3 k λp q r=>bn .add 3 r (i 1) λC=>
 oN [p,q,C] u) (D 45)
def akZ (c:CH) (R:QH) (Q:V6 GV) (H:GH):RS:=U1 Q λl=>
 fW (wH y 154 H) λD o=>
 ob (GV.nilck l) λL=>
 fd 108 1 L λM=>
 ld 102 M o λN=>
 ln 102 N λO=>
 bn .eql 3 O (i 0) λP=>
 ob (GV.asB P) λE=>jn (bC E (oN [l,D] o) (K c 153 [l,(i 4)] o λF m=>
 oN [l,D] m)) λj b=>U2 j λa e=>ob (GV.nilck a) λq=>
 fd 108 1 q λr=>
 ld 102 r b λs=>
 ix 102 s (i 0) λt=>
 ld 154 t b λu=>
 fW (wH y 154 b) λh n=>
 fW (qD y 154 h u n) λG d=>
 ob (GV.nilck a) λv=>
 fd 108 1 v λw=>
 ld 102 w d λx=>
 ob (CL y 102 x (some (i 1)) none d) λz=>
 ob (GV.nilck a) λA=>
 fd 108 1 A λB=>
 fW (qD y 102 B z d) λI f=>
 ld 154 h f λC=>
 fW (qD y 154 e C f) λJ g=>
 ob (ob (uR y 154 e g) λp=>some [p]) λk=>oR k g
def ak_ (c:CH) (P:QH) (O:V6 GV) (H:GH):RS:=U1 O λk=>
 K c 192 [k] H λy F=>
 K c 193 [k] F λL D=>
 bn .neq 3 L (i 1) λl=>
 fW (rG l false D (some (y,D))) λM E=>
 fW (rG l false E (fW (c 194 [M] E) GU)) λN d=>
 fW (rG l false d (ob (vUn .not N) λp=>some (p,d))) λw e=>
 ob (pZ l (.bool true) w) λx=>
 ob (GV.asB x) λu=>jn (bC u (oN [k,y] e) (K c 153 [k,(i 4)] e λG q=>
 oN [k,y] q)) λh f=>U2 h λa m=>ob (GV.nilck a) λz=>
 fd 108 2 z λA=>
 ld 106 A f λB=>
 K c 223 [B,m] f λb g=>
 bn .lss 3 b (i 0) λC=>
 ob (GV.asB C) λv=>jn (bC v (oN [a,b] g) (K c 153 [a,(i 5)] g λI r=>
 oN [a,b] r)) λj s=>U2 j λn o=>K c 195 [n] s λJ t=>
 oR [o] t
def ala (c:CH) (L:QH) (Q:V6 GV) (H:GH):RS:=U2 Q λo R=>
 ln 167 o λM=>
 bn .gtr 3 M (i 200) λd=>
 fW (rG d false H (some (o,H))) λN I=>
 fW (rG d false I (fW (c 224 [N,(i 0)] I) GU)) λO J=>
 fW (rG d false J (some (o,J))) λP f=>
 fW (rG d false f (ob (TP y 167 P) λq=>some (q,f))) λx g=>
 fW (rG d false g (ob (Bn y .neq 3 O x) λr=>some (r,g))) λz h=>
 ob (pZ d (.bool true) z) λA=>
 ob (GV.asB A) λw=>jn (bC w (oN [o,R] h) (oR [(.bool false)] h)) λm t=>U2 m λb p=>ln 167 b λB=>
 jn (nB 0 (L 46 [b,p,b,B,(i 0)] t)) λn u=>U1 n λe=>K c 226 [e] u λC j=>
 bn .leq 3 C (i 24) λa=>
 fW (rG a true j (some (e,j))) λD k=>
 fW (rG a true k (fW (c 227 [D] k) GU)) λE l=>
 fW (rG a true l (ob (Bn y .leq 3 E (i 2)) λs=>some (s,l))) λF v=>
 ob (pZ a F (.bool false)) λG=>
 oR [G] v
def L46 (c:CH) (S:QH) (U:V6 GV) (H:GH):RS:=U5 U λa p q b d=>jn (bn .lss 3 d b λL=>
 ob (GV.asB L) λI=>jn (bC I (oX 0 [a] H) (oN [a,p,q,b,d] H)) λm h=>U5 m λr e f s g=>jn (nB 1 (ix 167 f g λM=>
 ld 240 M h λN=>
 fW (wH y 240 h) λl E=>
 fW (qD y 240 l N E) λT j=>
 ld 240 l j λO=>
 K c 225 [O,e] j λP k=>
 ob (vUn .not P) λQ=>
 ob (GV.asB Q) λJ=>jn (bC J (oN [r,e,f,s,g] k) (oR [(.bool false)] k)) λn F=>U5 n λt u v w x=>oN [t,u,v,w,x] F)) λo G=>U5 o λz A B C D=>bn .add 3 D (i 1) λR=>
 oN [z,A,B,C,R] G) (S 46)
def alb (c:CH) (g:QH) (d:V6 GV) (H:GH):RS:=U3 d λe f k=>
 fW (HR e H) λh a=>
 fW (HR f a) λj b=>
 oR [(i 0),(i 1)] b
def alc (c:CH) (e:QH) (f:V6 GV) (H:GH):RS:=U2 f λg h=>
 jn (nB 0 (e 48 [h,(.int .u32 (.ofNat 0)),g,(i 0)] H)) λa d=>U1 a λb=>oR [b] d
def L48 (c:CH) (I:QH) (J:V6 GV) (H:GH):RS:=U4 J λG D E F=>jn (bn .lss 3 F E λy=>
 ob (GV.asB y) λw=>jn (bC w (oX 0 [D] H) (oN [G,D,E,F] H)) λh t=>U4 h λb e f a=>jn (nB 1 (ob (GV.asF b) λd=>fW (c d.1 (d.2.1++[a]++d.2.2) t) λz g=>
 ob (GV.asB z) λx=>jn (bC x (oN [b,e,f,a] g) (bn .shl 55 (.int .u32 (.ofNat 1)) a λA=>
 bn .or 55 e A λB=>
 oN [b,B,f,a] g)) λj u=>U4 j λl m n o=>oN [l,m,n,o] u)) λk v=>U4 k λp q r s=>bn .add 3 s (i 1) λC=>
 oN [p,q,r,C] v) (I 48)
def ald (c:CH) (l:QH) (g:V6 GV) (H:GH):RS:=U3 g λh j k=>
 ld 82 j H λb=>
 ld 36 k H λd=>
 K c 140 [b,d,h] H λe a=>
 bn .geq 3 e (i 0) λf=>
 oR [f] a
def ale (c:CH) (e:QH) (g:V6 GV) (H:GH):RS:=U1 g λb=>
 ln 54 b λf=>
 jn (nB 0 (e 49 [b,f,(i 0)] H)) λa d=>U0 a (oR [(.bool true)] d)
def L49 (c:CH) (B:QH) (D:V6 GV) (H:GH):RS:=U3 D λz x y=>jn (bn .lss 3 y x λC=>
 ob (GV.asB C) λA=>jn (bC A (oX 0 [] H) (oN [z,x,y] H)) λe a=>U3 e λb h d=>jn (nB 1 (ix 54 b d λs=>
 ld 55 s a λt=>
 bn .andNot 55 t (.int .u32 (.ofNat 16777215)) λu=>
 bn .neq 55 u (.int .u32 (.ofNat 0)) λv=>
 ob (GV.asB v) λr=>jn (bC r (oN [b,h,d] a) (oR [(.bool false)] a)) λf p=>U3 f λj k l=>oN [j,k,l] p)) λg q=>U3 g λm n o=>bn .add 3 o (i 1) λw=>
 oN [m,n,w] q) (B 49)
def alf (c:CH) (g:QH) (d:V6 GV) (H:GH):RS:=U2 d λe f=>
 K c 230 [e,f] H λb a=>
 oR [b] a
def alg (c:CH) (g:QH) (d:V6 GV) (H:GH):RS:=U2 d λe f=>
 K c 231 [e,f] H λb a=>
 oR [b] a
def alh (c:CH) (q:QH) (t:V6 GV) (H:GH):RS:=U2 t λl m=>
 bn .eql 3 m (i 6) λr=>
 ob (GV.asB r) λp=>jn (bC p (oN [l,m] H) (K c 233 [l] H λs n=>
 oR [s] n)) λj o=>U2 j λk a=>bn .add 3 a (i 1) λg=>
 K c 221 [k,g] o λh e=>
 jn (nB 0 (q 50 [k,a,h] e)) λb f=>U1 b λd=>oR [d] f
def L50 (c:CH) (Y:QH) (us:V6 GV) (H:GH):RS:=U3 us λf g h=>jn (jn (nB 1 (K c 192 [f] H λO D=>
 K c 234 [O] D λe j=>
 bn .eql 3 e (i 0) λa=>
 fW (rG a false j (some (e,j))) λP k=>
 fW (rG a false k (fW (c 235 [P] k) GU)) λQ l=>
 fW (rG a false l (some (g,l))) λR m=>
 fW (rG a false m (ob (Bn y .neq 3 Q R) λC=>some (C,m))) λS n=>
 ob (pZ a (.bool true) S) λT=>
 ob (GV.asB T) λM=>jn (bC M (oN [f,g,h,e] n) (oR [h] n)) λq E=>U4 q λb d t u=>K c 195 [b] E λaa F=>
 bn .add 3 d (i 1) λU=>
 K c 221 [b,U] F λV G=>
 fW (vQ y 251 2 [(0,t),(1,V)] G) λW I=>
 K c 222 [u,W] I λp o=>
 bn .eql 3 d (i 3) λX=>
 ob (GV.asB X) λN=>jn (bC N (oN [b,d,p] o) (oR [p] o)) λr J=>U3 r λv w x=>oN [v,w,x] J)) λs L=>U3 s λz A B=>oN [z,A,B] L) (Y 50)
def ali (c:CH) (g:QH) (k:V6 GV) (H:GH):RS:=U2 k λl b=>
 K c 236 [l,(i 0)] H λh e=>
 ln 251 b λj=>
 jn (nB 0 (g 51 [h,b,j,(i 0)] e)) λa f=>U1 a λd=>oR [d] f
def L51 (c:CH) (A:QH) (B:V6 GV) (H:GH):RS:=U4 B λz j a b=>jn (bn .lss 3 b a λt=>
 ob (GV.asB t) λs=>jn (bC s (oX 0 [z] H) (oN [z,j,a,b] H)) λg f=>U4 g λk d l e=>jn (nB 1 (ix 251 d e λu=>
 ld 167 u f λv=>
 fW (VL y 167 167 k v f) λw q=>
 oN [w,d,l,e] q)) λh r=>U4 h λm n o p=>bn .add 3 p (i 1) λx=>
 oN [m,n,o,x] r) (A 51)
def alj (c:CH) (e:QH) (g:V6 GV) (H:GH):RS:=U2 g λb h=>
 ln 106 b λf=>
 jn (nB 0 (e 52 [b,h,f,(i 0)] H)) λa d=>U0 a (oR [(.int .i64 (.negSucc 0))] d)
def L52 (c:CH) (F:QH) (G:V6 GV) (H:GH):RS:=U4 G λD E B C=>jn (bn .lss 3 C B λw=>
 ob (GV.asB w) λu=>jn (bC u (oX 0 [] H) (oN [D,E,B,C] H)) λf b=>U4 f λd e j a=>jn (nB 1 (ix 106 d a λx=>
 ld 9 x b λy=>
 bn .eql 9 e y λz=>
 ob (GV.asB z) λv=>jn (bC v (oN [d,e,j,a] b) (oR [a] b)) λg s=>U4 g λk l m n=>oN [k,l,m,n] s)) λh t=>U4 h λo p q r=>bn .add 3 r (i 1) λA=>
 oN [o,p,q,A] t) (F 52)
def alk (c:CH) (u:QH) (z:V6 GV) (H:GH):RS:=U2 z λs p=>
 bn .lss 3 p (i 0) λd=>
 fW (rG d false H (some (p,H))) λv q=>
 fW (rG d false q (some (s,q))) λw r=>
 fW (rG d false r (ob (TP y 167 w) λt=>some (t,r))) λx a=>
 fW (rG d false a (ob (Bn y .geq 3 v x) λj=>some (j,a))) λn b=>
 ob (pZ d (.bool true) n) λo=>
 ob (GV.asB o) λm=>jn (bC m (oN [s,p] b) (oR [(.int .i64 (.negSucc 0))] b)) λe k=>U2 e λg h=>jn (nB 0 (u 53 [g,h,(i 1)] k)) λf l=>U0 f (oR [(.int .i64 (.negSucc 0))] l)
def L53 (c:CH) (S:QH) (T:V6 GV) (H:GH):RS:=U3 T λa b q=>jn (ln 167 a λG=>
 bn .lss 3 b G λI=>
 ob (GV.asB I) λD=>jn (bC D (oX 0 [] H) (oN [a,b,q] H)) λm g=>U3 m λd e r=>jn (nB 1 (ix 167 d e λJ=>
 fd 240 0 J λL=>
 ld 3 L g λM=>
 K c 237 [M] g λk h=>
 bn .lss 3 k (i 0) λN=>
 ob (GV.asB N) λE=>jn (bC E (oN [d,e,r,k] h) (oR [(.int .i64 (.negSucc 0))] h)) λn j=>U4 n λs f t u=>bn .sub 3 u (i 1) λO=>
 bn .add 3 t O λl=>
 bn .eql 3 l (i 0) λP=>
 ob (GV.asB P) λF=>jn (bC F (oN [s,f,l] j) (bn .add 3 f (i 1) λQ=>
 oR [Q] j)) λo B=>U3 o λv w x=>oN [v,w,x] B)) λp C=>U3 p λy z A=>bn .add 3 z (i 1) λR=>
 oN [y,R,A] C) (S 53)
def alm (c:CH) (ql:QH) (us:V6 GV) (H:GH):RS:=U2 us λx1 x2=>
 fW (HR x1 H) λo h=>
 fd 240 0 o λt5=>
 ld 3 t5 h λt6=>
 jn (nB 0 (bn .eql 3 t6 (i 1) λt7=>
 ob (GV.asB t7) λq8=>jn (bC q8 (bn .eql 3 t6 (i 5) λn=>
 ob (GV.asB n) λK=>jn (bC K (bn .eql 3 t6 (i 12) λR=>
 oN [x2,o,R] h) (oN [x2,o,n] h)) λp b=>U3 p λt e u=>ob (GV.asB u) λL=>jn (bC L (oN [e] b) (fd 240 1 e λS=>
 ld 3 S b λT=>
 bn .geq 3 T (i 0) λa=>
 fW (rG a true b (ob (Ke y 240 1 e) λC=>some (C,b))) λU g=>
 fW (rG a true g (ob (uR y 3 U g) λD=>some (D,g))) λV k=>
 fW (rG a true k (some (t,k))) λW l=>
 fW (rG a true l (ob (Bn y .lss 3 V W) λE=>some (E,l))) λX G=>
 ob (pZ a X (.bool false)) λY=>
 oR [Y] G)) λq I=>U1 q λv=>oN [v] I) (fd 240 1 o λt9=>
 ld 3 t9 h λM=>
 bn .geq 3 M (i 0) λd=>
 fW (rG d true h (ob (Ke y 240 1 o) λz=>some (z,h))) λN f=>
 fW (rG d true f (ob (uR y 3 N f) λA=>some (A,f))) λO j=>
 fW (rG d true j (ob (Bn y .leq 3 O (i 1073741824)) λB=>some (B,j))) λP F=>
 ob (pZ d P (.bool false)) λQ=>
 oR [Q] F)) λr J=>U1 r λw=>oN [w] J)) λs m=>U1 s λx=>fd 240 1 x λaa=>
 ld 3 aa m λab=>
 bn .eql 3 ab (i 0) λac=>
 oR [ac] m
def aln (c:CH) (g:QH) (e:V6 GV) (H:GH):RS:=U1 e λf=>
 K c 238 [f,(.fn 239 [] [])] H λa b=>
 ex 0 a λd=>
 ex 1 a λh=>
 oR [d] b
def alo (c:CH) (g:QH) (e:V6 GV) (H:GH):RS:=U1 e λf=>
 K c 238 [f,(.fn 240 [] [])] H λa b=>
 ex 0 a λd=>
 ex 1 a λh=>
 oR [d] b
def alp (c:CH) (ql:QH) (us:V6 GV) (H:GH):RS:=U3 us λx1 x2 x3=>
 fW (HR x1 H) λt4 L=>
 fd 244 0 t4 λt6=>
 ld 167 t6 L λt7=>
 ix 167 t7 x2 λt8=>
 ld 240 t8 L λt9=>
 fW (wH y 240 L) λa I=>
 fW (qD y 240 a t9 I) λaq l=>
 bn .add 3 x2 (i 1) λj=>
 fd 240 0 a λR=>
 ld 3 R l λS=>
 K c 237 [S] l λT e=>
 bn .eql 3 T (i 0) λU=>
 ob (GV.asB U) λP=>jn (bC P (oN [x3,t4,j,a] e) (fd 240 0 a λV=>
 ld 3 V e λW=>
 K c 242 [W] e λk m=>
 fW (rG k true m (some (x3,m))) λX n=>
 fW (rG k true n (ob (vUn .not X) λE=>some (E,n))) λY o=>
 ob (pZ k Y (.bool false)) λaa=>
 ob (GV.asB aa) λQ=>jn (bC Q (oN [t4,j,a] o) (oR [(i 0),j] o)) λs f=>U3 s λv w x=>ld 244 v f λab=>
 ld 240 x f λac=>
 K c 243 [ab,ac] f λad J=>
 oR [ad,w] J)) λt p=>U4 t λb z A d=>fW (rG b false p (ob (Ke y 240 0 d) λF=>some (F,p))) λae g=>
 fW (rG b false g (ob (uR y 3 ae g) λG=>some (G,g))) λaf q=>
 fW (rG b false q (fW (c 241 [af] q) GU)) λag M=>
 ob (pZ b (.bool true) ag) λah=>
 fW (wH y 255 M) λai r=>
 fd 240 0 d λaj=>
 ld 3 aj r λak=>
 K c 237 [ak] r λal N=>
 jn (nB 0 (ql 54 [z,A,d,ah,ai,al,(i 0)] N)) λu h=>U3 u λB C D=>fd 240 0 C λam=>
 ld 3 am h λan=>
 ld 255 D h λao=>
 K c 244 [an,ao] h λap O=>
 oR [ap,B] O
def L54 (c:CH) (O:QH) (Q:V6 GV) (H:GH):RS:=U7 Q λx j k z l m n=>jn (bn .lss 3 n m λI=>
 ob (GV.asB I) λG=>jn (bC G (oX 0 [j,k,l] H) (oN [x,j,k,z,l,m,n] H)) λv s=>U7 v λo A B p q C r=>jn (nB 1 (ld 244 o s λJ=>
 K c 228 [J,A,p] s λu D=>
 ex 0 u λL=>
 ex 1 u λM=>
 ix 255 q r λN=>
 fW (qD y 3 N L D) λP E=>
 oN [o,M,B,p,q,C,r] E)) λw F=>U7 w λa b d e f g h=>bn .add 3 h (i 1) λt=>
 oN [a,b,d,e,f,g,t] F) (O 54)
def alq (c:CH) (ql:QH) (us:V6 GV) (H:GH):RS:=U3 us λg h E=>
 ob (GV.nilck g) λt4=>
 fd 247 3 t4 λt5=>
 ld 167 t5 H λt6=>
 ix 167 t6 h λt7=>
 ld 240 t7 H λt8=>
 fW (wH y 240 H) λb U=>
 fW (qD y 240 b t8 U) λa3 a=>
 jn (nB 0 (fd 240 0 b λam=>
 ld 3 am a λan=>
 bn .leq 3 an (i 17) λao=>
 ob (GV.asB ao) λai=>jn (bC ai (fd 240 0 b λau=>
 ld 3 au a λav=>
 bn .leq 3 av (i 19) λaw=>
 ob (GV.asB aw) λaj=>jn (bC aj (fd 240 0 b λaD=>
 ld 3 aD a λaE=>
 bn .leq 3 aE (i 29) λaF=>
 ob (GV.asB aF) λak=>jn (bC ak (fd 240 0 b λaK=>
 ld 3 aK a λaL=>
 bn .leq 3 aL (i 42) λaM=>
 ob (GV.asB aM) λal=>jn (bC al (oN [g,h,E] a) (bn .add 3 h (i 1) λaN=>
 K c 229 [g,aN,E] a λs Y=>
 ex 0 s λaO=>
 ex 1 s λaP=>
 K c 229 [g,aP,E] Y λt n=>
 ex 0 t λaQ=>
 ex 1 t λaR=>
 fd 240 0 b λaS=>
 ld 3 aS n λaT=>
 K c 248 [aT,aO,aQ] n λaU aa=>
 oR [aU,aR] aa)) λz ab=>U3 z λF G I=>oN [F,G,I] ab) (fd 240 0 b λaG=>
 ld 3 aG a λaH=>
 K c 247 [g,aH,h] a λr X=>
 ex 0 r λaI=>
 ex 1 r λaJ=>
 oR [aI,aJ] X)) λA ac=>U3 A λJ L M=>oN [J,L,M] ac) (bn .add 3 h (i 1) λax=>
 K c 229 [g,ax,E] a λq m=>
 ex 0 q λay=>
 ex 1 q λaz=>
 fd 240 0 b λaA=>
 ld 3 aA m λaB=>
 K c 246 [aB,ay] m λaC W=>
 oR [aC,az] W)) λB ad=>U3 B λN O P=>oN [N,O,P] ad) (ld 240 b a λap=>
 K c 245 [g,ap,E] a λaq V=>
 bn .add 3 h (i 1) λar=>
 oR [aq,ar] V)) λC ae=>U3 C λQ R S=>oN [Q,R,S] ae)) λD af=>U3 D λd T e=>bn .add 3 T (i 1) λaV=>
 K c 229 [d,aV,e] af λu ag=>
 ex 0 u λaW=>
 ex 1 u λaX=>
 K c 229 [d,aX,e] ag λv ah=>
 ex 0 v λaY=>
 ex 1 v λa0=>
 K c 229 [d,a0,e] ah λw o=>
 ex 0 w λa1=>
 ex 1 w λx=>
 bn .neq 3 aW (i 0) λa2=>
 ob (GV.asB a2) λp=>jn (bC p (oN [x,a1] o) (oR [aY,x] o)) λf l=>U2 f λj k=>oR [k,j] l
def alr (c:CH) (x:QH) (w:V6 GV) (H:GH):RS:=U2 w λr o=>
 ln 9 r λs=>
 ln 9 o λt=>
 bn .geq 3 s t λb=>
 fW (rG b true H (some (r,H))) λu p=>
 fW (rG b true p (some (o,p))) λv q=>
 fW (rG b true q (ob (TP y 9 v) λf=>some (f,q))) λj a=>
 fW (rG b true a (ob (CL y 9 u none (some j) a) λg=>some (g,a))) λk d=>
 fW (rG b true d (some (o,d))) λl e=>
 fW (rG b true e (ob (Bn y .eql 9 k l) λh=>some (h,e))) λm i=>
 ob (pZ b m (.bool false)) λn=>
 oR [n] i
def als (c:CH) (g:QH) (d:V6 GV) (H:GH):RS:=U2 d λe f=>
 K c 249 [e,f] H λb a=>
 oR [b] a
def alt (c:CH) (J:QH) (I:V6 GV) (H:GH):RS:=U1 I λf=>
 jn (nB 0 (K c 191 [f,(.str 45 1)] H λD z=>
 ob (GV.asB D) λC=>jn (bC C (K c 191 [f,(.str 33 1)] z λt a=>
 ob (GV.asB t) λs=>jn (bC s (oN [f] a) (K c 233 [f] a λu l=>
 fW (vQ y 251 1 [(0,u)] l) λv m=>
 K c 222 [(i 19),v] m λw n=>
 oR [w] n)) λb o=>U1 b λg=>oN [g] o) (K c 233 [f] z λE A=>
 fW (vQ y 251 1 [(0,E)] A) λF B=>
 K c 222 [(i 18),F] B λG k=>
 oR [G] k)) λd p=>U1 d λh=>oN [h] p)) λe q=>U1 e λj=>K c 250 [j] q λx r=>
 oR [x] r
def alu (c:CH) (h:QH) (f:V6 GV) (H:GH):RS:=U1 f λg=>
 K c 252 [] H λd a=>
 K c 251 [g,(i 30),d] a λe b=>
 oR [e] b
def alv (c:CH) (ql:QH) (us:V6 GV) (H:GH):RS:=U1 us λa=>
 jn (nB 0 (bn .eql 3 a (i 43) λt2=>
 ob (GV.asB t2) λq3=>jn (bC q3 (bn .eql 3 a (i 42) λt4=>
 ob (GV.asB t4) λq5=>jn (bC q5 (bn .eql 3 a (i 41) λt6=>
 ob (GV.asB t6) λq7=>jn (bC q7 (bn .eql 3 a (i 35) λt8=>
 ob (GV.asB t8) λq9=>jn (bC q9 (bn .eql 3 a (i 36) λk=>
 ob (GV.asB k) λam=>jn (bC am (bn .eql 3 a (i 37) λl=>
 ob (GV.asB l) λan=>jn (bC an (bn .eql 3 a (i 38) λm=>
 ob (GV.asB m) λao=>jn (bC ao (bn .eql 3 a (i 39) λn=>
 ob (GV.asB n) λap=>jn (bC ap (bn .eql 3 a (i 40) λaA=>
 oN [a,aA] H) (oN [a,n] H)) λs Y=>U2 s λK L=>oN [K,L] Y) (oN [a,m] H)) λt aa=>U2 t λM N=>oN [M,N] aa) (oN [a,l] H)) λu ab=>U2 u λO P=>oN [O,P] ab) (oN [a,k] H)) λv ac=>U2 v λQ R=>oN [Q,R] ac) (oN [a,t8] H)) λw f=>U2 w λd S=>ob (GV.asB S) λaq=>jn (bC aq (bn .eql 3 d (i 33) λo=>
 ob (GV.asB o) λar=>jn (bC ar (bn .eql 3 d (i 34) λaB=>
 oN [d,aB] f) (oN [d,o] f)) λx e=>U2 x λb T=>ob (GV.asB T) λau=>jn (bC au (bn .eql 3 b (i 30) λp=>
 ob (GV.asB p) λav=>jn (bC av (bn .eql 3 b (i 31) λq=>
 ob (GV.asB q) λaw=>jn (bC aw (bn .eql 3 b (i 32) λaC=>
 oN [b,aC] e) (oN [b,q] e)) λy ad=>U2 y λU V=>oN [U,V] ad) (oN [b,p] e)) λz g=>U2 z λh W=>ob (GV.asB W) λax=>jn (bC ax (bn .eql 3 h (i 18) λr=>
 ob (GV.asB r) λay=>jn (bC ay (bn .eql 3 h (i 19) λaD=>
 oN [aD] g) (oN [r] g)) λA j=>U1 A λX=>ob (GV.asB X) λaz=>jn (bC az (oN [] j) (oR [(i 6)] j)) λB ae=>U0 B (oN [] ae)) (oR [(i 5)] g)) λC af=>U0 C (oN [] af)) (oR [(i 4)] e)) λD ag=>U0 D (oN [] ag)) (oR [(i 3)] f)) λE ah=>U0 E (oN [] ah)) (oR [(i 2)] H)) λF ai=>U0 F (oN [] ai)) (oR [(i 1)] H)) λG aj=>U0 G (oN [] aj)) (oR [(i 0)] H)) λI ak=>U0 I (oN [] ak))) λJ al=>U0 J (oR [(i 7)] al)
def alw (c:CH) (h:QH) (e:V6 GV) (H:GH):RS:=U2 e λf g=>
 bd 240 [(0,f),(1,g)] λb=>
 fW (vQ y 167 1 [(0,b)] H) λd a=>
 oR [d] a
def alx (c:CH) (D:QH) (C:V6 GV) (H:GH):RS:=U1 C λh=>
 jn (nB 0 (bn .lss 3 h (i 1) λu=>
 fW (rG u false H (some (h,H))) λz v=>
 fW (rG u false v (ob (Bn y .gtr 3 z (i 43)) λw=>some (w,v))) λA a=>
 ob (pZ u (.bool true) A) λB=>
 ob (GV.asB B) λx=>jn (bC x (bn .leq 3 h (i 17) λr=>
 ob (GV.asB r) λo=>jn (bC o (bn .leq 3 h (i 29) λs=>
 ob (GV.asB s) λp=>jn (bC p (bn .leq 3 h (i 42) λt=>
 ob (GV.asB t) λq=>jn (bC q (oN [] a) (oR [(i 2)] a)) λb j=>U0 b (oN [] j)) (oR [(i 1)] a)) λd k=>U0 d (oN [] k)) (oR [(i 0)] a)) λe l=>U0 e (oN [] l)) (oR [(.int .i64 (.negSucc 0))] a)) λf m=>U0 f (oN [] m))) λg n=>U0 g (oR [(i 3)] n)
def aly (c:CH) (q:QH) (u:V6 GV) (H:GH):RS:=U2 u λm v=>
 K c 224 [m,(i 0)] H λr n=>
 ln 167 m λs=>
 bn .neq 3 r s λt=>
 ob (GV.asB t) λp=>jn (bC p (oN [m,v] n) (oR [(i 0),(.bool false)] n)) λl o=>U2 l λa e=>ln 167 a λg=>
 bn .sub 3 g (i 1) λh=>
 jn (nB 0 (q 55 [a,e,.snil,h] o)) λd b=>U1 d λf=>ix 22 f (i 0) λj=>
 ld 3 j b λk=>
 oR [k,(.bool true)] b
def L55 (c:CH) (ql:QH) (us:V6 GV) (H:GH):RS:=U4 us λt u e f=>jn (bn .geq 3 f (i 0) λL=>
 ob (GV.asB L) λJ=>jn (bC J (oX 0 [e] H) (oN [t,u,e,f] H)) λq m=>U4 q λg v a h=>jn (nB 1 (ln 22 a λM=>
 ix 167 g h λN=>
 fd 240 0 N λO=>
 ld 3 O m λP=>
 K c 237 [P] m λQ n=>
 bn .sub 3 M Q λo=>
 ob (CL y 22 a (some o) none n) λp=>
 ln 22 p λR=>
 jn (nB 2 (ql 56 [g,v,a,h,o,(i 0),p,R,(i 0)] n)) λr b=>U6 r λj k w l x z=>ob (CL y 22 w none (some x) b) λS=>
 ix 167 j l λT=>
 fd 240 0 T λU=>
 ld 3 U b λV=>
 ob (GV.asF k) λd=>fW (c d.1 (d.2.1++[V,z]++d.2.2) b) λW E=>
 fW (vQ y 22 1 [(0,W)] E) λX F=>
 fW (VL y 22 22 S X F) λY G=>
 oN [j,k,Y,l] G)) λs I=>U4 s λA B C D=>bn .sub 3 D (i 1) λaa=>
 oN [A,B,C,aa] I) (ql 55)
def L56 (c:CH) (O:QH) (P:V6 GV) (H:GH):RS:=U9 P λd e f g h j s k l=>jn (bn .lss 3 l k λK=>
 ob (GV.asB K) λJ=>jn (bC J (oX 2 [d,e,f,g,h,j] H) (oN [d,e,f,g,h,j,s,k,l] H)) λq o=>U9 q λt u v w x y m z n=>jn (nB 3 (ix 22 m n λL=>
 ld 3 L o λM=>
 ob (TS y M) λN=>
 oN [t,u,v,w,x,N,m,z,n] o)) λr I=>U9 r λA B C D E F G a b=>bn .add 3 b (i 1) λp=>
 oN [A,B,C,D,E,F,G,a,p] I) (O 56)
def alz (c:CH) (e:QH) (b:V6 GV) (H:GH):RS:=U2 b λf d=>
 bn .add 3 d (i 1) λa=>
 oR [a] H
def alA (c:CH) (m:QH) (k:V6 GV) (H:GH):RS:=U2 k λl d=>
 K c 241 [l] H λh b=>
 ob (GV.asB h) λg=>jn (bC g (oN [d] b) (bn .add 3 d (i 1) λj=>
 oR [j] b)) λa f=>U1 a λe=>oR [e] f
def alB (c:CH) (l:QH) (k:V6 GV) (H:GH):RS:=U1 k λd=>
 bn .geq 3 d (i 20) λa=>
 fW (rG a true H (some (d,H))) λg b=>
 fW (rG a true b (ob (Bn y .leq 3 g (i 29)) λe=>some (e,b))) λh f=>
 ob (pZ a h (.bool false)) λj=>
 oR [j] f
def alC (c:CH) (ql:QH) (us:V6 GV) (H:GH):RS:=U2 us λx1 x2=>
 fW (HR x1 H) λD h4=>
 fW (HR x2 h4) λr m=>
 fd 240 0 r λt7=>
 ld 3 t7 m λe=>
 jn (nB 0 (bn .eql 3 e (i 2) λt9=>
 ob (GV.asB t9) λae=>jn (bC ae (bn .eql 3 e (i 3) λn=>
 ob (GV.asB n) λaf=>jn (bC af (bn .eql 3 e (i 10) λo=>
 ob (GV.asB o) λag=>jn (bC ag (bn .eql 3 e (i 15) λan=>
 oN [D,r,e,an] m) (oN [D,r,e,o] m)) λt W=>U4 t λE F G I=>oN [E,F,G,I] W) (oN [D,r,e,n] m)) λu X=>U4 u λJ K L M=>oN [J,K,L,M] X) (oN [D,r,e,t9] m)) λv d=>U4 v λf g a N=>ob (GV.asB N) λah=>jn (bC ah (bn .eql 3 a (i 4) λp=>
 ob (GV.asB p) λai=>jn (bC ai (bn .eql 3 a (i 11) λq=>
 ob (GV.asB q) λaj=>jn (bC aj (bn .eql 3 a (i 17) λao=>
 oN [f,g,a,ao] d) (oN [f,g,a,q] d)) λw Y=>U4 w λO P Q R=>oN [O,P,Q,R] Y) (oN [f,g,a,p] d)) λx h=>U4 x λj k l S=>ob (GV.asB S) λak=>jn (bC ak (bn .eql 3 l (i 5) λs=>
 ob (GV.asB s) λal=>jn (bC al (bn .eql 3 l (i 12) λap=>
 oN [j,k,ap] h) (oN [j,k,s] h)) λy b=>U3 y λT U V=>ob (GV.asB V) λam=>jn (bC am (oN [] b) (fd 244 1 T λaq=>
 ld 22 aq b λar=>
 fd 240 1 U λau=>
 ld 3 au b λav=>
 ix 22 ar av λaw=>
 ld 3 aw b λax=>
 oR [ax] b)) λz aa=>U0 z (oN [] aa)) (oR [(i 3)] h)) λA ab=>U0 A (oN [] ab)) (oR [(i 2)] d)) λB ac=>U0 B (oN [] ac))) λC ad=>U0 C (oR [(i 1)] ad)
def alD (c:CH) (ql:QH) (us:V6 GV) (H:GH):RS:=U2 us λp x2=>
 fW (HR x2 H) λt3 D=>
 ix 255 t3 (i 0) λt5=>
 ld 3 t5 D λt6=>
 ix 255 t3 (i 1) λt7=>
 ld 3 t7 D λt8=>
 ix 255 t3 (i 2) λt9=>
 ld 3 t9 D λj=>
 jn (nB 0 (bn .eql 3 p (i 18) λcj=>
 ob (GV.asB cj) λdF=>jn (bC dF (bn .eql 3 p (i 24) λcl=>
 ob (GV.asB cl) λdG=>jn (bC dG (bn .eql 3 p (i 25) λcq=>
 ob (GV.asB cq) λdH=>jn (bC dH (bn .eql 3 p (i 26) λcw=>
 ob (GV.asB cw) λdI=>jn (bC dI (bn .eql 3 p (i 27) λcy=>
 ob (GV.asB cy) λdJ=>jn (bC dJ (bn .eql 3 p (i 28) λcD=>
 ob (GV.asB cD) λdK=>jn (bC dK (bn .eql 3 p (i 29) λdR=>
 oN [t6,t8,j,p,dR] D) (oN [t6,t8,j,p,cD] D)) λcQ dw=>U5 cQ λcY c0 c1 c2 c3=>oN [cY,c0,c1,c2,c3] dw) (oN [t6,t8,j,p,cy] D)) λcR dx=>U5 cR λc4 c5 c6 c7 c8=>oN [c4,c5,c6,c7,c8] dx) (oN [t6,t8,j,p,cw] D)) λcS dy=>U5 cS λc9 da db dc dd=>oN [c9,da,db,dc,dd] dy) (oN [t6,t8,j,p,cq] D)) λcT dz=>U5 cT λde df dg dh di=>oN [de,df,dg,dh,di] dz) (oN [t6,t8,j,p,cl] D)) λcU dA=>U5 cU λdj dk dl dm dn=>oN [dj,dk,dl,dm,dn] dA) (oN [t6,t8,j,p,cj] D)) λcV F=>U5 cV λE af ag q dp=>ob (GV.asB dp) λdL=>jn (bC dL (bn .eql 3 q (i 19) λcO=>
 ob (GV.asB cO) λdM=>jn (bC dM (bn .eql 3 q (i 20) λcP=>
 ob (GV.asB cP) λdN=>jn (bC dN (bn .eql 3 q (i 21) λdU=>
 oN [E,af,ag,q,dU] F) (oN [E,af,ag,q,cP] F)) λcW dC=>U5 cW λdq dr ds dt du=>oN [dq,dr,ds,dt,du] dC) (oN [E,af,ag,q,cO] F)) λcX h=>U5 cX λg v w b dv=>ob (GV.asB dv) λdO=>jn (bC dO (bn .eql 3 b (i 22) λdX=>
 ob (GV.asB dX) λdP=>jn (bC dP (bn .eql 3 b (i 23) λd1=>
 ob (GV.asB d1) λdQ=>jn (bC dQ (bn .eql 3 b (i 30) λV=>
 ob (GV.asB V) λb4=>jn (bC b4 (bn .eql 3 b (i 31) λW=>
 ob (GV.asB W) λb5=>jn (bC b5 (bn .eql 3 b (i 32) λX=>
 ob (GV.asB X) λb6=>jn (bC b6 (bn .eql 3 b (i 33) λY=>
 ob (GV.asB Y) λb7=>jn (bC b7 (bn .eql 3 b (i 34) λck=>
 oN [g,v,w,b,ck] h) (oN [g,v,w,b,Y] h)) λah bG=>U5 ah λaB aC aD aE aF=>oN [aB,aC,aD,aE,aF] bG) (oN [g,v,w,b,X] h)) λai bH=>U5 ai λaG aH aI aJ aK=>oN [aG,aH,aI,aJ,aK] bH) (oN [g,v,w,b,W] h)) λaj bI=>U5 aj λaL aM aN aO aP=>oN [aL,aM,aN,aO,aP] bI) (oN [g,v,w,b,V] h)) λak m=>U5 ak λr s G k aQ=>ob (GV.asB aQ) λb8=>jn (bC b8 (bn .eql 3 k (i 35) λaa=>
 ob (GV.asB aa) λb9=>jn (bC b9 (bn .eql 3 k (i 36) λcr=>
 oN [r,s,G,k,cr] m) (oN [r,s,G,k,aa] m)) λal e=>U5 al λd f l a aR=>ob (GV.asB aR) λca=>jn (bC ca (bn .eql 3 a (i 37) λab=>
 ob (GV.asB ab) λcb=>jn (bC cb (bn .eql 3 a (i 38) λac=>
 ob (GV.asB ac) λcc=>jn (bC cc (bn .eql 3 a (i 39) λad=>
 ob (GV.asB ad) λcd=>jn (bC cd (bn .eql 3 a (i 40) λcx=>
 oN [d,f,l,a,cx] e) (oN [d,f,l,a,ad] e)) λam bN=>U5 am λaS aT aU aV aW=>oN [aS,aT,aU,aV,aW] bN) (oN [d,f,l,a,ac] e)) λan bO=>U5 an λaX aY a0 a1 a2=>oN [aX,aY,a0,a1,a2] bO) (oN [d,f,l,a,ab] e)) λao n=>U5 ao λt u I J a3=>ob (GV.asB a3) λce=>jn (bC ce (bn .eql 3 J (i 41) λae=>
 ob (GV.asB ae) λcf=>jn (bC cf (bn .eql 3 J (i 42) λcE=>
 oN [t,u,I,cE] n) (oN [t,u,I,ae] n)) λap x=>U4 ap λL M a4 a5=>ob (GV.asB a5) λcg=>jn (bC cg (oN [L,M,a4] x) (bn .eql 3 L (i 2) λC=>
 fW (rG C true x (some (M,x))) λcF R=>
 fW (rG C true R (ob (Bn y .eql 3 cF (i 2)) λbD=>some (bD,R))) λcG bR=>
 ob (pZ C cG (.bool false)) λcH=>
 K c 253 [cH,(i 2)] bR λcI bS=>
 oR [cI] bS)) λaq bT=>U3 aq λa6 a7 a8=>oN [a6,a7,a8] bT) (bn .eql 3 t (i 1) λB=>
 fW (rG B true n (some (u,n))) λcz Q=>
 fW (rG B true Q (ob (Bn y .eql 3 cz (i 1)) λbB=>some (bB,Q))) λcA bP=>
 ob (pZ B cA (.bool false)) λcB=>
 K c 253 [cB,(i 2)] bP λcC bQ=>
 oR [cC] bQ)) λar bU=>U3 ar λa9 ba bb=>oN [a9,ba,bb] bU) (bn .eql 3 d f λA=>
 fW (rG A true e (some (d,e))) λcs P=>
 fW (rG A true P (ob (Bn y .neq 3 cs (i 0)) λbA=>some (bA,P))) λct bL=>
 ob (pZ A ct (.bool false)) λcu=>
 K c 253 [cu,(i 2)] bL λcv bM=>
 oR [cv] bM)) λau bV=>U3 au λbc bd be=>oN [bc,bd,be] bV) (bn .eql 3 r (i 1) λz=>
 fW (rG z true m (some (s,m))) λcm O=>
 fW (rG z true O (ob (Bn y .eql 3 cm (i 1)) λbz=>some (bz,O))) λcn bJ=>
 ob (pZ z cn (.bool false)) λco=>
 K c 253 [co,(i 1)] bJ λcp bK=>
 oR [cp] bK)) λav bW=>U3 av λbf bg bh=>oN [bf,bg,bh] bW) (bn .eql 3 g (i 2) λch=>
 K c 253 [ch,(i 3)] h λci bF=>
 oR [ci] bF)) λaw bX=>U3 aw λbi bj bk=>oN [bi,bj,bk] bX) (bn .eql 3 g (i 2) λdY=>
 K c 253 [dY,(i 1)] h λd0 dE=>
 oR [d0] dE)) λax bY=>U3 ax λbl bm bo=>oN [bl,bm,bo] bY) (bn .eql 3 g (i 2) λdV=>
 K c 253 [dV,(i 2)] h λdW dD=>
 oR [dW] dD)) λay b0=>U3 ay λbp bq br=>oN [bp,bq,br] b0) (bn .eql 3 E (i 1) λdS=>
 K c 253 [dS,(i 1)] F λdT dB=>
 oR [dT] dB)) λaz b1=>U3 az λbs bt bu=>oN [bs,bt,bu] b1)) λaA S=>U3 aA λbw N bx=>bn .eql 3 bw (i 2) λo=>
 fW (rG o true S (some (N,S))) λcJ T=>
 fW (rG o true T (some (bx,T))) λcK U=>
 fW (rG o true U (ob (Bn y .eql 3 cJ cK) λbE=>some (bE,U))) λcL b2=>
 ob (pZ o cL (.bool false)) λcM=>
 K c 253 [cM,N] b2 λcN b3=>
 oR [cN] b3
def alE (c:CH) (ql:QH) (us:V6 GV) (H:GH):RS:=U1 us λs=>
 K c 192 [s] H λt2 h3=>
 K c 193 [s] h3 λt4 h5=>
 bn .eql 3 t4 (i 2) λt6=>
 ob (GV.asB t6) λq7=>jn (bC q7 (oN [s,t2] h5) (K c 195 [s] h5 λt8 h9=>
 pt 154 3 t8 λX=>
 K c 236 [(i 1),X] h9 λY x=>
 oR [Y] x)) λn z=>U2 n λb t=>K c 191 [b,(.str 40 1)] z λaa g=>
 ob (GV.asB aa) λT=>jn (bC T (oN [b,t] g) (K c 198 [b] g λab A=>
 K c 147 [b,(.str 41 1)] A λam B=>
 oR [ab] B)) λo C=>U2 o λd u=>K c 191 [d,(.str 113 1)] C λac h=>
 ob (GV.asB ac) λU=>jn (bC U (oN [d,u] h) (K c 260 [d] h λad D=>
 oR [ad] D)) λp E=>U2 p λe f=>K c 261 [f] E λl j=>
 bn .neq 3 l (i 0) λae=>
 ob (GV.asB ae) λV=>jn (bC V (oN [e,f] j) (K c 195 [e] j λan F=>
 K c 236 [l,(i 0)] F λaf G=>
 oR [af] G)) λq I=>U2 q λa v=>K c 262 [v] I λm k=>
 bn .neq 3 m (i 0) λag=>
 ob (GV.asB ag) λW=>jn (bC W (oN [a] k) (K c 195 [a] k λao J=>
 K c 147 [a,(.str 40 1)] J λap L=>
 K c 198 [a] L λah M=>
 K c 147 [a,(.str 41 1)] M λaq N=>
 fW (vQ y 251 1 [(0,ah)] N) λai O=>
 K c 222 [m,ai] O λaj P=>
 oR [aj] P)) λr Q=>U1 r λw=>K c 199 [w] Q λak R=>
 K c 236 [(i 5),ak] R λal S=>
 oR [al] S
def alF (c:CH) (m:QH) (o:V6 GV) (H:GH):RS:=U3 o λg p q=>
 bn .eql 9 g (.str 0 0) λn=>
 ob (GV.asB n) λl=>jn (bC l (oN [g,p,q] H) (oR [(i 0)] H)) λf k=>U3 f λh j a=>ln 106 a λe=>
 jn (nB 0 (m 58 [h,j,a,e,(i 0)] k)) λb d=>U0 b (oR [(i 0)] d)
def L58 (c:CH) (L:QH) (M:V6 GV) (H:GH):RS:=U5 M λm n o d e=>jn (bn .lss 3 e d λE=>
 ob (GV.asB E) λC=>jn (bC C (oX 0 [] H) (oN [m,n,o,d,e] H)) λj b=>U5 j λf g h p a=>jn (nB 1 (ix 106 h a λF=>
 ld 9 F b λG=>
 bn .eql 9 G f λI=>
 ob (GV.asB I) λD=>jn (bC D (oN [f,g,h,p,a] b) (bn .add 3 g a λJ=>
 oR [J] b)) λk A=>U5 k λq r s t u=>oN [q,r,s,t,u] A)) λl B=>U5 l λv w x y z=>bn .add 3 z (i 1) λK=>
 oN [v,w,x,y,K] B) (L 58)
def alG (c:CH) (e:QH) (d:V6 GV) (H:GH):RS:=U0 d (fW (vQ y 106 13 [(0,(.str 42 1)),(1,(.str 47 1)),(2,(.str 37 1)),(3,(.str 43 1)),(4,(.str 45 1)),(5,(.str 15677 2)),(6,(.str 15649 2)),(7,(.str 60 1)),(8,(.str 15676 2)),(9,(.str 62 1)),(10,(.str 15678 2)),(11,(.str 9766 2)),(12,(.str 31868 2))] H) λb a=>
 oR [b] a)
def alH (c:CH) (h:QH) (e:V6 GV) (H:GH):RS:=U2 e λf g=>
 ob (GV.asB f) λd=>jn (bC d (oN [] H) (oR [g] H)) λa b=>U0 a (oR [(i 0)] b)
def alI (c:CH) (g:QH) (e:V6 GV) (H:GH):RS:=U1 e λf=>
 ob (GV.asB f) λd=>jn (bC d (oN [] H) (oR [(i 1)] H)) λa b=>U0 a (oR [(i 0)] b)
def aiA:I_:=[(13,59),(24,60)]
def alJ (c:CH) (f:QH) (d:V6 GV) (H:GH):RS:=U1 d λe=>
 ob (acX e (i 1073741824)) λa=>
 ob (TS (.int .i64 (.negSucc 1073741823)) a) λb=>
 oR [b] H
def alK (c:CH) (h:QH) (f:V6 GV) (H:GH):RS:=U1 f λg=>
 K c 269 [] H λd a=>
 K c 251 [g,(i 2),d] a λe b=>
 oR [e] b
def alL (c:CH) (h:QH) (f:V6 GV) (H:GH):RS:=U1 f λg=>
 K c 270 [] H λd a=>
 K c 251 [g,(i 20),d] a λe b=>
 oR [e] b
def alM (c:CH) (f:QH) (h:V6 GV) (H:GH):RS:=U1 h λb=>
 ln 22 b λg=>
 jn (nB 0 (f 61 [(i 0),b,g,(i 0)] H)) λa e=>U1 a λd=>oR [d] e
def L61 (c:CH) (G:QH) (I:V6 GV) (H:GH):RS:=U4 I λC F D E=>jn (bn .lss 3 E D λw=>
 ob (GV.asB w) λu=>jn (bC u (oX 0 [C] H) (oN [C,F,D,E] H)) λg d=>U4 g λe a f b=>jn (nB 1 (ix 22 a b λx=>
 ld 3 x d λy=>
 bn .neq 3 y (i 0) λz=>
 ob (GV.asB z) λv=>jn (bC v (oN [e,a,f,b] d) (bn .add 3 e (i 1) λA=>
 oN [A,a,f,b] d)) λh s=>U4 h λk l m n=>oN [k,l,m,n] s)) λj t=>U4 j λo p q r=>bn .add 3 r (i 1) λB=>
 oN [o,p,q,B] t) (G 61)
def alN (c:CH) (e:QH) (g:V6 GV) (H:GH):RS:=U2 g λb h=>
 ln 22 b λf=>
 jn (nB 0 (e 62 [b,h,f,(i 0)] H)) λa d=>U0 a (oR [(.int .i64 (.negSucc 0))] d)
def L62 (c:CH) (I:QH) (J:V6 GV) (H:GH):RS:=U4 J λF G D E=>jn (bn .lss 3 E D λy=>
 ob (GV.asB y) λw=>jn (bC w (oX 0 [] H) (oN [F,G,D,E] H)) λh f=>U4 h λd e l a=>jn (nB 1 (ix 22 d a λz=>
 ld 3 z f λA=>
 ob (GV.asF e) λb=>fW (c b.1 (b.2.1++[A]++b.2.2) f) λB g=>
 ob (GV.asB B) λx=>jn (bC x (oN [d,e,l,a] g) (oR [a] g)) λj u=>U4 j λm n o p=>oN [m,n,o,p] u)) λk v=>U4 k λq r s t=>bn .add 3 t (i 1) λC=>
 oN [q,r,s,C] v) (I 62)
def alO (c:CH) (e:QH) (b:V6 GV) (H:GH):RS:=U1 b λd=>
 bn .neq 3 d (i 0) λa=>
 oR [a] H
def alP (c:CH) (g:QH) (j:V6 GV) (H:GH):RS:=U1 j λb=>
 ln 22 b λh=>
 jn (nB 0 (g 63 [(.int .i64 (.negSucc 1073741823)),(.int .i64 (.negSucc 1073741823)),b,h,(i 0)] H)) λa f=>U2 a λd e=>oR [d,e] f
def L63 (c:CH) (L:QH) (M:V6 GV) (H:GH):RS:=U5 M λI J K g h=>jn (bn .lss 3 h g λC=>
 ob (GV.asB C) λA=>jn (bC A (oX 0 [I,J] H) (oN [I,J,K,g,h] H)) λk e=>U5 k λa n b j d=>jn (nB 1 (ix 22 b d λD=>
 ld 3 D e λf=>
 bn .gtr 3 f a λE=>
 ob (GV.asB E) λB=>jn (bC B (ob (TS n f) λF=>
 oN [a,F,b,j,d] e) (oN [f,a,b,j,d] e)) λl y=>U5 l λo p q r s=>oN [o,p,q,r,s] y)) λm z=>U5 m λt u v w x=>bn .add 3 x (i 1) λG=>
 oN [t,u,v,w,G] z) (L 63)
def alQ (c:CH) (e:QH) (f:V6 GV) (H:GH):RS:=U1 f λg=>
 jn (nB 0 (e 64 [g,(i 0)] H)) λa d=>U1 a λb=>oR [b] d
def L64 (c:CH) (p:QH) (r:V6 GV) (H:GH):RS:=U2 r λm h=>jn (K c 271 [m,h] H λq n=>
 ob (GV.asB q) λo=>jn (bC o (oX 0 [h] n) (oN [m,h] n)) λa j=>U2 a λd e=>jn (nB 1 (bn .add 3 e (i 1) λl=>
 oN [d,l] j)) λb k=>U2 b λf g=>oN [f,g] k) (p 64)
def alR (c:CH) (h:QH) (f:V6 GV) (H:GH):RS:=U1 f λg=>
 K c 272 [] H λd a=>
 K c 251 [g,(i 13),d] a λe b=>
 oR [e] b
def alS (c:CH) (h:QH) (e:V6 GV) (H:GH):RS:=U2 e λf g=>
 K c 164 [f,g] H λb a=>
 bn .geq 3 b (i 0) λd=>
 oR [d] a
def alT (c:CH) (e:QH) (d:V6 GV) (H:GH):RS:=U0 d (fW (vQ y 106 5 [(0,(.str 25705 2)),(1,(.str 6776164 3)),(2,(.str 1953460082 4)),(3,(.str 127991760381303 6)),(4,(.str 1801675106 4))] H) λb a=>
 oR [b] a)
def d0:(Code×Cx)×gS:=gD (dK f76 [1,1,1,0,1,0,0],jW f76 [(0,0)]) 0
def d1:(Code×Cx)×gS:=gD (dK f79 [1,1,0,1,0,0],jW f79 [(0,0)]) 1
def d2:(Code×Cx)×gS:=((dK f85 [1,1,1,0,1,0,0],jW f85 [(0,32)]),L2)
def d3:(Code×Cx)×gS:=gDs (dK f88 [1,1,1,0,1,0,0],jW f88 [(0,2)]) s88
def d4:(Code×Cx)×gS:=gDs (dK f88 [1,1,1,1,0,1,0,0],jW f88 [(2,2)]) s88
def d5:(Code×Cx)×gS:=gDs (dK f88 [1,1,1,1,1,1,0,1,0,0],jW f88 [(4,0)]) s88
def d6:(Code×Cx)×gS:=gD (dK f96 [1,1,1,0,1,0,0],jW f96 [(0,8)]) 6
def d7:(Code×Cx)×gS:=gD (dK f115 [1,1,1,0,1,0,0],jW f115 [(0,0)]) 7
def d8:(Code×Cx)×gS:=gD (dK f120 [1,0,1,0,0],jW f120 [(0,0)]) 8
def d9:(Code×Cx)×gS:=gD1 (dK f126 [1,1,0,1,0,0],jW f126 [(0,8)]) 1 9 10
def d10:(Code×Cx)×gS:=gD (dK f126 [1,1,0,1,0,0,1,1,0,0,1,1,0,0],jW f126 [(2,57352),(1,57352),(0,8)]) 10
def d11:(Code×Cx)×gS:=gD (dK f128 [1,1,1,1,1,1,1,0,1,0,0],jW f128 [(0,5378)]) 11
def d12:(Code×Cx)×gS:=gD1 (dK f135 [1,1,0,1,0,0],jW f135 [(0,32)]) 1 12 13
def d13:(Code×Cx)×gS:=gD (dK f135 [1,1,0,1,0,0,1,1,0,0,1,1,1,0,0],jW f135 [(2,49196),(1,49196),(0,32)]) 13
def d14:(Code×Cx)×gS:=gD (dK f137 [1,1,0,1,0,0],jW f137 [(0,0)]) 14
def d15:(Code×Cx)×gS:=gD (dK f140 [1,0,1,0,0],jW f140 [(0,0)]) 15
def d16:(Code×Cx)×gS:=((dK f143 [1,0,0,0],jW f143 [(0,2)]),L16)
def d17:(Code×Cx)×gS:=((dK f143 [1,0,0,0,1,0,1,0,1,1,1,0,0,0],jW f143 [(3,3),(2,3),(1,3),(0,2)]),L17)
def d18:(Code×Cx)×gS:=gD (dK f148 [1,1,1,0,1,0,0],jW f148 [(0,33)]) 18
def d19:(Code×Cx)×gS:=((dK f149 [1,0,0],jW f149 [(0,0)]),L19)
def d20:(Code×Cx)×gS:=gD (dK f151 [1,1,1,1,1,0,0,0],jW f151 [(0,5)]) 20
def d21:(Code×Cx)×gS:=gDs (dK f154 [1,1,1,0,1,0,0],jW f154 [(0,2)]) aiz
def d22:(Code×Cx)×gS:=gDs (dK f154 [1,1,1,1,1,0,1,0,0],jW f154 [(2,0)]) aiz
def d23:(Code×Cx)×gS:=gD (dK f156 [1,1,1,0,1,0,0],jW f156 [(0,0)]) 23
def d24:(Code×Cx)×gS:=gD (dK f157 [1,1,0,1,0,0],jW f157 [(0,8)]) 24
def d25:(Code×Cx)×gS:=gD (dK f158 [1,1,0,1,0,0],jW f158 [(0,0)]) 25
def d26:(Code×Cx)×gS:=gD (dK f159 [1,1,0,1,0,0],jW f159 [(0,0)]) 26
def d27:(Code×Cx)×gS:=((dK f160 [1,1,0,1,0,0],jW f160 [(0,8)]),L27)
def d28:(Code×Cx)×gS:=gDs (dK f161 [1,1,0,1,0,0],jW f161 [(0,38)]) afF
def d29:(Code×Cx)×gS:=gDs (dK f161 [1,1,1,1,1,0,0,0],jW f161 [(2,32)]) afF
def d30:(Code×Cx)×gS:=gDs (dK f161 [1,1,1,1,1,0,0,0,1,0,1,1,1,0,0],jW f161 [(4,164),(3,164),(2,32)]) afF
def d31:(Code×Cx)×gS:=((dK f164 [1,0,1,0,0],jW f164 [(0,0)]),L31)
def d32:(Code×Cx)×gS:=gD (dK f168 [1,1,0,1,0,0],jW f168 [(0,0)]) 32
def d33:(Code×Cx)×gS:=gD1 (dK f169 [1,1,0,1,0,0],jW f169 [(0,32)]) 1 33 34
def d34:(Code×Cx)×gS:=gD (dK f169 [1,1,0,1,0,0,1,1,0,0,1,1,1,0,0],jW f169 [(2,3670056),(1,3670056),(0,32)]) 34
def d35:(Code×Cx)×gS:=((dK f170 [1,1,0,1,0,0],jW f170 [(0,8)]),L35)
def d36:(Code×Cx)×gS:=gD (dK f171 [1,1,0,1,0,0],jW f171 [(0,512)]) 36
def d37:(Code×Cx)×gS:=gD (dK f173 [1,1,0,1,0,0],jW f173 [(0,0)]) 37
def d38:(Code×Cx)×gS:=((dK f177 [1,1,0,1,0,0],jW f177 [(0,128)]),L38)
def d39:(Code×Cx)×gS:=gD1 (dK f180 [1,1,0,1,0,0],jW f180 [(0,0)]) 1 39 40
def d40:(Code×Cx)×gS:=gD (dK f180 [1,1,0,1,0,0,1,1,0,0,1,1,1,0,0],jW f180 [(2,3670028),(1,3670028),(0,0)]) 40
def d41:(Code×Cx)×gS:=gD (dK f181 [1,0,1,0,0],jW f181 [(0,0)]) 41
def d42:(Code×Cx)×gS:=((dK f185 [1,1,0,0,0],jW f185 [(0,32)]),L42)
def d43:(Code×Cx)×gS:=((dK f189 [1,1,1,0,1,0,0],jW f189 [(0,16)]),L43)
def d44:(Code×Cx)×gS:=((dK f190 [1,0,1,0,0],jW f190 [(0,1)]),L44)
def d45:(Code×Cx)×gS:=((dK f194 [1,1,0,1,0,0],jW f194 [(0,1)]),L45)
def d46:(Code×Cx)×gS:=((dK f202 [1,1,0,1,0,0],jW f202 [(0,1)]),L46)
def d47:(Code×Cx)×gS:=gD (dK f203 [1,1,0,1,0,0],jW f203 [(0,7)]) 47
def d48:(Code×Cx)×gS:=((dK f209 [1,1,0,1,0,0],jW f209 [(0,32)]),L48)
def d49:(Code×Cx)×gS:=((dK f213 [1,0,1,0,0],jW f213 [(0,0)]),L49)
def d50:(Code×Cx)×gS:=((dK f221 [1,1,1,0,0],jW f221 [(0,16)]),L50)
def d51:(Code×Cx)×gS:=((dK f222 [1,1,0,1,0,0],jW f222 [(0,32)]),L51)
def d52:(Code×Cx)×gS:=((dK f223 [1,0,1,0,0],jW f223 [(0,0)]),L52)
def d53:(Code×Cx)×gS:=((dK f224 [1,1,0,1,0,0],jW f224 [(0,0)]),L53)
def d54:(Code×Cx)×gS:=((dK f228 [1,1,1,1,1,1,0,1,0,0],jW f228 [(0,1408)]),L54)
def d55:(Code×Cx)×gS:=((dK f238 [1,1,1,0,1,0,0],jW f238 [(0,64)]),L55)
def d56:(Code×Cx)×gS:=((dK f238 [1,1,1,0,1,0,0,1,0,0,1,1,0,1,0,0],jW f238 [(2,963),(1,195),(0,64)]),L56)
def d57:(Code×Cx)×gS:=gD (dK f247 [1,1,1,0,1,0,0],jW f247 [(0,903)]) 57
def d58:(Code×Cx)×gS:=((dK f251 [1,1,0,1,0,0],jW f251 [(0,0)]),L58)
def d59:(Code×Cx)×gS:=gDs (dK f256 [1,0,1,0,1,1,1,1,1,1,1,1,1,0,1,0,1,0,0],jW f256 [(1,32),(0,2)]) aiA
def d60:(Code×Cx)×gS:=gDs (dK f256 [1,0,1,0,1,1,1,1,1,1,1,1,1,1,1,1,1,0,1,0,1,0,0],jW f256 [(3,1024),(0,2)]) aiA
def d61:(Code×Cx)×gS:=((dK f263 [1,1,0,1,0,0],jW f263 [(0,8)]),L61)
def d62:(Code×Cx)×gS:=((dK f264 [1,0,1,0,0],jW f264 [(0,0)]),L62)
def d63:(Code×Cx)×gS:=((dK f266 [1,1,0,1,0,0],jW f266 [(0,12)]),L63)
def d64:(Code×Cx)×gS:=((dK f267 [1,1,0,0,0],jW f267 [(0,8)]),L64)
def Xn (f:Nat):V1 (Func×gS):=(tN f 194 (tN f 149 (tN f 115 (tN f 75 (tN f 21 (tN f 15 (tN f 13 (tL f 6 (f6,(gB f6))) (tL f 13 (f13,(gB f13)))) (tN f 20 (tL f 15 (f15,(gB f15))) (tL f 20 (f20,(gB f20))))) (tN f 72 (tN f 52 (tL f 21 (f21,(gB f21))) (tL f 52 (f52,(gB f52)))) (tN f 73 (tL f 72 (f72,(gB f72))) (tN f 74 (tL f 73 (f73,(gB f73))) (tL f 74 (f74,B74)))))) (tN f 87 (tN f 79 (tN f 76 (tL f 75 (f75,(gB f75))) (tL f 76 (f76,(Ll f76 0)))) (tN f 85 (tL f 79 (f79,(Ll f79 1))) (tL f 85 (f85,B85)))) (tN f 92 (tN f 88 (tL f 87 (f87,(gB f87))) (tL f 88 (f88,(gBs f88 s88)))) (tN f 93 (tL f 92 (f92,B92)) (tN f 96 (tL f 93 (f93,(gB f93))) (tL f 96 (f96,(Ll f96 6)))))))) (tN f 131 (tN f 125 (tN f 120 (tN f 116 (tL f 115 (f115,(Ll f115 7))) (tL f 116 (f116,(gB f116)))) (tN f 124 (tL f 120 (f120,(Ll f120 8))) (tL f 124 (f124,(gB f124))))) (tN f 127 (tN f 126 (tL f 125 (f125,(gB f125))) (tL f 126 (f126,(Ll f126 9)))) (tN f 128 (tL f 127 (f127,(gB f127))) (tN f 129 (tL f 128 (f128,(Ll f128 11))) (tL f 129 (f129,(gB f129))))))) (tN f 140 (tN f 133 (tN f 132 (tL f 131 (f131,(gB f131))) (tL f 132 (f132,(gB f132)))) (tN f 135 (tL f 133 (f133,(gB f133))) (tN f 137 (tL f 135 (f135,(Ll f135 12))) (tL f 137 (f137,(Ll f137 14)))))) (tN f 144 (tN f 143 (tL f 140 (f140,(Ll f140 15))) (tL f 143 (f143,akG))) (tN f 147 (tL f 144 (f144,akH)) (tN f 148 (tL f 147 (f147,(gB f147))) (tL f 148 (f148,(Ll f148 18))))))))) (tN f 171 (tN f 158 (tN f 153 (tN f 151 (tN f 150 (tL f 149 (f149,akI)) (tL f 150 (f150,(gB f150)))) (tN f 152 (tL f 151 (f151,(Ll f151 20))) (tL f 152 (f152,akJ)))) (tN f 155 (tN f 154 (tL f 153 (f153,(gB f153))) (tL f 154 (f154,(gBs f154 aiz)))) (tN f 156 (tL f 155 (f155,(gB f155))) (tN f 157 (tL f 156 (f156,(Ll f156 23))) (tL f 157 (f157,(Ll f157 24))))))) (tN f 164 (tN f 160 (tN f 159 (tL f 158 (f158,(Ll f158 25))) (tL f 159 (f159,(Ll f159 26)))) (tN f 161 (tL f 160 (f160,akK)) (tL f 161 (f161,(gBs f161 afF))))) (tN f 168 (tN f 167 (tL f 164 (f164,akL)) (tL f 167 (f167,akM))) (tN f 169 (tL f 168 (f168,(Ll f168 32))) (tN f 170 (tL f 169 (f169,(Ll f169 33))) (tL f 170 (f170,akN))))))) (tN f 183 (tN f 177 (tN f 174 (tN f 173 (tL f 171 (f171,(Ll f171 36))) (tL f 173 (f173,(Ll f173 37)))) (tN f 175 (tL f 174 (f174,(gB f174))) (tL f 175 (f175,(gB f175))))) (tN f 180 (tN f 178 (tL f 177 (f177,akO)) (tL f 178 (f178,(gB f178)))) (tN f 181 (tL f 180 (f180,(Ll f180 39))) (tN f 182 (tL f 181 (f181,(Ll f181 41))) (tL f 182 (f182,(gB f182))))))) (tN f 189 (tN f 186 (tN f 185 (tL f 183 (f183,(gB f183))) (tL f 185 (f185,akP))) (tN f 187 (tL f 186 (f186,akQ)) (tN f 188 (tL f 187 (f187,akR)) (tL f 188 (f188,akS))))) (tN f 191 (tN f 190 (tL f 189 (f189,akT)) (tL f 190 (f190,akU))) (tN f 192 (tL f 191 (f191,akV)) (tN f 193 (tL f 192 (f192,akW)) (tL f 193 (f193,akX))))))))) (tN f 234 (tN f 213 (tN f 203 (tN f 198 (tN f 196 (tN f 195 (tL f 194 (f194,akY)) (tL f 195 (f195,akZ))) (tN f 197 (tL f 196 (f196,(gB f196))) (tL f 197 (f197,(gB f197))))) (tN f 200 (tN f 199 (tL f 198 (f198,(gB f198))) (tL f 199 (f199,ak_))) (tN f 201 (tL f 200 (f200,(gB f200))) (tN f 202 (tL f 201 (f201,(gB f201))) (tL f 202 (f202,ala)))))) (tN f 207 (tN f 205 (tN f 204 (tL f 203 (f203,(Ll f203 47))) (tL f 204 (f204,(gB f204)))) (tN f 206 (tL f 205 (f205,alb)) (tL f 206 (f206,(gB f206))))) (tN f 209 (tN f 208 (tL f 207 (f207,(gB f207))) (tL f 208 (f208,(gB f208)))) (tN f 210 (tL f 209 (f209,alc)) (tN f 212 (tL f 210 (f210,ald)) (tL f 212 (f212,(gB f212)))))))) (tN f 224 (tN f 219 (tN f 217 (tN f 214 (tL f 213 (f213,ale)) (tL f 214 (f214,(gB f214)))) (tN f 218 (tL f 217 (f217,alf)) (tL f 218 (f218,alg)))) (tN f 221 (tN f 220 (tL f 219 (f219,(gB f219))) (tL f 220 (f220,(gB f220)))) (tN f 222 (tL f 221 (f221,alh)) (tN f 223 (tL f 222 (f222,ali)) (tL f 223 (f223,alj)))))) (tN f 229 (tN f 226 (tN f 225 (tL f 224 (f224,alk)) (tL f 225 (f225,alm))) (tN f 227 (tL f 226 (f226,aln)) (tN f 228 (tL f 227 (f227,alo)) (tL f 228 (f228,alp))))) (tN f 231 (tN f 230 (tL f 229 (f229,alq)) (tL f 230 (f230,alr))) (tN f 232 (tL f 231 (f231,als)) (tN f 233 (tL f 232 (f232,(gB f232))) (tL f 233 (f233,alt)))))))) (tN f 254 (tN f 243 (tN f 238 (tN f 236 (tN f 235 (tL f 234 (f234,alu)) (tL f 235 (f235,alv))) (tN f 237 (tL f 236 (f236,alw)) (tL f 237 (f237,alx)))) (tN f 240 (tN f 239 (tL f 238 (f238,aly)) (tL f 239 (f239,alz))) (tN f 241 (tL f 240 (f240,alA)) (tN f 242 (tL f 241 (f241,alB)) (tL f 242 (f242,(gB f242))))))) (tN f 248 (tN f 245 (tN f 244 (tL f 243 (f243,alC)) (tL f 244 (f244,alD))) (tN f 246 (tL f 245 (f245,(gB f245))) (tN f 247 (tL f 246 (f246,(gB f246))) (tL f 247 (f247,(Ll f247 57)))))) (tN f 251 (tN f 250 (tL f 248 (f248,(gB f248))) (tL f 250 (f250,alE))) (tN f 252 (tL f 251 (f251,alF)) (tN f 253 (tL f 252 (f252,alG)) (tL f 253 (f253,alH))))))) (tN f 263 (tN f 258 (tN f 256 (tN f 255 (tL f 254 (f254,(gB f254))) (tL f 255 (f255,alI))) (tN f 257 (tL f 256 (f256,(gBs f256 aiA))) (tL f 257 (f257,alJ)))) (tN f 260 (tN f 259 (tL f 258 (f258,(gB f258))) (tL f 259 (f259,(gB f259)))) (tN f 261 (tL f 260 (f260,(gB f260))) (tN f 262 (tL f 261 (f261,alK)) (tL f 262 (f262,alL)))))) (tN f 268 (tN f 265 (tN f 264 (tL f 263 (f263,alM)) (tL f 264 (f264,alN))) (tN f 266 (tL f 265 (f265,alO)) (tN f 267 (tL f 266 (f266,alP)) (tL f 267 (f267,alQ))))) (tN f 270 (tN f 269 (tL f 268 (f268,alR)) (tL f 269 (f269,(gB f269)))) (tN f 271 (tL f 270 (f270,(gB f270))) (tN f 272 (tL f 271 (f271,alS)) (tL f 272 (f272,alT))))))))))
def agv (f:Nat):V1 ((Code×Cx)×gS):=(tN f 32 (tN f 16 (tN f 8 (tN f 4 (tN f 2 (tN f 1 (tL f 0 d0) (tL f 1 d1)) (tN f 3 (tL f 2 d2) (tL f 3 d3))) (tN f 6 (tN f 5 (tL f 4 d4) (tL f 5 d5)) (tN f 7 (tL f 6 d6) (tL f 7 d7)))) (tN f 12 (tN f 10 (tN f 9 (tL f 8 d8) (tL f 9 d9)) (tN f 11 (tL f 10 d10) (tL f 11 d11))) (tN f 14 (tN f 13 (tL f 12 d12) (tL f 13 d13)) (tN f 15 (tL f 14 d14) (tL f 15 d15))))) (tN f 24 (tN f 20 (tN f 18 (tN f 17 (tL f 16 d16) (tL f 17 d17)) (tN f 19 (tL f 18 d18) (tL f 19 d19))) (tN f 22 (tN f 21 (tL f 20 d20) (tL f 21 d21)) (tN f 23 (tL f 22 d22) (tL f 23 d23)))) (tN f 28 (tN f 26 (tN f 25 (tL f 24 d24) (tL f 25 d25)) (tN f 27 (tL f 26 d26) (tL f 27 d27))) (tN f 30 (tN f 29 (tL f 28 d28) (tL f 29 d29)) (tN f 31 (tL f 30 d30) (tL f 31 d31)))))) (tN f 48 (tN f 40 (tN f 36 (tN f 34 (tN f 33 (tL f 32 d32) (tL f 33 d33)) (tN f 35 (tL f 34 d34) (tL f 35 d35))) (tN f 38 (tN f 37 (tL f 36 d36) (tL f 37 d37)) (tN f 39 (tL f 38 d38) (tL f 39 d39)))) (tN f 44 (tN f 42 (tN f 41 (tL f 40 d40) (tL f 41 d41)) (tN f 43 (tL f 42 d42) (tL f 43 d43))) (tN f 46 (tN f 45 (tL f 44 d44) (tL f 45 d45)) (tN f 47 (tL f 46 d46) (tL f 47 d47))))) (tN f 56 (tN f 52 (tN f 50 (tN f 49 (tL f 48 d48) (tL f 49 d49)) (tN f 51 (tL f 50 d50) (tL f 51 d51))) (tN f 54 (tN f 53 (tL f 52 d52) (tL f 53 d53)) (tN f 55 (tL f 54 d54) (tL f 55 d55)))) (tN f 60 (tN f 58 (tN f 57 (tL f 56 d56) (tL f 57 d57)) (tN f 59 (tL f 58 d58) (tL f 59 d59))) (tN f 62 (tN f 61 (tL f 60 d60) (tL f 61 d61)) (tN f 63 (tL f 62 d62) (tN f 64 (tL f 63 d63) (tL f 64 d64))))))))
def FI:If:=⟨Xn,agv⟩
def FO (f:Nat) (e:Func×gS):Prop:=(∀(c:CH) (a:LH) us H,e.2 c (FI.loop a) us H=Yj vX c a e.1 us H)/\prog.funcs[f]? = some e.1/\aU prog f/\okF y e.1=true
def LO (e:(Code×Cx)×gS):Prop:=∀(c:CH) (a:LH) us H,e.2 c (FI.loop a) us H=evL vX c a e.1.1 e.1.2 us H
theorem rF {f n:Nat} {x e:Func×gS} (d:prog.funcs[n]? = some x.1) (g:aU prog n) (b:∀(c:CH) (a:LH) us H,x.2 c (FI.loop a) us H=Yj vX c a x.1 us H:=by exact λ_ _ _ _=>by kernel_rfl) (h:okF y x.1=true:=by kernel_rfl):tL f n x=some e->FO f e:=rL (show FO n x from⟨b,d,g,h⟩)
theorem wU {f n:Nat} {x e:(Code×Cx)×gS} (h:LO x:=by exact λ_ _ _ _=>by kernel_rfl):tL f n x=some e->LO e:=rL (R:=λ_=>LO) h
theorem OM {f:Nat} {e:Func×gS}:Xn f=some e->FO f e:=(rN (rN (rN (rN (rN (rN (rN (rF func6 call6) (rF func13 call13)) (rN (rF func15 call15) (rF func20 call20))) (rN (rN (rF func21 call21) (rF func52 call52)) (rN (rF func72 call72) (rN (rF func73 call73) (rF func74 call74))))) (rN (rN (rN (rF func75 call75) (rF func76 call76)) (rN (rF func79 call79) (rF func85 call85))) (rN (rN (rF func87 call87) (rF func88 call88)) (rN (rF func92 call92) (rN (rF func93 call93) (rF func96 call96)))))) (rN (rN (rN (rN (rF func115 call115) (rF func116 call116)) (rN (rF func120 call120) (rF func124 call124))) (rN (rN (rF func125 call125) (rF func126 call126)) (rN (rF func127 call127) (rN (rF func128 call128) (rF func129 call129))))) (rN (rN (rN (rF func131 call131) (rF func132 call132)) (rN (rF func133 call133) (rN (rF func135 call135) (rF func137 call137)))) (rN (rN (rF func140 call140) (rF func143 call143)) (rN (rF func144 call144) (rN (rF func147 call147) (rF func148 call148))))))) (rN (rN (rN (rN (rN (rF func149 call149) (rF func150 call150)) (rN (rF func151 call151) (rF func152 call152))) (rN (rN (rF func153 call153) (rF func154 call154)) (rN (rF func155 call155) (rN (rF func156 call156) (rF func157 call157))))) (rN (rN (rN (rF func158 call158) (rF func159 call159)) (rN (rF func160 call160) (rF func161 call161))) (rN (rN (rF func164 call164) (rF func167 call167)) (rN (rF func168 call168) (rN (rF func169 call169) (rF func170 call170)))))) (rN (rN (rN (rN (rF func171 call171) (rF func173 call173)) (rN (rF func174 call174) (rF func175 call175))) (rN (rN (rF func177 call177) (rF func178 call178)) (rN (rF func180 call180) (rN (rF func181 call181) (rF func182 call182))))) (rN (rN (rN (rF func183 call183) (rF func185 call185)) (rN (rF func186 call186) (rN (rF func187 call187) (rF func188 call188)))) (rN (rN (rF func189 call189) (rF func190 call190)) (rN (rF func191 call191) (rN (rF func192 call192) (rF func193 call193)))))))) (rN (rN (rN (rN (rN (rN (rF func194 call194) (rF func195 call195)) (rN (rF func196 call196) (rF func197 call197))) (rN (rN (rF func198 call198) (rF func199 call199)) (rN (rF func200 call200) (rN (rF func201 call201) (rF func202 call202))))) (rN (rN (rN (rF func203 call203) (rF func204 call204)) (rN (rF func205 call205) (rF func206 call206))) (rN (rN (rF func207 call207) (rF func208 call208)) (rN (rF func209 call209) (rN (rF func210 call210) (rF func212 call212)))))) (rN (rN (rN (rN (rF func213 call213) (rF func214 call214)) (rN (rF func217 call217) (rF func218 call218))) (rN (rN (rF func219 call219) (rF func220 call220)) (rN (rF func221 call221) (rN (rF func222 call222) (rF func223 call223))))) (rN (rN (rN (rF func224 call224) (rF func225 call225)) (rN (rF func226 call226) (rN (rF func227 call227) (rF func228 call228)))) (rN (rN (rF func229 call229) (rF func230 call230)) (rN (rF func231 call231) (rN (rF func232 call232) (rF func233 call233))))))) (rN (rN (rN (rN (rN (rF func234 call234) (rF func235 call235)) (rN (rF func236 call236) (rF func237 call237))) (rN (rN (rF func238 call238) (rF func239 call239)) (rN (rF func240 call240) (rN (rF func241 call241) (rF func242 call242))))) (rN (rN (rN (rF func243 call243) (rF func244 call244)) (rN (rF func245 call245) (rN (rF func246 call246) (rF func247 call247)))) (rN (rN (rF func248 call248) (rF func250 call250)) (rN (rF func251 call251) (rN (rF func252 call252) (rF func253 call253)))))) (rN (rN (rN (rN (rF func254 call254) (rF func255 call255)) (rN (rF func256 call256) (rF func257 call257))) (rN (rN (rF func258 call258) (rF func259 call259)) (rN (rF func260 call260) (rN (rF func261 call261) (rF func262 call262))))) (rN (rN (rN (rF func263 call263) (rF func264 call264)) (rN (rF func265 call265) (rN (rF func266 call266) (rF func267 call267)))) (rN (rN (rF func268 call268) (rF func269 call269)) (rN (rF func270 call270) (rN (rF func271 call271) (rF func272 call272)))))))))
theorem acj {f:Nat} {e:(Code×Cx)×gS}:agv f=some e->LO e:=(rN (rN (rN (rN (rN (rN wU wU) (rN wU wU)) (rN (rN wU wU) (rN wU wU))) (rN (rN (rN wU wU) (rN wU wU)) (rN (rN wU wU) (rN wU wU)))) (rN (rN (rN (rN wU wU) (rN wU wU)) (rN (rN wU wU) (rN wU wU))) (rN (rN (rN wU wU) (rN wU wU)) (rN (rN wU wU) (rN wU wU))))) (rN (rN (rN (rN (rN wU wU) (rN wU wU)) (rN (rN wU wU) (rN wU wU))) (rN (rN (rN wU wU) (rN wU wU)) (rN (rN wU wU) (rN wU wU)))) (rN (rN (rN (rN wU wU) (rN wU wU)) (rN (rN wU wU) (rN wU wU))) (rN (rN (rN wU wU) (rN wU wU)) (rN (rN wU wU) (rN wU (rN wU wU)))))))
theorem De:LP FI vX:=⟨λh=>(OM h).1,acj⟩
theorem aci {f:Nat} {e:Func×gS} (h:Xn f=some e):prog.funcs[f]? = some e.1/\aU prog f/\okF y e.1=true:=(OM h).2
end
end Go.Gx
end
namespace Go.Gx
open Go Go.Sx
section
variable {P:Program} {gs:AZ} {w0:fM gs} {tb:TB}
theorem Sf:tR P w0 (λ_ _ _=>none):=λf b H g a h=>by cases h
theorem Kv:Jm P w0 tb (λ_ _ _ _=>none):=λb c d H a h=>by cases h
theorem aeJ {C:CH} {G:LH} (y:gA P tb) (Q:P.follows .mixedOrders=true) (k:∀w0:fM gs,tR P w0 C) (l:Jm P w0 tb G) {f:Nat} {d:Func} {J:V6 GV} {H:GH} {c:RB} (L:P.funcs[f]? = some d) (A:okF tb d=true) (h:Yj tb C G d J H=some c) (O:c.e = .ret) {t:eZ} {w:V2} {s:V6 V0} (R:gQ w0 t H w) (E:qE t J s):
  Calls P f s.toArray w λe u=>∃v a,e = .returned v/\t.le a/\gQ w0 a c.H u/\Rl a (YI c.vs) v:=by
 obtain⟨M,N⟩:=Tb A;obtain⟨i,D,h⟩:=aE.1 (show ob d.body _=some c from h);obtain⟨K,m,h⟩:=sG h;rw[List.range_eq_range']at m;have r:=LV m;have S:s.length<=d.ntmps:=by rw[<-E.len,r];exact N
 refine uV L D ?_;have F:mC t d.ntmps K {tmps:=s.toArray++Array.replicate (d.ntmps - s.toArray.size) undef,defers:=[]}:=by
  refine Pz Z Q1 E (λj v p=> ?_) m;have z:=bB p;rw[Nat.zero_add,zBi (by simpa using z)];simpa using p
 refine Es y Q k l i _ _ _ ⟨K,H⟩ c t _ w _ (M i D) h F R ⟨λI a B u q b n o=> ?_,λid I a B u q b n o=> ?_,λI a B u q b n o=> ?_⟩
 .obtain⟨x,v,p,g⟩:=IJ (fn:=d) y Z n o q;exact Sx.body_end (.inr Z) n.defers g ⟨v,a,rfl,b,by rw[x];exact o,p⟩
 .have:=Cb q;rw[O]at this;cases this
 .obtain⟨x,v,p,g⟩:=IJ (fn:=d) y Z n o q;exact Sx.body_end (.inl Z) n.defers g ⟨v,a,rfl,b,by rw[x];exact o,p⟩
noncomputable def Od (tb:TB) (f:Nat) (a:Func):CH:=λg b H=>bif Nat.beq g f then OJ (Yj tb (λ_ _ _=>none) (λ_ _ _ _=>none) a b H)else none
theorem aas (m:gA P tb) (p:P.follows .mixedOrders=true) {f:Nat} {c:Func} (k:P.funcs[f]? = some c) (n:aU P f) (i:okF tb c=true):tR P w0 (Od tb f c):=λg r H x j h t w s R q=>by
 unfold Od at h;cases b:Nat.beq g f with
 |false=>rw[b]at h;cases h
 |true=>
 rw[b]at h;have b:=zA6 b;subst b;replace h:OJ (Yj tb (λ_ _ _=>none) (λ_ _ _ _=>none) c r H)=some (x,j):=h;unfold OJ at h;obtain⟨o,l,a⟩:=aE.1 h;cases d:o.e with
 |normal=>rw[d]at a;cases a
 |exit id=>rw[d]at a;cases a
 |ret=>
  rw[d]at a;cases a;exact .inr ⟨n _ w,aeJ m p (λ_=>Sf) Kv k i l d R q⟩
theorem Zb {id:Nat} {o:V5} {l:V6 V5} {Q:Exit->Act->V6 Frame->V2->Prop} {a:Act} {d:V6 Frame} {w:V2} (x:l.all kD=true) (C:o.guard=none) (r:(execOp a.eval o).run P w = .ok .recover w)
  (q:recoverD d=none) (h:Sx.wpList P (o::l).toArray (λe g t=>Q e g d t) l (a.put o.dst .nilIface) w):(Code.region id (o::l).toArray false).wpSIn (FR none) 0 P Q a d w:=by
 intro b k B f u c;have y:(o::l).toArray[0]? = some o:=V8
 obtain⟨e,g,t,E,i⟩:=wp_opsIn (F:=FR none) (n:=0) (Q:=λe g t=>Q e g d t) (ops:=(o::l).toArray) (List.range' 1 l.length) (a.put o.dst .nilIface) w
  (by rw[wpOpsIn_eq_wpListIn l 1 (by intro j;simp[Nat.add_comm 1 j])];exact Sx.wpList_in l _ w x h) b k d f u c
 have H:Region.wanted o (yielded (o::l).toArray a.tmps)=true:=by simp[Region.wanted,C]
 have A:(lone (b.atR a (.inRegion (o::l).toArray (0::List.range' 1 l.length)::k)) d w).fenced P (FR none):=fenced_oper u c y (λ_ _=>trivial);have p:=stepGR_op (P:=P) (b:=b) (k:=k) (cs:=d) (w:=w) (rest:=List.range' 1 l.length) y H;rw[f,Oper.semAt_none]at p;have m:∀v,(b.atR a (.inRegion (o::l).toArray (0::List.range' 1 l.length)::k)).finish v=b.atR (a.put o.dst v) (.inRegion (o::l).toArray (List.range' 1 l.length)::k):=by
  intro v;rw[Frame.finish_atR,y];rfl
 have D:(b.atR a (.inRegion (o::l).toArray (0::List.range' 1 l.length)::k)).kind = .deferred:=B;have s:=tryRecover_deferred D d;have G:List.range (o::l).toArray.size=0::List.range' 1 l.length:=by simp[List.range_eq_range',List.range'_succ]
 have z:=stepR_region (P:=P) (b:=b) (a:=a) (k:=k) (cs:=d) (w:=w) (id:=id) (ops:=(o::l).toArray);rw[G]at z;refine⟨e,g,d,t,rfl,E,.of_steps (.head (fenced_calm u c Z) z (.one A (step_lone_go ?_))) i⟩
 rw[p,<-m];simp only[Frame.atR,f]at s ⊢;simp[stepG.apply,r,s,q]
theorem X_ {ch:CH} {lp:LH} (I:gA P tb) (hm:P.follows .mixedOrders=true) {f:Nat} {i:Func} {id m d:Nat} {o:V5} {l:V6 V5} {b:Code} {U:Cx} {q:RB} {a:Array V0} {w:V2}
  (c:∀w0:fM noG,tR P w0 ch) (p:Jm P (fM.one w) tb lp) (X:P.funcs[f]? = some i) (V:i.body=some (.seq (.region id (o::l).toArray false) b)) (B:o.guard=none) (W:o.dst=some d) (A:d<i.ntmps)
  (u:∀ρ w,(execOp ρ o).run P w = .ok .recover w) (K:l.all (JI i.ntmps)=true) (hr:Jh tb i.ntmps b=true) (s:i.results = #[]) (aa:a.size<=i.ntmps)
  (h:He tb ch (o::l) (evC tb ch lp b m U (II [])) l ⟨[(d,.inil)],H0⟩=some q) (J:q.e = .normal):
  CallsDIn (FR none) 0 P f a .returning w λe u' E=>∃v,e = .returned v/\u' = .returning/\Ph w E:=by
 have D:l.all kD=true:=zA7.2 λo C=>(vF (zA7.1 K o C)).1;refine callsDIn_of_wpSIn X V trivial λk T M=> ?_;have r:recoverD (k::T)=none:=by simp[recoverD,M]
 refine wpSIn_seq (Zb D B (u _ _) r ?_);have F:mC (λ_=>none) i.ntmps [(d,.inil)] (({tmps:=a++Array.replicate (i.ntmps - a.size) undef,defers:=[]}:Act).put o.dst .nilIface):=by
  rw[W];refine mC.put ⟨rfl,Q1,λt g B=>(by cases B)⟩ A ?_;exact .inil
 refine Ir I (c (fM.one w)) l ⟨[(d,.inil)],H0⟩ _ _ w K F (gQ.start (fM.one w) Z) h λs' G S E Y L Q R=>wpSIn_of_wpIn Z<|Es I hm c p b _ _ _ s' q G S E _ hr Y Q R ⟨λN x H O j n y z=> ?_,λid N x H O j n y z=> ?_,λN x H O j n y z=> ?_⟩
 .refine⟨y.defers,k.mode,rfl,.tuple #[],?_,_,rfl,M,z.ext.ext⟩
  simp[results,s]
 .have:=Cb j;rw[J]at this;cases this
 .have:=QB j;rw[J]at this;cases this
theorem Ly {o:V5} {l:V6 V5} {b:Array V5} {Q:Exit->Act->V2->Prop} {a:Act} {w w':V2} {v:V0} (c:o.guard=none) (d:(execOp a.eval o).run P w = .ok (.value v) w') (h:Sx.wpList P b Q l (a.put o.dst v) w'):Sx.wpList P b Q (o::l) a w:=by
 unfold Sx.wpList;rw[if_pos (by simp[Region.wanted,c])];exact .inl (by simp only[Oper.wp,d,Oper.upon];exact h)
theorem Ub {o:V5} {l:V6 V5} {b:Array V5} {Q:Exit->Act->V2->Prop} {a:Act} {w w':V2} (c:o.guard=none) (d:(execOp a.eval o).run P w = .ok .skip w') (h:Sx.wpList P b Q l (a.put o.dst undef) w'):Sx.wpList P b Q (o::l) a w:=by
 unfold Sx.wpList;rw[if_pos (by simp[Region.wanted,c])];exact .inl (by simp only[Oper.wp,d,Oper.upon];exact h)
theorem Zc {o:V5} {l:V6 V5} {b:Array V5} {Q:Exit->Act->V2->Prop} {a:Act} {w:V2} {f:Nat} {args:Array V0} {S:V0->V2->Prop} (d:o.guard=none) (g:(execOp a.eval o).run P w = .ok (.enter f args) w)
  (c:Calls P f args w λe w'=>∃v,e = .returned v/\S v w') (h:∀v w',S v w'->Sx.wpList P b Q l (a.put o.dst v) w'):Sx.wpList P b Q (o::l) a w:=by
 unfold Sx.wpList;rw[if_pos (by simp[Region.wanted,d])];refine .inl ?_;simp only[Oper.wp,g,Oper.upon];refine c.mono ?_;rintro e w' ⟨v,rfl,i⟩;exact h v w' i
theorem ahx (M:gA P tb) {c cc T1 T2 i0 i1 i2 i3 y0 y1 y2 y3 y4 y5 y6 y7:Nat} {p0 p1 p2 p3 p4 p5 p6 p7:String} {e0 e1 e2 e3 e4 e5 e6 e7:Array Edge} {z:Func} (hf:P.funcs[c]? = some z) (ag:aU P c) (ah:aU P cc)
  (hb:z.body=some (.seq (.region i0 #[⟨some 2,.alloc T1,y0,p0,e0,none⟩,⟨some 3,.alloc T2,y1,p1,e1,none⟩] false)
   (.seq (.region i1 #[⟨some 4,.makeFunc (.func cc) #[] #[.tmp 2,.tmp 3],y2,p2,e2,none⟩,⟨none,.defer ⟨.value (.tmp 4),#[],#[]⟩,y3,p3,e3,none⟩] false)
   (.seq (.region i2 #[⟨some 5,.move (.tmp 0),y4,p4,e4,none⟩,⟨some 6,.call ⟨.value (.tmp 5),#[],#[]⟩,y5,p5,e5,none⟩] false)
   (.seq (.region i3 #[⟨none,.store T1 (.tmp 2) (.const (.int .i64 0)),y6,p6,e6,none⟩,⟨none,.store T2 (.tmp 3) (.const (.int .i64 0)),y7,p7,e7,none⟩] false) .ret)))))
  (hn:z.ntmps=7) (Q:z.results = #[.cell 2 T1,.cell 3 T2])
  (aa:∀H,wH tb T1 H=some (.ptr H.n 0,H.new (.cells [Ai]))) (ab:∀H,wH tb T2 H=some (.ptr H.n 0,H.new (.cells [Ai])))
  (ae:∀H h c,GH.cells H h=some [c]->qD tb T1 (.ptr h 0) Ai H=some (.un,H.set h (.cells [Ai]))) (af:∀H h c,GH.cells H h=some [c]->qD tb T2 (.ptr h 0) Ai H=some (.un,H.set h (.cells [Ai])))
  (ac:∀H h,GH.cells H h=some [Ai]->uR tb T1 (.ptr h 0) H=some Ai) (ad:∀H h,GH.cells H h=some [Ai]->uR tb T2 (.ptr h 0) H=some Ai)
  (N:∀o w,o.size=2->CallsDIn (FR none) 0 P cc o .returning w λe u' l=>∃v,e = .returned v/\u' = .returning/\Ph w l)
  {G:eZ} {g:Nat} {k j:V6 V0} {w:V2} {H s:GH} {c1 c2:GV} (R:gQ w0 G H w) (hc:∀i l,G.le i->gQ w0 i ((H.new (.cells [Ai])).new (.cells [Ai])) l->∃x,lK P w0 i g (k++j) l x s) (h1:s.cells H.n=some [c1]) (J:s.cells (H.n+1)=some [c2]):
  lK P w0 G c [.func (.func g) k.toArray j.toArray] w (.tup [Ai,Ai]) ((((s.set H.n (.cells [Ai])).set (H.n+1) (.cells [Ai])).del H.n).del (H.n+1)):=by
 refine .inr ⟨ag _ w,?_⟩;refine Sg (r:=none) (n:=0) (callsIn_of_wp_defers hf hb trivial ?_);rw[hn];obtain⟨b,w1,ap,aj,C,R1,U⟩:=Kd (P:=P) M R (aa H);obtain⟨d,y,I,ak,p,R2,V⟩:=Kd (P:=P) M R1 (ab _);obtain⟨x,hx⟩:=hc I y (eZ.le_trans C p) R2;refine wpIn_seq (uS Z ?_);refine Ly Z (v:=b) (w':=w1) (by simp[execOp,aj]) ?_;refine Ly Z (v:=d) (w':=y) (by simp[execOp,ak]) ?_;show Code.wpIn (FR none) 0 P _ _ (⟨#[.func (.func g) k.toArray j.toArray,undef,b,d,undef,undef,undef],[]⟩:Act) y;refine wpIn_seq (wpIn_region_lit ?_);refine wpListIn_plain Z λK hK=>⟨λ_ _=>trivial,?_⟩
 have hm:(Oper.semAt (FR none).round (⟨#[.func (.func g) k.toArray j.toArray,undef,b,d,undef,undef,undef],[]⟩:Act).eval ⟨some 4,.makeFunc (.func cc) #[] #[.tmp 2,.tmp 3],y2,p2,e2,none⟩).run P y = .ok (.value (.func (.func cc) #[] #[b,d])) y:=by
  rw[show(FR none).round=none from rfl,Oper.semAt_none];simp[execOp,Instr.makeFunc,Act.eval]
 rw[hm];refine hK _ _ ?_;show wpListIn _ _ _ _ _ _ (⟨#[.func (.func g) k.toArray j.toArray,undef,b,d,.func (.func cc) #[] #[b,d],undef,undef],[]⟩:Act) y;refine wpListIn_plain Z λK hK=>⟨λ_ _=>trivial,?_⟩
 have hm:(Oper.semAt (FR none).round (⟨#[.func (.func g) k.toArray j.toArray,undef,b,d,.func (.func cc) #[] #[b,d],undef,undef],[]⟩:Act).eval ⟨none,.defer ⟨.value (.tmp 4),#[],#[]⟩,y3,p3,e3,none⟩).run P y = .ok (.defer ⟨.fn (.func cc) #[b,d],#[]⟩) y:=by
  rw[show(FR none).round=none from rfl,Oper.semAt_none];simp[execOp,resolve,Act.eval,Deferred.ofValue]
 rw[hm];refine hK _ _ ?_;show Code.wpIn (FR none) 0 P _ _ (⟨#[.func (.func g) k.toArray j.toArray,undef,b,d,.func (.func cc) #[] #[b,d],undef,undef],[⟨.fn (.func cc) #[b,d],#[]⟩]⟩:Act) y;refine wpIn_seq (uS Z ?_);refine Ly Z (v:= .func (.func g) k.toArray j.toArray) (w':=y) (by simp[execOp,Act.eval]) ?_;show Sx.wpList _ _ _ _ (⟨#[.func (.func g) k.toArray j.toArray,undef,b,d,.func (.func cc) #[] #[b,d],.func (.func g) k.toArray j.toArray,undef],[⟨.fn (.func cc) #[b,d],#[]⟩]⟩:Act) y;have go:∀v D m,I.le m->gQ w0 m s D->Code.wpIn (FR none) 0 P (.seq (.region i3 #[⟨none,.store T1 (.tmp 2) (.const (.int .i64 0)),y6,p6,e6,none⟩,⟨none,.store T2 (.tmp 3) (.const (.int .i64 0)),y7,p7,e7,none⟩] false) .ret) (bodyPostDIn (FR none) 0 P z λe l=>∃v i,e = .returned v/\G.le i/\gQ w0 i ((((s.set H.n (.cells [Ai])).set (H.n+1) (.cells [Ai])).del H.n).del (H.n+1)) l/\Rl i (.tup [Ai,Ai]) v) (⟨#[.func (.func g) k.toArray j.toArray,undef,b,d,.func (.func cc) #[] #[b,d],.func (.func g) k.toArray j.toArray,v],[⟨.fn (.func cc) #[b,d],#[]⟩]⟩:Act) D:=by
  intro v D m a L;have hz:∀G,Rl G Ai (.int .i64 0):=λG=> .int _ _;obtain⟨_,w4,aq,al,q,R4⟩:=Kf (P:=P) (T:=T1) M L ((U.le p).le a) (hz _) (ae _ _ _ h1);have Y:(s.set H.n (.cells [Ai])).cells (H.n+1)=some [c2]:=by
   rw[jQ]at J ⊢;rw[tS,Q0];exact J
  obtain⟨_,X,W,am,u,R5⟩:=Kf (P:=P) (T:=T2) M R4 ((V.le a).le q) (hz _) (af _ _ _ Y);refine wpIn_seq (uS Z ?_);refine Ub Z (w':=w4) (by simp[execOp,Act.eval,al]) ?_;refine Ub Z (w':=X) (by simp[execOp,Act.eval,Act.put,am]) ?_;refine wpIn_ret ?_;show LeavesIn (FR none) 0 P z #[.func (.func g) k.toArray j.toArray,undef,b,d,.func (.func cc) #[] #[b,d],.func (.func g) k.toArray j.toArray,v] _ [⟨.fn (.func cc) #[b,d],#[]⟩] .returning X;refine leavesIn_cons (f:=cc) (args:= #[b,d]) V8 (by simp[FR,Fence.wide]) (by simp[invoke,ah _ X]) (λ_ _=>trivial) ?_;refine(N #[b,d] X Z).mono ?_;rintro e u' w6 ⟨x6,rfl,rfl,O⟩;have R6:=R5.ext' O;have F:mC W 7 [(2,.ptr H.n 0),(3,.ptr (H.n+1) 0)] (⟨#[.func (.func g) k.toArray j.toArray,undef,b,d,.func (.func cc) #[] #[b,d],.func (.func g) k.toArray j.toArray,v],[]⟩:Act):=by
   refine⟨rfl,rfl,λt g B=> ?_⟩
   rw[Ci]at B;by_cases J:t=2
   .rw[if_pos J]at B;cases B;rw[J];exact(((U.le p).le a).le q).le u
   .rw[if_neg J,Ci]at B;by_cases h3:t=3
    .rw[if_pos h3]at B;cases B;rw[h3];exact((V.le a).le q).le u
    .rw[if_neg h3]at B;cases B
  have E:Vv tb ⟨z.results.toList,0,[]⟩ ⟨[(2,.ptr H.n 0),(3,.ptr (H.n+1) 0)],(s.set H.n (.cells [Ai])).set (H.n+1) (.cells [Ai])⟩=some ⟨.ret,[Ai,Ai],(s.set H.n (.cells [Ai])).set (H.n+1) (.cells [Ai])⟩:=by
   rw[Q];have q1:uR tb T1 (.ptr H.n 0) ((s.set H.n (.cells [Ai])).set (H.n+1) (.cells [Ai]))=some Ai:=ac _ _ (by rw[jQ,tS,Q0,tS,if_pos Z]);have q2:uR tb T2 (.ptr (H.n+1) 0) ((s.set H.n (.cells [Ai])).set (H.n+1) (.cells [Ai]))=some Ai:=ad _ _ (by rw[jQ,tS,if_pos Z]);show ob (ob (uR tb T1 (.ptr H.n 0) _) λv=>ob (ob (uR tb T2 (.ptr (H.n+1) 0) _) λv=>ob (some []) λvs=>some (v::vs)) λvs=>some (v::vs)) _=_;rw[q1,q2];rfl
  obtain⟨_,v6,ao,an⟩:=IJ (fn:=z) (P:=P) M Z F R6 E;exact⟨v6,an,v6,W,rfl,eZ.le_trans C (eZ.le_trans p (eZ.le_trans a (eZ.le_trans q u))),(R6.del _).del _,ao⟩
 rcases hx with⟨v,D,m,hr,a,L,_⟩|⟨hr,A⟩
 .refine Ly Z (v:=v) (w':=D) (by simpa [execOp,resolve,Act.eval,Deferred.ofValue,invoke]using hr) ?_;exact go v D m a L
 .refine Zc Z (f:=g) (args:=(k++j).toArray) (S:=λv l=>∃i,I.le i/\gQ w0 i s l) (by simpa [execOp,resolve,Act.eval,Deferred.ofValue,invoke]using hr) (A.mono ?_) λv D ⟨m,a,L⟩=>go v D m a L;rintro e l ⟨v,i,rfl,ai,R',_⟩;exact⟨v,rfl,i,ai,R'⟩
end
noncomputable section
def Va (n c a:Nat):Nat->V1 Nat:=Nat.rec (motive:=λ_=>Nat->V1 Nat) (λ_=>none) (λ_ b i=>Bool.casesOn (motive:=λ_=>V1 Nat) (Nat.beq (Nat.mod (Nat.shiftRight n (Nat.mul 8 i)) 256) c) (b (Nat.succ i)) (some i)) a
def amm (k:IntKind):V4:=match k with
 | .u8=>true
 |_=>false
def aaY (b f:Nat) (d:V6 GV):V1 GV:=bif Nat.beq f b then List.casesOn (motive:=λ_=>V1 GV) d none (λa r=>List.casesOn (motive:=λ_=>V1 GV) r none λc r=>List.casesOn (motive:=λ_=>V1 GV) r (ob a.asStr λs=>ob c.asI λp=>ob (asN p.2) λk=>
 bif amm p.1 then(bif Nat.blt k 256 then Option.casesOn (motive:=λ_=>V1 GV) (Va s.1 k s.2 0) (some (.int .i64 (.negSucc 0))) (λi=>some (.int .i64 (.ofNat i)))else none)else none) λ_ _=>none)else none
theorem WP (x:V6 UInt8) (c:Nat) (m:c<256):∀k i,i+k=x.length->(match Va (mR x) c k i with|none=>(-1:Int)|some j=>(j:Int))=(if Lib.indexByte (x.drop i) c.toUInt8 = -1 then -1 else Lib.indexByte (x.drop i) c.toUInt8+i)
 |0,i,h=>by
  rw[List.drop_of_length_le V7];simp[Va,Lib.indexByte]
 | k + 1, i, h => by
  have o:=WP x c m k (i+1) V7;have g:i<x.length:=V7
  have e:Va (mR x) c (k+1) i=Bool.casesOn (motive:=λ_=>V1 Nat) (Nat.beq (Nat.mod (Nat.shiftRight (mR x) (Nat.mul 8 i)) 256) c) (Va (mR x) c k (i+1)) (some i):=rfl;rw[e,WK x i g,List.drop_eq_getElem_cons g];have a:(x[i]).toNat=c↔x[i]=c.toUInt8:=by
   rw[<-UInt8.toNat_inj];have:c.toUInt8.toNat=c:=by simp[Nat.toUInt8];omega
   rw[this]
  unfold Lib.indexByte;cases d:Nat.beq (x[i]).toNat c with
  |true=>
   have:=a.1 (zA6 d);simp[this]
  | false =>
   have f:¬x[i]=c.toUInt8:=λl=>by
    have:=a.2 l;rw[this]at d;simp at d
   have n:=Lib.indexByte_ge (x.drop (i+1)) c.toUInt8;simp only[beq_iff_eq,f,if_false];rw[o];by_cases b:Lib.indexByte (x.drop (i+1)) c.toUInt8 = -1
   .simp[b]
   .rw[if_neg b,if_neg b,Q0]
    push_cast;omega
section
variable {P:Program} {gs:AZ} {w0:fM gs}
theorem aeN {u:Nat} {l:Func} (F:P.funcs[u]? = some l) (e:(l.name == "runtime.NumGoroutine")=false) (D:l.body.isNone=true) (I:Extern.findNext l=none) (E:Extern.find l=some Extern.BytealgIndexByte.indexByte)
  {f:Nat} {i:V6 GV} {g:GV} (h:aaY u f i=some g) (q:eZ) (w:V2) (o:V6 V0) (H:GH) (R:gQ w0 q H w) (m:qE q i o):lK P w0 q f o w g H:=by
 unfold aaY at h;replace h:=bV.1 h;have C:=zA6 h.1;replace h:=h.2;subst C;cases i with
 |nil=>cases h
 |cons a i=>
 cases i with
 |nil=>cases h
 |cons c i=>
 cases i with
 |cons _ _=>cases h
 |nil=>
 obtain⟨s,L,h⟩:=aE.1 (show ob a.asStr _=some g from h);obtain⟨p,J,h⟩:=aE.1 h;obtain⟨k,G,h⟩:=aE.1 h;obtain⟨x,h⟩:=bV.1 h;obtain⟨d,h⟩:=bV.1 h;obtain⟨v,o,rfl,y,m⟩:=m.of_cons;obtain⟨N,o,rfl,b,m⟩:=m.of_cons;rw[m.of_nil];rw[qQ L]at y;rw[nK J]at b;obtain⟨S,rfl,A,M⟩:=y.str_inv;have b:=b.int_inv;subst b;have t:p.1 = .u8:=by cases K:p.1<;>rw[K]at x<;>first|rfl|cases x
 have r:p.2=(k:Int):=Hw G;have d:k<256:=by simpa using d
 refine .inl ⟨.int .i64 (Lib.indexByte S.data.toList p.2.toNat.toUInt8),w,q,?_,eZ.le_refl _,R,?_⟩
 .rw[run_callFunc_extern F e D I E,t,Lib.run_indexByteString];rfl
 .have n:=WP (bS S) k d s.2 0 V7;rw[A]at h;rw[List.drop_zero]at n;have B:Lib.indexByte S.data.toList p.2.toNat.toUInt8=(match Va (mR (bS S)) k s.2 0 with|none=>(-1:Int)|some j=>(j:Int)):=by
   rw[n,r];have:bS S=S.data.toList:=rfl;rw[this];simp only[zAf];split
   .assumption
   .omega
  rw[B];cases z:Va (mR (bS S)) k s.2 0 with
  |none=>rw[z]at h;cases h;exact .int _ _
  |some j=>rw[z]at h;cases h;exact .int _ _
end
end
noncomputable section
def ahF {a:Type} (c:Nat) (d:V6 GV->V1 a) (n:Nat):V6 GV->V1 (V6 a):=Nat.rec (motive:=λ_=>V6 GV->V1 (V6 a)) (λ_=>some []) (λ_ e b=>ob (d (b.take c)) λy=>ob (e (b.drop c)) λf=>some (y::f)) n
def NA {b:Type} (H:GH) (a:Nat) (d:V6 GV->V1 b) (v:GV):V1 (V6 b):=ob (uW H a v) λp=>bif Nat.ble p.1 1099511627776 then ahF a d p.1 p.2 else none
def dI (k:IntKind) (a:V6 GV):V1 Int:=List.casesOn (motive:=λ_=>V1 Int) a none λc r=>List.casesOn (motive:=λ_=>V1 Int) r (ob c.asI λp=>bif decide (p.1=k)then some p.2 else none) λ_ _=>none
def dP {b c:Type} (n:Nat) (d:V6 GV->V1 b) (e:V6 GV->V1 c) (a:V6 GV):V1 (b×c):=ob (d (a.take n)) λx=>ob (e (a.drop n)) λy=>some (x,y)
def dS {a:Type} (H:GH) (e:Nat) (d:V6 GV->V1 a) (b:V6 GV):V1 (V6 a):=List.casesOn (motive:=λ_=>V1 (V6 a)) b none λc r=>List.casesOn (motive:=λ_=>V1 (V6 a)) r (NA H e d c) λ_ _=>none
end
section
variable {P:Program} {gs:AZ} {w0:fM gs} {w:V2} {ρ:eZ} {H:GH} {S:Nat->Prop}
def All (_:Nat):Prop:=True
def eS {b c:Type} (S:Nat->Prop) (ρ:eZ) (w:V2) (d:V6 GV->V1 c) (r:eD b) (e:b->c):Prop:=∀gs a y,qE ρ gs a->d gs=some y->gs.length=r.sz->∃z,e z=y/\r.R w S a z
theorem eS.int (k:IntKind):eS S ρ w (dI k) (eD.int k) id:=λgs f y b h _=>by
 cases gs with
 |nil=>cases h
 |cons c gs=>
 cases gs with
 |cons _ _=>cases h
 |nil=>
 obtain⟨p,e,h⟩:=aE.1 (show ob c.asI _=some y from h);obtain⟨a,h⟩:=bV.1 h;cases h;obtain⟨v,f,rfl,d,b⟩:=b.of_cons;rw[b.of_nil];rw[nK e]at d;rw[d.int_inv];have a:=zB5 a;exact⟨p.2,rfl,by rw[a];rfl⟩
theorem eS.pair {q t b c:Type} {d:V6 GV->V1 b} {e:V6 GV->V1 c} {r:eD q} {s:eD t} {m:q->b} {n:t->c} (u:eS S ρ w d r m) (A:eS S ρ w e s n):eS S ρ w (dP r.sz d e) (eD.pair r s) (λz=>(m z.1,n z.2)):=λgs l y f h p=>by
 obtain⟨x,B,h⟩:=aE.1 (show ob (d (gs.take r.sz)) _=some y from h);obtain⟨F,j,h⟩:=aE.1 h;cases h;have p:gs.length=r.sz+s.sz:=p;have E:=f.len;obtain⟨z,rfl,C⟩:=u _ (l.take r.sz) _ (by simpa using f.sub 0 r.sz) B Q1;obtain⟨D,rfl,k⟩:=A _ (l.drop r.sz) _ ⟨Q1,λi g v o a=>by rw[zAu]at o a;exact f.at' _ _ _ o a⟩ j Q1;exact⟨(z,D),rfl,_,_,(zBf r.sz l).symm,C,k⟩
theorem WH {C D:Type} {d:V6 GV->V1 D} {r:eD C} {E:C->D} (F:eS S ρ w d r E) (b:Nat):∀(n:Nat) (f:V6 GV) (m:V6 V0) (a:Nat) (l:V6 D),ahF r.sz d n f=some l->qE ρ f m->f.length=n*r.sz->(∀(j:Nat) x,m[j]? = some x->w.cell? ⟨b,a+j,none⟩=some x)->
  ∃p:V6 C,p.map E=l/\p.length=n/\∀(i:Nat) z,p[i]? = some z->∃q,(∀(j:Nat) e,q[j]? = some e->w.cell? ⟨b,a+(i*r.sz+j),none⟩=some e)/\r.R w S q z
 |0,f,m,a,l,h,hr,hl,hc=>by
  cases h;exact⟨[],rfl,rfl,λi z t=>by simp at t⟩
 | n + 1, f, m, a, l, h, hr, hl, hc => by
  obtain⟨y,M,h⟩:=aE.1 (show ob (d (f.take r.sz)) (λy=>ob (ahF r.sz d n (f.drop r.sz)) λl=>some (y::l))=some l from h);obtain⟨B,s,h⟩:=aE.1 h;cases h;rw[Nat.succ_mul]at hl;have O:=hr.len;obtain⟨z,rfl,t⟩:=F _ (m.take r.sz) _ (by simpa using hr.sub 0 r.sz) M Q1;obtain⟨p,rfl,u,A⟩:=WH F b n (f.drop r.sz) (m.drop r.sz) (a+r.sz) B s ⟨Q1,λi g v G o=>by rw[zAu]at G o;exact hr.at' _ _ _ G o⟩ Q1 (λj x J=>by
   rw[zAu]at J;rw[Nat.add_assoc];exact hc _ _ J)
  refine⟨z::p,rfl,by simp[u],λi N c=> ?_⟩
  cases i with
  | zero =>
   simp at c;subst c;refine⟨_,λj e k=> ?_,t⟩
   rw[zAt]at k;by_cases I:j<r.sz
   .rw[if_pos I]at k;have:=hc j e k;simpa using this
   .rw[if_neg I]at k;cases k
  |succ i=>
   simp at c;obtain⟨q,K,L⟩:=A i N c;refine⟨q,λj e k=> ?_,L⟩
   have:=K j e k;rw[Nat.succ_mul];rw[show a+(i*r.sz+r.sz+j)=a+r.sz+(i*r.sz+j) by omega];exact this
theorem So (R:gQ w0 ρ H w) {v:GV} {V:V0} {B:Nat} {p:Nat×V6 GV} (t:Rl ρ v V) (h:uW H B v=some p):
  p.2.length=p.1*B/\∃a c,V = .slice a p.1 c/\p.1<=c/\(p.1=0\/∃b i o,a=some ⟨b,i,none⟩/\w0.mine b/\qE ρ p.2 o/\∀(j:Nat) x,o[j]? = some x->w.cell? ⟨b,i+j,none⟩=some x):=by
 obtain⟨o,C⟩:=Ep R t h;refine⟨by rw[C.rel.len,C.len],?_⟩
 obtain⟨f,c,y,D,F⟩:=C.val;refine⟨f,c,y,D,?_⟩
 rcases F with⟨_,m,_⟩|⟨A,rfl,d⟩
 .exact .inl m
 .by_cases m:p.1=0
  .exact .inl m
  .refine .inr ?_;unfold uW at h;cases z:v.isSnil with
   |true=>rw[z]at h;cases h;exact absurd Z m
   | false =>
    rw[z]at h;obtain⟨s,I,h⟩:=aE.1 (show ob v.asS _=some p from h);rw[Dp I,y]at t;obtain⟨l,u,K,G,e,E,n⟩:=t.sl_inv;injection e with k M N;injection k with k;rcases n with n|⟨n,_⟩
    .omega
    .rw[n]at k;subst k;have r:w0.mine l.b:=by
      obtain⟨_,h⟩:=bV.1 h;obtain⟨L,q,_⟩:=aE.1 h;obtain⟨O,g,r,_⟩:=R.live _ _ (jQ.1 q);rw[G]at g;cases g;exact r
     exact⟨l.b,l.off+s.2.1,o,rfl,r,C.rel,λj x J=>by have:=d j x J;rwa[eM]at this⟩
theorem CY {m n:Type} {d:V6 GV->V1 n} {r:eD m} {o:m->n} (R:gQ w0 ρ H w) (t:∀k,w0.mine k->S k) (u:eS S ρ w d r o) {v:GV} {V:V0} {j:V6 n} (B:Rl ρ v V) (h:NA H r.sz d v=some j):∃l:V6 m,l.map o=j/\Fc r w S V l:=by
 obtain⟨p,z,h⟩:=aE.1 (show ob (uW H r.sz v) _=some j from h);obtain⟨g,h⟩:=bV.1 h;have g:p.1<=1099511627776:=by simpa using g
 obtain⟨i,a,f,rfl,E,x⟩:=So R B z;rcases x with q|⟨b,e,D,rfl,y,A,c⟩
 .rw[q]at h;cases h;exact⟨[],rfl,a,f,by rw[q];rfl,V8,.inl Z⟩
 .obtain⟨l,rfl,s,C⟩:=WH u b p.1 p.2 D e j h A i c;exact⟨l,rfl,some ⟨b,e,none⟩,f,by rw[s],by rw[s];omega,.inr ⟨b,e,rfl,t b y,C⟩⟩
theorem eS.sl {e f:Type} {d:V6 GV->V1 f} {r:eD e} {b:e->f} (R:gQ w0 ρ H w) (g:∀k,w0.mine k->S k) (i:eS S ρ w d r b):eS S ρ w (dS H r.sz d) (eD.sl r) (λz=>z.2.map b):=λgs vs y a h n=>by
 cases gs with
 |nil=>cases h
 |cons c gs=>
 cases gs with
 |cons _ _=>cases h
 |nil=>
 have h:NA H r.sz d c=some y:=h;obtain⟨v,vs,rfl,j,a⟩:=a.of_cons;rw[a.of_nil];obtain⟨m,rfl,l⟩:=CY R g i j h;exact⟨(v,m),rfl,rfl,l⟩
end
noncomputable section
def xO {c:Type} (e:Nat) (g:c->V6 GV) (a:V6 (V6 c)):GH->V6 GV×GH:=List.rec (motive:=λ_=>GH->V6 GV×GH) (λH=>([],H)) (λb _ d H=>let r:=d (H.new (.cells (b.flatMap g)));(.sl H.n 0 b.length e::r.1,r.2)) a
end
section
variable {P:Program} {gs:AZ} {w0:fM gs} {w:V2} {ρ:eZ} {H:GH}
def G_ (ρ:eZ) (H:GH) (B:Nat->Prop):Prop:=∀h o l,H.get h=some o->ρ h=some l->¬B l.b
theorem G_.mono {B b:Nat->Prop} (h:G_ ρ H B) (f:∀k,b k->B k):G_ ρ H b:=λa o l c d e=>h a o l c d (f _ e)
theorem G_.start (R:gQ w0 ρ H w):G_ ρ H (λk=>w.heap.size<=k):=λh o l b c e=>by
 obtain⟨f,a,_,d⟩:=R.live h o b;rw[c]at a;cases a;have:=d.lt;omega
theorem JA {N:Type} {e:bI N} {d:V6 N} {cs:V6 GV} {v:V0} {B F:Nat->Prop} (R:gQ w0 ρ H w) (A:G_ ρ H B) (U:∀k,B k->w0.mine k) (s:∀k,F k->B k) (V:Bo e w F v d) (E:d≠[]) (t:qE ρ cs (cellsOf e d)):
  ∃f,ρ.le f/\gQ w0 f (H.new (.cells cs)) w/\Rl f (.sl H.n 0 d.length e.sz) v/\G_ f (H.new (.cells cs)) (λk=>B k/\¬F k):=by
 obtain⟨_,y,W⟩:=V;rcases W with⟨_,S⟩|⟨b,p,r,T,c,rfl,C,I,D,G,a⟩
 .exact absurd S E
 have M:(cellsOf e d).length=d.length*e.sz:=by
  rw[<-a];simp;have:d.length*e.sz<=r*e.sz:=zB0 _ D;omega
 have u:ρ.le (ρ.upd H.n ⟨b,p,c.size,.cells c T (0,0),.cells cs⟩):=As (R.fresh _ (zAg _));have J:d.length*e.sz<=r*e.sz:=zB0 _ D;obtain⟨_,O⟩:=R.new (o:= .cells cs) (l:=⟨b,p,c.size,.cells c T (0,0),.cells cs⟩) R.ext (λh o' Y j m=>⟨rfl,λQ=>A h o' Y j m (by rw[Q];exact s _ C)⟩) (U _ (s _ C)) ⟨c,T,I,rfl,by
   show p+cs.length<=c.size;have:=t.len;omega,λi g j=>by
   obtain⟨x,q,X⟩:=t.get j;refine⟨x,?_,X.le u,zA7.1 y x (zA3 q)⟩
   rw[<-a,zAt]at q;by_cases K:i<d.length*e.sz
   .rw[if_pos K,zAu,zAl]at q;exact q
   .rw[if_neg K]at q;cases q⟩ I
 refine⟨_,u,O,.sl (by simp[eZ.upd];rfl) D (.inr ⟨rfl,G⟩),λh o l j m L=> ?_⟩
 rw[rT]at j;by_cases z:h=H.n
 .rw[z]at m;simp[eZ.upd]at m;subst m;exact L.2 C
 .rw[if_neg z]at j;simp only[eZ.upd,if_neg z]at m;exact A h o l j m L.1
theorem PZ {b:Type} {e:bI b} {g:b->V6 GV} (c:∀x,qE ρ (g x) (e.enc x)):∀a:V6 b,qE ρ (a.flatMap g) (cellsOf e a)
 | []=> .nil
 |x::a=>(c x).append (PZ c a)
theorem MA {o:Type} {e:bI o} {g:o->V6 GV} (r:∀ρ x,qE ρ (g x) (e.enc x)):∀(a:V6 (V6 o)) (vs:V6 V0) (G:Nat->Nat->Prop) (B:Nat->Prop) (ρ:eZ) (H:GH),gQ w0 ρ H w->G_ ρ H B->(∀k,B k->w0.mine k)->vs.length=a.length->
  (∀xs∈a,xs≠[])->(∀i v xs,vs[i]? = some v->a[i]? = some xs->Bo e w (G i) v xs)->(∀i k,G i k->B k)->(∀i j k,G i k->G j k->i=j)->
  ∃c,ρ.le c/\gQ w0 c (xO e.sz g a H).2 w/\qE c (xO e.sz g a H).1 vs/\G_ c (xO e.sz g a H).2 (λk=>B k/\∀i,¬G i k)
 | [],vs,G,B,ρ,H,R,A,hB,hl,_,h1,h2,h3=>by
  have:vs=[]:=zAn hl;subst this;exact⟨ρ,eZ.le_refl _,R,.nil,A.mono λk b=>b.1⟩
 |xs::a,[],G,B,ρ,H,R,A,hB,hl,_,h1,h2,h3=>by simp at hl
 |xs::a,v::vs,G,B,ρ,H,R,A,hB,hl,hne,h1,h2,h3=>by
  obtain⟨p,f,u,F,s⟩:=JA R A hB (h2 0) (h1 0 v xs Z Z) (hne xs V8) (PZ (r ρ) xs);obtain⟨q,d,z,l,t⟩:=MA r a vs (λi=>G (i+1)) _ p _ u s (λk b=>hB k b.1) (by simpa using hl) (λy I=>hne y (by simp[I])) (λi J n h m=>h1 (i+1) J n (by simpa using h) (by simpa using m)) (λi k b=>⟨h2 _ k b,λC=>by have:=h3 _ _ k b C;omega⟩) (λi j k D E=>by have:=h3 _ _ k D E;omega);refine⟨q,eZ.le_trans f d,z,.cons (F.le d) l,t.mono λk b=>⟨⟨b.1,b.2 0⟩,λi=>b.2 (i+1)⟩⟩
theorem OI:∀vs:V6 V0,cellsOf bI.raw vs=vs
 | []=>rfl
 |v::vs=>by show v::cellsOf bI.raw vs=_;rw[OI vs]
end
section
variable {P:Program} {gs:AZ} {w0:fM gs} {w:V2} {ρ:eZ} {H:GH}
theorem HE {f:Nat} {a:V6 V0} {L:V6 aZ} {V:V0} {g:GV} (c:aU P f) (d:a_ P f a.toArray L (λ_:Unit=>V) (λ_ l=>l) (λ_ l=>l)) (R:gQ w0 ρ H w) (b:∀h∈L,h.p w All) (i:∀ρ,Rl ρ g V):lK P w0 ρ f a w g H:=by
 refine .inr ⟨c _ w,(d w All b).mono ?_⟩;rintro e j ⟨_,rfl,t⟩;exact⟨V,ρ,rfl,eZ.le_refl _,R.ext' t.old.ext,i _⟩
theorem U_ {V W:Type} {e:bI V} {g:V->V6 GV} {q:bI W} {s:W->V6 GV} (hg:∀ρ x,qE ρ (g x) (e.enc x)) (I:∀ρ x,qE ρ (s x) (q.enc x)) {f:Nat} {S:V6 V0} {L:V6 aZ} {r:V6 V×V6 (V6 W)} (C:r.1≠[]) (D:r.2≠[]) (h3:∀U∈r.2,U≠[]) (hb:aU P f)
  (hm:a_ P f S.toArray L (λx:V0×V0×V6 V0=>Value.agg #[x.1,x.2.1]) (λx l=>Ar e x.1 r.1::Ar bI.raw x.2.1 x.2.2::fE q x.2.2 r.2::l) (λ_ l=>l)) (R:gQ w0 ρ H w) (hL:∀h∈L,h.p w All):
  lK P w0 ρ f S w (.agg [.sl H.n 0 r.1.length e.sz,.sl (xO q.sz s r.2 (H.new (.cells (r.1.flatMap g)))).2.n 0 r.2.length 1]) ((xO q.sz s r.2 (H.new (.cells (r.1.flatMap g)))).2.new (.cells (xO q.sz s r.2 (H.new (.cells (r.1.flatMap g)))).1)):=by
 refine .inr ⟨hb _ w,(hm w All hL).mono ?_⟩;rintro en A ⟨x,rfl,t⟩;obtain⟨F,O,_⟩:=t.own;have q0:Bo _ A (F 0) x.1 r.1:=O.res 0 _ Z;have q1:Bo bI.raw A (F 1) x.2.1 x.2.2:=O.res 1 _ Z;obtain⟨z,G,q2,Q,q4⟩:(fE q x.2.2 r.2).p A (F 2):=O.res 2 _ Z;have R':=R.ext' t.old.ext;have E:∀i k,F i k->w.heap.size<=k:=λi k c=>by
  rcases(O.rng i k c).1 with h|h
  .exact h
  exact h.elim
 obtain⟨X,y,R1,K,A1⟩:=JA (B:=λk=>w.heap.size<=k) R' (λa o l C D=>G_.start R a o l C D) (λk c=> .inl (zB4 R.ext.size c)) (E 0) q0 C (PZ (hg ρ) r.1);obtain⟨ad,j,R2,M,A2⟩:=MA I r.2 x.2.2 G _ X _ R1 A1 (λk c=> .inl (zB4 R.ext.size c.1)) z h3 q2 (λi k c=>⟨E _ _ (Q i k c),λu=>by have:=O.dis _ _ k (Q i k c) u;omega⟩) q4;have J:x.2.2≠[]:=λu=>by rw[u]at z;exact D (zAn z.symm)
 obtain⟨Y,m,R3,N,_⟩:=JA (cs:=(xO q.sz s r.2 (H.new (.cells (r.1.flatMap g)))).1) (F:=F 1) R2 A2 (λk c=> .inl (zB4 R.ext.size c.1.1)) (λk c=>⟨⟨E _ _ c,λu=>by have:=O.dis _ _ k c u;omega⟩,λi hi=>by have:=O.dis _ _ k c (Q i k hi);omega⟩) q1 J (by rw[OI];exact M);refine⟨_,Y,rfl,eZ.le_trans y (eZ.le_trans j m),R3,?_⟩
 refine Ib (vs:=[x.1,x.2.1]) (.cons ((K.le j).le m) (.cons (by rw[<-z];exact N) .nil)) λv hv=>?_;have d:∀{γ:Type} {e:bI γ} {F:Nat->Prop} {v:V0} {U:V6 γ},Bo e A F v U->one v=true:=λh=>by
  obtain⟨_,_,h⟩:=h;rcases h with⟨rfl,_⟩|⟨b,ac,aa,T,ab,rfl,_⟩<;>rfl
 simp at hv;rcases hv with rfl|rfl
 .exact d q0
 exact d q1
end
noncomputable section
def Of (H:GH) (v:GV):V1 (V6 Int):=NA H 1 (dI .i64) v
def aaB (H:GH) (v:GV):V1 (V6 (V6 (Int×Int))):=NA H 1 (dS H 2 (dP 1 (dI .i64) (dI .i64))) v
def aaA (H:GH) (v:GV):V1 (V6 Int×V6 (V6 (Int×Int))):=ob v.asA λc=>List.casesOn (motive:=λ_=>V1 (V6 Int×V6 (V6 (Int×Int)))) c none λa r=>List.casesOn (motive:=λ_=>V1 (V6 Int×V6 (V6 (Int×Int)))) r none λb r=>List.casesOn (motive:=λ_=>V1 (V6 Int×V6 (V6 (Int×Int)))) r (ob (Of H a) λx=>ob (aaB H b) λy=>some (x,y)) λ_ _=>none
end
section
variable {P:Program} {gs:AZ} {w0:fM gs} {w:V2} {ρ:eZ} {H:GH}
theorem Ip (R:gQ w0 ρ H w) {v:GV} {V:V0} {a:V6 Int} (b:Rl ρ v V) (h:Of H v=some a):(Sl (eD.int .i64) V a).p w All:=by
 obtain⟨d,rfl,c⟩:=CY R (λ_ _=>trivial) (eS.int .i64) b h;rw[List.map_id];exact c
theorem Yh (R:gQ w0 ρ H w) {v:GV} {V:V0} {b:V6 (V6 (Int×Int))} (c:Rl ρ v V) (h:aaB H v=some b):∃a,(S2 (eD.pair (eD.int .i64) (eD.int .i64)) V a b).p w All:=by
 obtain⟨a,rfl,d⟩:=CY R (λ_ _=>trivial) (eS.sl R (λ_ _=>trivial) (eS.pair (eS.int .i64) (eS.int .i64))) c h;exact⟨a,d,V8⟩
theorem Yg (R:gQ w0 ρ H w) {v:GV} {V:V0} {p:V6 Int×V6 (V6 (Int×Int))} (j:Rl ρ v V) (h:aaA H v=some p):∃e f i,V = .agg #[e,f]/\(Sl (eD.int .i64) e p.1).p w All/\(S2 (eD.pair (eD.int .i64) (eD.int .i64)) f i p.2).p w All:=by
 obtain⟨c,g,h⟩:=aE.1 (show ob v.asA _=some p from h);rw[LW g]at j;obtain⟨k,rfl,d,_⟩:=j.agg_inv;cases c with
 |nil=>cases h
 |cons a c=>
 cases c with
 |nil=>cases h
 |cons b c=>
 cases c with
 |cons _ _=>cases h
 |nil=>
 obtain⟨x,n,h⟩:=aE.1 (show ob (Of H a) _=some p from h);obtain⟨y,o,h⟩:=aE.1 h;cases h;obtain⟨e,k,rfl,l,d⟩:=d.of_cons;obtain⟨f,k,rfl,m,d⟩:=d.of_cons;rw[d.of_nil];obtain⟨i,q⟩:=Yh R m o;exact⟨e,f,i,rfl,Ip R l n,q⟩
end
end Go.Gx