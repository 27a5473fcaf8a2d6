/- Models and proofs. Conditions: none. -/
import Derived.Test.YtflciafboapaaaaGreatZRRu3
import Derived.Test.YtflciafboapaaaaGreatZRRu1
set_option linter.unusedVariables false
set_option linter.unusedSimpArgs false
set_option maxHeartbeats 4000000
set_option maxRecDepth 20000
namespace Go.Gx
open Go Go.Sx Go.RowKit
section
variable {R α:Type}
theorem Bp (r:OR) (k:GV->GH->Option R):eH r k=eH (eH r FD) k:=by
 cases r with
 |none=>rfl
 |some p=>rfl
theorem fD (x:Option α) {f:α->Option R} {g:α->OR} {k:GV->GH->Option R} (h:∀a,f a=eH (g a) k):ob x f=eH (ob x g) k:=by
 cases x with
 |none=>rfl
 |some a=>exact h a
theorem aaY {n:TB} {s:CH} {d:GF} {H:GH} (o:Op) (k:GV->GH->Option R):PO n s o d H k=eH (PO n s o d H FD) k:=by
 have e:∀x (f:GV->Option GV),k1 x f d H k=eH (k1 x f d H FD) k:=λx f=>fD _ λx=>fD _ λv=>fD _ λg=>rfl;have j:∀x y (f:GV->GV->Option GV),k2 x y f d H k=eH (k2 x y f d H FD) k:=λx y f=>fD _ λx=>fD _ λv=>fD _ λu=>fD _ λg=>rfl;have B:∀x y z (f:GV->GV->GV->Option GV),k3 x y z f d H k=eH (k3 x y z f d H FD) k:=λx y z f=>fD _ λx=>fD _ λv=>fD _ λu=>fD _ λt=>fD _ λg=>rfl;cases o with
 |move x=>exact fD _ λv=>rfl
 |assign x=>exact fD _ λv=>rfl
 |pick c x y=>exact B _ _ _ _
 |alloc T=>exact Bp _ _
 |box T x=>exact fD _ λv=>Bp _ _
 |build T G=>exact fD _ λJ=>fD _ λg=>rfl
 |buildSlice T m G=>exact fD _ λx=>Bp _ _
 |load T x=>exact fD _ λv=>fD _ λg=>rfl
 |store T x y=>exact fD _ λv=>fD _ λu=>Bp _ _
 |nilCheck x=>exact e _ _
 |binOp F T x y A=>exact j _ _ _
 |unOp F T x=>exact e _ _
 |convert S D x=>exact e _ _
 |makeFunc C first r=>
  cases C with
  |func f=>exact fD _ λI=>fD _ λJ=>rfl
  |_=>rfl
 |makeMap T q=>
  cases q with
  |none=>exact Bp _ _
  |some x=>rfl
 |makeSlice T x y=>exact fD _ λv=>fD _ λu=>Bp _ _
 |slice T x L K E=>
  cases E with
  |none=>exact fD _ λv=>fD _ λl=>fD _ λh=>fD _ λg=>rfl
  |some y=>rfl
 |fieldAddr T x f=>exact e _ _
 |field T x f=>exact e _ _
 |indexAddr T x y=>exact j _ _ _
 |index T x y=>exact j _ _ _
 |lookup T x y M=>exact fD _ λv=>fD _ λu=>fD _ λg=>rfl
 |mapUpdate T x y z=>exact fD _ λv=>fD _ λu=>fD _ λt=>Bp _ _
 |extract x i=>exact e _ _
 | call c =>
  obtain⟨p,a,w⟩:=c;cases p with
  |value f=>exact fD _ λv=>fD _ λg=>fD _ λI=>Bp _ _
  |invoke x m=>rfl
  | builtin b =>
   show SX n a w b d H k=eH (SX n a w b d H FD) k;obtain⟨a⟩:=a;cases b with
   |len=>
    match a with
    | []=>rfl
    | [x]=>exact fD _ λT=>fD _ λv=>fD _ λg=>rfl
    |_::_::_=>rfl
   |max=>
    match a with
    | []=>rfl
    | [x]=>rfl
    | [x,y]=>exact j _ _ _
    |_::_::_::_=>rfl
   |min=>
    match a with
    | []=>rfl
    | [x]=>rfl
    | [x,y]=>exact j _ _ _
    |_::_::_::_=>rfl
   |append=>
    match a with
    | []=>rfl
    | [x]=>rfl
    | [x,y]=>exact fD _ λT=>fD _ λA=>fD _ λv=>fD _ λu=>Bp _ _
    |_::_::_::_=>rfl
   |copy=>
    match a with
    | []=>rfl
    | [x]=>rfl
    | [x,y]=>exact fD _ λT=>fD _ λv=>fD _ λu=>Bp _ _
    |_::_::_::_=>rfl
   |cap=>
    match a with
    | []=>rfl
    | [x]=>exact fD _ λT=>fD _ λv=>fD _ λg=>rfl
    |_::_::_=>rfl
   |_=>rfl
 |_=>rfl
theorem EO {b a:GF}:∀{xs:List Operand},(∀x∈xs,lK b x=lK a x)->HN b xs=HN a xs
 | [],_=>rfl
 |x::xs,h=>by
  show ob (lK b x) (λv=>ob (HN b xs) λc=>some (v::c))=ob (lK a x) (λv=>ob (HN a xs) λc=>some (v::c));rw[h x zAf,EO λy d=>h y (zAl _ d)]
theorem EP {b a:GF}:∀{xs:List (Nat×Operand)},(∀x∈xs,lK b x.2=lK a x.2)->wG b xs=wG a xs
 | [],_=>rfl
 |x::xs,h=>by
  show ob (lK b x.2) (λv=>ob (wG b xs) λc=>some ((x.1,v)::c))=ob (lK a x.2) (λv=>ob (wG a xs) λc=>some ((x.1,v)::c));rw[h x zAf,EP λy d=>h y (zAl _ d)]
theorem LA {b a:GF} {o:Option Operand} (h:∀x∈o.toArray,lK b x=lK a x):Jp b o=Jp a o:=by
 cases o with
 |none=>rfl
 |some x=>
  show ob (lK b x) (λv=>some (some v))=ob (lK a x) (λv=>some (some v));rw[h x (by simp)]
theorem Vw {n:TB} {G:CH} {j a:GF} {H:GH} {o:Op} {k:GV->GH->Option R} (h:∀x∈o.operands,lK j x=lK a x):PO n G o j H k=PO n G o a H k:=by
 have s:∀x (f:GV->Option GV),lK j x=lK a x->k1 x f j H k=k1 x f a H k:=λx f e=>by simp only[k1,ob,e]
 have t:∀x y (f:GV->GV->Option GV),lK j x=lK a x->lK j y=lK a y->k2 x y f j H k=k2 x y f a H k:=λx y f e w=>by simp only[k2,ob,e,w]
 have J:∀x y z (f:GV->GV->GV->Option GV),lK j x=lK a x->lK j y=lK a y->lK j z=lK a z->k3 x y z f j H k=k3 x y z f a H k:=λx y z f e w A=>by simp only[k3,ob,e,w,A]
 cases o with
 |move x=>show Kd x j H k=Kd x a H k;simp only[Kd,ob,h x (by simp[Op.operands])]
 |assign x=>show Kd x j H k=Kd x a H k;simp only[Kd,ob,h x (by simp[Op.operands])]
 |pick c x y=>exact J _ _ _ _ (h _ (by simp[Op.operands])) (h _ (by simp[Op.operands])) (h _ (by simp[Op.operands]))
 |alloc T=>rfl
 |box T x=>show abc x j H k=abc x a H k;simp only[abc,ob,h x (by simp[Op.operands])]
 | build T ps =>
  show ob (wG j ps.toList) _=ob (wG a ps.toList) _;rw[EP λx d=>h x.2 (by
   have:x∈ps:=by simpa using d
   simp only[Op.operands,List.mem_toArray,zB9];exact⟨x,d,rfl⟩)]
 | buildSlice T m ps =>
  show ob (wG j ps.toList) _=ob (wG a ps.toList) _;rw[EP λx d=>h x.2 (by
   simp only[Op.operands,List.mem_toArray,zB9];exact⟨x,d,rfl⟩)]
 |load T x=>show Uk n T x j H k=Uk n T x a H k;simp only[Uk,ob,h x (by simp[Op.operands])]
 |store T x y=>show OS n T x y j H k=OS n T x y a H k;simp only[OS,ob,h x (by simp[Op.operands]),h y (by simp[Op.operands])]
 |nilCheck x=>exact s _ _ (h _ (by simp[Op.operands]))
 |binOp L T x y M=>exact t _ _ _ (h _ (by simp[Op.operands])) (h _ (by simp[Op.operands]))
 |unOp L T x=>exact s _ _ (h _ (by simp[Op.operands]))
 |convert S D x=>exact s _ _ (h _ (by simp[Op.operands]))
 | makeFunc fn first caps =>
  cases fn with
  | func f =>
   show ob (HN j first.toList) _=ob (HN a first.toList) _;rw[EO λx d=>h x (by simp only[Op.operands,Array.mem_append];exact .inl (by simpa using d)),
    EO (xs:=caps.toList) λx d=>h x (by simp only[Op.operands,Array.mem_append];exact .inr (by simpa using d))]
  |_=>rfl
 |makeMap T q=>
  cases q with
  |none=>rfl
  |some x=>rfl
 |makeSlice T x y=>show Um n T x y j H k=Um n T x y a H k;simp only[Um,ob,h x (by simp[Op.operands]),h y (by simp[Op.operands])]
 | slice T x lo hi mx =>
  cases mx with
  |none=>
   show ob (some x) (λx=>ob (lK j x) λv=>ob (Jp j lo) λl=>ob (Jp j hi) λh=>ob (Bj n T v l h H) λg=>k g H)=ob (some x) (λx=>ob (lK a x) λv=>ob (Jp a lo) λl=>ob (Jp a hi) λh=>ob (Bj n T v l h H) λg=>k g H);have C:Jp j lo=Jp a lo:=LA λy F=>h y (by simp only[Op.operands,Array.mem_append];exact .inl (.inl (.inr F)));have B:Jp j hi=Jp a hi:=LA λy F=>h y (by simp only[Op.operands,Array.mem_append];exact .inl (.inr F));have d:lK j x=lK a x:=h x (by simp only[Op.operands,Array.mem_append];exact .inl (.inl (.inl (by simp))));simp only[ob,C,B,d]
  |some y=>rfl
 |fieldAddr T x f=>exact s _ _ (h _ (by simp[Op.operands]))
 |field T x f=>exact s _ _ (h _ (by simp[Op.operands]))
 |indexAddr T x y=>exact t _ _ _ (h _ (by simp[Op.operands])) (h _ (by simp[Op.operands]))
 |index T x y=>exact t _ _ _ (h _ (by simp[Op.operands])) (h _ (by simp[Op.operands]))
 |lookup T x y I=>show Ul n T x y I j H k=Ul n T x y I a H k;simp only[Ul,ob,h x (by simp[Op.operands]),h y (by simp[Op.operands])]
 |mapUpdate T x y z=>show OQ n T x y z j H k=OQ n T x y z a H k;simp only[OQ,ob,h x (by simp[Op.operands]),h y (by simp[Op.operands]),h z (by simp[Op.operands])]
 |extract x i=>exact s _ _ (h _ (by simp[Op.operands]))
 | call c =>
  obtain⟨u,p,r⟩:=c;cases u with
  |value f=>
   have K:lK j f=lK a f:=h f (by simp[Op.operands,Call.operands]);have E:HN j p.toList=HN a p.toList:=EO λx d=>h x (by simp[Op.operands,Call.operands];exact .inr (by simpa using d));show ob (lK j f) _=ob (lK a f) _;simp only[ob,K,E]
  |invoke x m=>rfl
  | builtin b =>
   show SX n p r b j H k=SX n p r b a H k;have d:∀x∈p,lK j x=lK a x:=λx d=>h x (by simp[Op.operands,Call.operands];exact d);obtain⟨p⟩:=p;cases b with
   |len=>
    match p,d with
    | [],_=>rfl
    | [x],d=>show VE n r.toList x j H k=VE n r.toList x a H k;simp only[VE,ob,d x (by simp)]
    |_::_::_,_=>rfl
   |max=>
    match p,d with
    | [],_=>rfl
    | [x],_=>rfl
    | [x,y],d=>exact t _ _ _ (d _ (by simp)) (d _ (by simp))
    |_::_::_::_,_=>rfl
   |min=>
    match p,d with
    | [],_=>rfl
    | [x],_=>rfl
    | [x,y],d=>exact t _ _ _ (d _ (by simp)) (d _ (by simp))
    |_::_::_::_,_=>rfl
   |append=>
    match p,d with
    | [],_=>rfl
    | [x],_=>rfl
    | [x,y],d=>show XV n r.toList x y j H k=XV n r.toList x y a H k;simp only[XV,ob,d x (by simp),d y (by simp)]
    |_::_::_::_,_=>rfl
   |copy=>
    match p,d with
    | [],_=>rfl
    | [x],_=>rfl
    | [x,y],d=>show Qy n r.toList x y j H k=Qy n r.toList x y a H k;simp only[Qy,ob,d x (by simp),d y (by simp)]
    |_::_::_::_,_=>rfl
   |cap=>
    match p,d with
    | [],_=>rfl
    | [x],d=>show VD n r.toList x j H k=VD n r.toList x a H k;simp only[VD,ob,d x (by simp)]
    |_::_::_,_=>rfl
   |_=>rfl
 |_=>rfl
end
noncomputable def GX (c:TB) (b:CH) (all:List Oper) (o:Oper) (a:GF) (H:GH):OR:=Option.casesOn (motive:=λ_=>OR) o.guard (PO c b o.op a H FD) λg=>ob (Jb all g.1) λe=>ob e.dst λd=>ob (GY a d) λv=>evG c b o ⟨a,H⟩ g.2 v
theorem aaR {b:TB} {a:CH} {all:List Oper} {o:Oper} {k:GS->RS} {s:GS}:Lw b a all o k s=eH (GX b a all o s.σ s.H) (opK o.dst s k):=by
 unfold Lw GX;cases o.guard with
 |none=>exact aaY _ _
 |some g=>exact fD _ λd=>fD _ λc=>fD _ λv=>rfl
theorem GE {d:TB} {c:CH} {all:List Oper} {o:Oper} {k:GS->RS} {s:GS} {a:P_} (h:Lw d c all o k s=some a):∃g b,GX d c all o s.σ s.H=some (g,b)/\k ⟨putD o.dst g s.σ,b⟩=some a:=by
 rw[aaR]at h;obtain⟨g,b,e,f⟩:=nE h;exact⟨g,b,e,f⟩
theorem SI {c:TB} {b:CH} {all:List Oper} {o:Oper} {d a:GF} {H:GH} (h:∀t∈o.looksAt all.toArray,GY d t=GY a t):GX c b all o d H=GX c b all o a H:=by
 have e:PO c b o.op d H FD=PO c b o.op a H FD:=Vw λx l=>by
  cases x with
  |tmp t=>exact h t (List.mem_append_left _ (List.mem_filterMap.2 ⟨.tmp t,by simpa using l,rfl⟩))
  |_=>rfl
 unfold GX;cases j:o.guard with
 |none=>exact e
 | some g =>
  show ob (Jb all g.1) _=ob (Jb all g.1) _;cases f:Jb all g.1 with
  |none=>rfl
  | some oj =>
   show ob oj.dst _=ob oj.dst _;cases i:oj.dst with
   |none=>rfl
   | some dj =>
    have k:dj∈o.looksAt all.toArray:=by
     rw[wH]at f;simp[Oper.looksAt,j,f,i]
    show ob (GY d dj) (λv=>evG c b o ⟨d,H⟩ g.2 v)=ob (GY a dj) (λv=>evG c b o ⟨a,H⟩ g.2 v);rw[h dj k];cases GY a dj with
    |none=>rfl
    | some v =>
     show evG c b o ⟨d,H⟩ g.2 v=evG c b o ⟨a,H⟩ g.2 v;cases v with
     |bool q=>
      show Bool.casesOn (motive:=λ_=>OR) (Ue q g.2) (some (.un,H)) (PO c b o.op d H FD)=Bool.casesOn (motive:=λ_=>OR) (Ue q g.2) (some (.un,H)) (PO c b o.op a H FD);rw[e]
     |_=>rfl
section
variable {P:Program} {tb:TB} {gs:BY} {w0:f_ gs}
theorem GD {u:CH} {all:List Oper} {n:Nat} {o:Oper} {r:GF} {H k:GH} {g:GV} {ρ:fK} {a:Act} (F:mE ρ n r a) (h:GX tb u all o r H=some (g,k)):
  (Region.wanted o (yielded all.toArray a.tmps)=true/\PO tb u o.op r H FD=some (g,k))\/(Region.wanted o (yielded all.toArray a.tmps)=false/\g = .un/\k=H):=by
 unfold GX at h;cases l:o.guard with
 |none=>
  rw[l]at h;exact .inl ⟨by simp[Region.wanted,l],h⟩
 | some gd =>
  rw[l]at h;obtain⟨A,m,h⟩:=aD.1 (show ob (Jb all gd.1) _=some (g,k)from h);obtain⟨i,s,h⟩:=aD.1 h;obtain⟨v,y,j⟩:=aD.1 h;have e:=F.slot i v y;rw[wH]at m;have t:yielded all.toArray a.tmps gd.1=(match a.tmps[i]? with|some (.bool b)=>some b|_=>none):=by
   unfold yielded;have:(all.toArray[gd.1]?).bind (·.dst)=some i:=by simp[m,s]
   rw[this];rfl
  cases v with
  | bool q =>
   have d:=e.bool_inv;have x:a.tmps[i]? = some (.bool q):=by
    simp only[Act.eval,Array.getD_eq_getD_getElem?]at d;cases p:a.tmps[i]? with
    |none=>rw[p]at d;cases d
    |some z=>rw[p]at d;simp at d;rw[d]
   rw[x]at t;have c:Bool.casesOn (motive:=λ_=>OR) (Ue q gd.2) (some (.un,H)) (PO tb u o.op r H FD)=some (g,k):=j;rw[HK]at c;have w:Region.wanted o (yielded all.toArray a.tmps)=(q==gd.2):=by
    simp only[Region.wanted,l];rw[t];cases q<;>cases gd.2<;>rfl
   cases f:(q==gd.2)with
   |true=>rw[f]at c;exact .inl ⟨by rw[w,f],c⟩
   |false=>rw[f]at c;cases c;exact .inr ⟨by rw[w,f],rfl,rfl⟩
  | un =>
   have d:=e.un_inv;cases j;refine .inr ⟨?_,rfl,rfl⟩;simp only[Region.wanted,l];rw[t];have:(match a.tmps[i]? with|some (.bool b)=>some b|_=>none)=(none:Option Bool):=by
    simp only[Act.eval,Array.getD_eq_getD_getElem?]at d;cases p:a.tmps[i]? with
    |none=>rfl
    |some z=>rw[p]at d;simp at d;rw[d];rfl
   rw[this];rfl
  |_=>cases j
theorem KM {f:CH} (k:gQ P tb) (c:tT P w0 f) {all:List Oper} {n:Nat} {o:Oper} {e:GF} {H b:GH} {g:GV} {d:fK} {a:Act} {w:World} (p:Jx n o=true) (F:mE d n e a) (R:iD w0 d H w) (h:GX tb f all o e H=some (g,b)):
  (Region.wanted o (yielded all.toArray a.tmps)=true/\Ec P w0 d e a w o g H b)\/(Region.wanted o (yielded all.toArray a.tmps)=false/\g = .un/\b=H):=by
 obtain⟨_,_,j⟩:=vT p;rcases GD F h with⟨r,l⟩|h
 ·obtain⟨s,i,m,q⟩:=SN k c F R j l;cases m;exact .inl ⟨r,q⟩
 ·exact .inr h
def YP (tb:TB) (T:TypeId):Bool:=match tb T with
 |some t=>(match t.desc with|.array .. => false|_=>true)
 |none=>false
def pureOp (tb:TB):Op->Bool
 | .move _ | .assign _ | .pick .. | .build .. | .nilCheck _ | .binOp .. | .unOp .. | .convert .. | .makeFunc .. | .fieldAddr .. | .field .. | .indexAddr .. | .index .. | .extract .. => true
 | .slice T _ _ _ _=>YP tb T
 | .call ⟨.builtin .len,_,_⟩ | .call ⟨.builtin .max,_,_⟩ | .call ⟨.builtin .min,_,_⟩=>true
 |_=>false
def isFloat:Op->Bool
 | .buildSlice .. | .alloc .. | .box .. | .makeSlice .. => true
 |_=>false
theorem iW {b:fK} {g:GV} {s:Sem V0} {a:Act} {o:Oper} (h:EE P b s g) (c:∀w v,s.run P w = .ok v w->(execOp a.eval o).run P w = .ok (.value v) w):∃v,Rl b g v/\∀w,(execOp a.eval o).run P w = .ok (.value v) w:=
 let ⟨v,hv,hr⟩:=h;⟨v,hv,λw=>c w v (hr w)⟩
theorem XN {ih:CH} (E:gQ P tb) {ρ:fK} {n:Nat} {s:GF} {a:Act} (F:mE ρ n s a) {o:Oper} {H r:GH} {g:GV} (R:pureOp tb o.op=true) (aa:LW o.op=true) (h:PO tb ih o.op s H FD=some (g,r)):
  r=H/\∃v,Rl ρ g v/\∀w,(execOp a.eval o).run P w = .ok (.value v) w:=by
 obtain⟨d,W,J,ad,ac,gd⟩:=o;cases W with
 |move x=>
  obtain⟨v,q,h⟩:=aD.1 (show ob (lK s x) _=some (g,r)from h);cases h;exact⟨rfl,_,dH F q,λw=>by simp[execOp]⟩
 |assign x=>
  obtain⟨v,q,h⟩:=aD.1 (show ob (lK s x) _=some (g,r)from h);cases h;exact⟨rfl,_,dH F q,λw=>by simp[execOp]⟩
 |pick c x y=>
  obtain⟨v,q,h⟩:=aD.1 (show ob (lK s c) _=some (g,r)from h);obtain⟨u,C,h⟩:=aD.1 h;obtain⟨t,ht,h⟩:=aD.1 h;obtain⟨z,k,h⟩:=aD.1 h;cases h;obtain⟨b,hb,k⟩:=aD.1 (show ob v.asB _=some g from k);have Y:=dH F q;rw[DD hb]at Y;cases b with
  |true=>cases k;exact⟨rfl,_,dH F C,λw=>by simp[execOp,Y.bool_inv,asBool]⟩
  |false=>cases k;exact⟨rfl,_,dH F ht,λw=>by simp[execOp,Y.bool_inv,asBool]⟩
 | build T ps =>
  obtain⟨vs,N,h⟩:=aD.1 (show ob (wG s ps.toList) _=some (g,r)from h);obtain⟨z,k,h⟩:=aD.1 h;cases h;exact⟨rfl,iW (NY E (Eh F N) k) (λw v j=>by
   have e:(ps.toList.map λp=>(p.1,a.eval p.2)).toArray=ps.map λp=>(p.1,a.eval p.2):=by apply Array.toList_inj.1;simp
   rw[e]at j;simp[execOp,j])⟩
 |nilCheck x=>
  obtain⟨v,q,h⟩:=aD.1 (show ob (lK s x) _=some (g,r)from h);obtain⟨z,k,h⟩:=aD.1 h;cases h;obtain⟨rfl,j⟩:=QG (P:=P) (dH F q) k;exact⟨rfl,_,dH F q,λw=>j _ x a.eval Z Z w⟩
 | binOp W T x y T' =>
  obtain⟨v,q,h⟩:=aD.1 (show ob (lK s x) _=some (g,r)from h);obtain⟨u,C,h⟩:=aD.1 h;obtain⟨z,k,h⟩:=aD.1 h;cases h;exact⟨rfl,iW (UK E x y (dH F q) (dH F C) k) (λw v j=>by
   simp only[execOp];simp at j ⊢;cases V:Sem.run P (eqGuard W T x y (a.eval x) (a.eval y)) w with
   |ok u w1=>rw[V]at j;simp at j;simp[j]
   |halt h1 w1=>rw[V]at j;cases j)⟩
 |unOp W T x=>
  obtain⟨v,q,h⟩:=aD.1 (show ob (lK s x) _=some (g,r)from h);obtain⟨z,k,h⟩:=aD.1 h;cases h;exact⟨rfl,iW (Zp (dH F q) k) (λw v j=>by simp[execOp,j])⟩
 |convert S D x=>
  obtain⟨v,q,h⟩:=aD.1 (show ob (lK s x) _=some (g,r)from h);obtain⟨z,k,h⟩:=aD.1 h;cases h;exact⟨rfl,iW (Ry E (dH F q) k) (λw v j=>by simp[execOp,j])⟩
 | makeFunc fn first caps =>
  cases fn with
  |func f=>
   obtain⟨us,ab,h⟩:=aD.1 (show ob (HN s first.toList) _=some (g,r)from h);obtain⟨vs,N,h⟩:=aD.1 h;cases h;refine⟨rfl,_,Sg (GG F ab) (GG F N),λw=> ?_⟩
   have e1:(first.toList.map a.eval).toArray=first.map a.eval:=by apply Array.toList_inj.1;simp
   have e2:(caps.toList.map a.eval).toArray=caps.map a.eval:=by apply Array.toList_inj.1;simp
   rw[e1,e2];simp[execOp,Instr.makeFunc]
  |_=>cases h
 |fieldAddr T x f=>
  obtain⟨v,q,h⟩:=aD.1 (show ob (lK s x) _=some (g,r)from h);obtain⟨z,k,h⟩:=aD.1 h;cases h;exact⟨rfl,iW (NZ E (dH F q) k) (λw v j=>by simp[execOp,j])⟩
 |field T x f=>
  obtain⟨v,q,h⟩:=aD.1 (show ob (lK s x) _=some (g,r)from h);obtain⟨z,k,h⟩:=aD.1 h;cases h;exact⟨rfl,iW (RB E (dH F q) k) (λw v j=>by simp[execOp,j])⟩
 |indexAddr T x y=>
  obtain⟨v,q,h⟩:=aD.1 (show ob (lK s x) _=some (g,r)from h);obtain⟨u,C,h⟩:=aD.1 h;obtain⟨z,k,h⟩:=aD.1 h;cases h;exact⟨rfl,iW (N_ E (dH F q) (dH F C) k) (λw v j=>by simp[execOp,j])⟩
 |index T x y=>
  obtain⟨v,q,h⟩:=aD.1 (show ob (lK s x) _=some (g,r)from h);obtain⟨u,C,h⟩:=aD.1 h;obtain⟨z,k,h⟩:=aD.1 h;cases h;exact⟨rfl,iW (Zg E (dH F q) (dH F C) k) (λw v j=>by simp[execOp,j])⟩
 | slice T x lo hi mx =>
  cases mx with
  | none =>
   obtain⟨v,q,h⟩:=aD.1 (show ob (lK s x) _=some (g,r)from h);obtain⟨l,hl,h⟩:=aD.1 h;obtain⟨e,he,h⟩:=aD.1 h;obtain⟨z,k,h⟩:=aD.1 h;cases h;have hA:∀t,tb T=some t->tdA t.desc=none:=λt ht=>by
    have U:YP tb T=true:=R;unfold YP at U;rw[ht]at U;simp only at U;cases V:t.desc<;>rw[V]at U<;>first|rfl|cases U
   exact⟨rfl,iW (Oa (gs:=noG) E (.inr hA) (dH F q) (KP F hl) (KP F he) k) (λw v j=>by simp[execOp,j])⟩
  |some y=>cases h
 |extract x i=>
  obtain⟨v,q,h⟩:=aD.1 (show ob (lK s x) _=some (g,r)from h);obtain⟨z,k,h⟩:=aD.1 h;cases h;exact⟨rfl,iW (UM (dH F q) k) (λw v j=>by simp[execOp,j])⟩
 | call c =>
  obtain⟨X,Q,B⟩:=c;cases X with
  |value f=>cases R
  |invoke x m=>cases R
  | builtin b =>
   have A:B.size=Q.size:=zA7 aa;have h:SX tb Q B b s H FD=some (g,r):=h;cases b with
   | len =>
    obtain⟨x,O,h⟩:=ER (show LG Q.toList (VE tb B.toList) s H FD=some (g,r)from h);obtain⟨T,M,h⟩:=aD.1 (show ob (Jb B.toList 0) _=some (g,r)from h);obtain⟨v,q,h⟩:=aD.1 h;obtain⟨z,k,h⟩:=aD.1 h;cases h;have L:=KY O;subst L;have K:B = #[T]:=by
     rw[wH]at M;obtain⟨l⟩:=B
     match l,A with
     | [t],_=>simp at M;subst M;rfl
    subst K;exact⟨rfl,iW (UN E (ty:=J) (dH F q) k) (λw v j=>by simp[execOp,resolve,invoke,builtin,j])⟩
   | cap =>
    obtain⟨x,O,h⟩:=ER (show LG Q.toList (VD tb B.toList) s H FD=some (g,r)from h);obtain⟨T,M,h⟩:=aD.1 (show ob (Jb B.toList 0) _=some (g,r)from h);obtain⟨v,q,h⟩:=aD.1 h;obtain⟨z,k,h⟩:=aD.1 h;cases h;have L:=KY O;subst L;have K:B = #[T]:=by
     rw[wH]at M;obtain⟨l⟩:=B
     match l,A with
     | [t],_=>simp at M;subst M;rfl
    subst K;exact⟨rfl,iW (UL E (ty:=J) (dH F q) k) (λw v j=>by simp[execOp,resolve,invoke,builtin,j])⟩
   | max =>
    obtain⟨x,y,O,h⟩:=Bf (show FY Q.toList (λx y=>k2 x y PM) s H FD=some (g,r)from h);obtain⟨v,q,h⟩:=aD.1 (show ob (lK s x) _=some (g,r)from h);obtain⟨u,C,h⟩:=aD.1 h;obtain⟨z,k,h⟩:=aD.1 h;cases h;have L:=GU O;subst L;obtain⟨G,I,K⟩:∃G I,B = #[G,I]:=by
     obtain⟨l⟩:=B
     match l,A with
     | [t,t'],_=>exact⟨t,t',rfl⟩
    subst K;exact⟨rfl,iW (UO (t1:=G) (t2:=I) (ty:=J) (dH F q) (dH F C) k) (λw v j=>by simp[execOp,resolve,invoke,builtin,j])⟩
   | min =>
    obtain⟨x,y,O,h⟩:=Bf (show FY Q.toList (λx y=>k2 x y Zn) s H FD=some (g,r)from h);obtain⟨v,q,h⟩:=aD.1 (show ob (lK s x) _=some (g,r)from h);obtain⟨u,C,h⟩:=aD.1 h;obtain⟨z,k,h⟩:=aD.1 h;cases h;have L:=GU O;subst L;obtain⟨G,I,K⟩:∃G I,B = #[G,I]:=by
     obtain⟨l⟩:=B
     match l,A with
     | [t,t'],_=>exact⟨t,t',rfl⟩
    subst K;exact⟨rfl,iW (UP (t1:=G) (t2:=I) (ty:=J) (dH F q) (dH F C) k) (λw v j=>by simp[execOp,resolve,invoke,builtin,j])⟩
   |_=>cases R
 |_=>cases R
theorem Rx (hG:gQ P tb) {T:TypeId} {n:Nat} {l:List (Nat×GV)} {parts:List (Nat×V0)} {ρ:fK} {H H':GH} {g:GV} (hp:RlP ρ l parts) (h:pW tb T n l H=some (g,H')):
  ∃cs a' T' len sz,H'=H.new (.cells cs)/\g = .sl H.n 0 len sz/\TE ρ cs a'/\cs.length=a'.size/\∀w:World,∃V,(Instr.buildSlice T n parts.toArray).run P w = .ok V (w.alloc (.cells a' T'))/\∀ρ':fK,ρ' H.n=some ⟨w.heap.size,0,a'.size,.cells a' T',.cells cs⟩->Rl ρ' g V:=by
 obtain⟨te,hte,h⟩:=aD.1 (show ob (Cc tb T) _=some (g,H')from h);obtain⟨zc,hz,h⟩:=aD.1 h;obtain⟨hlen,h⟩:=bY.1 h;obtain⟨hbig,h⟩:=bY.1 h;obtain⟨h0,h⟩:=lI.1 h;obtain⟨cs,hfill,h⟩:=aD.1 h;rw[jQ]at h;cases h;obtain⟨⟨d,hd,hde⟩,hE,htab⟩:=yJ hG hte;obtain⟨dz,hdz,_,hC⟩:=vZ (ρ:=ρ) hG hz;rw[htab]at hdz;cases hdz;have hlen:zc.length=te.2.size:=zA7 hlen;have h0:te.2.size≠0:=λe=>by rw[e]at h0;cases h0
 have hbig:n*te.2.size<16777216:=by simpa [zAv]using hbig
 have hrep:=IE hC (by omega) n;rw[hlen]at hrep;obtain⟨a',f1,f2⟩:=GI hp hrep hfill;have hsz0:cs.length=a'.size:=by have:=f2.r.len;simpa using this
 have hsz:a'.size=n*te.2.size:=by
  have e1:=f2.r.len;have:cs.length=(RR zc n).length:=HO hfill;rw[this,ID,hlen]at e1;simp at e1;omega
 refine⟨cs,a',te.1,n,te.2.size,rfl,rfl,f2,hsz0,λw=>⟨.slice (some ⟨w.heap.size,0,none⟩) n n,?_,λρ' hρ=> .sl (l:=⟨w.heap.size,0,a'.size,.cells a' te.1,.cells cs⟩) hρ (zAe _) (.inr ⟨rfl,by simp[hsz]⟩)⟩⟩
 have hu:=hd.run_und w;rw[hde]at hu;by_cases hn:n*te.2.size=0
 ·have hz0:n=0:=by rcases Nat.mul_eq_zero.1 hn with h|h;exact h;exact absurd h h0
  subst hz0;have e0:(Array.range (0*te.2.size)).map (te.2.zero.cells[· % te.2.zero.cells.size]!)=(#[]:Array V0):=by simp
  rw[e0]at f1;have e1:(Array.range 0).map (λ_=>(default:V0)) = #[]:=by simp
  simp[Instr.buildSlice,hu,hE.run_size w,newRow];simp[e1,f1]
 ·simp[Instr.buildSlice,hu,hE.run_size w,hE.run_zero w,hn,f1,newRow,show¬(16777216<n*te.2.size) by omega]
theorem WC {t u w:fK} (x:∀h A l,t h=some A->u h=some l->w h=some l) {g:GV} {v:V0} (C:Rl u g v):∀{r:V0},Rl t g r->Rl w g v:=by
 induction C with
 |int k n=>exact λ_=> .int k n
 |bool b=>exact λ_=> .bool b
 |str s=>exact λ_=> .str s
 |ptr y q=>exact λj=>by cases j with|ptr _ m=>exact .ptr y (x _ _ _ m q)
 |pnil=>exact λ_=> .pnil
 |sl q E D=>exact λj=>by cases j with|sl m _ _=>exact .sl (x _ _ _ m q) E D
 |snil=>exact λ_=> .snil
 |map q=>exact λj=>by cases j with|map m=>exact .map (x _ _ _ m q)
 | fn f a b c d ihb ihd =>
   intro r j;cases j with
   | fn _ z p B d0 =>
    refine .fn f a (λi g v e o=> ?_) c (λi g v e o=> ?_)
    ·have:=bK e;exact ihb i g v e o (p i g _ e (zA2 (by omega)))
    ·have:=bK e;exact ihd i g v e o (d0 i g _ e (zA2 (by omega)))
 |fnil=>exact λ_=> .fnil
 |inil=>exact λ_=> .inil
 | agg a b c ihb =>
   intro r j;cases j with
   |agg z p B=>
    refine .agg a (λi g v e o=> ?_) c;have:=bK e;exact ihb i g v e o (p i g _ e (zA2 (by omega)))
 | tup a b ihb =>
   intro r j;cases j with
   |tup z p=>
    refine .tup a (λi g v e o=> ?_);have:=bK e;exact ihb i g v e o (p i g _ e (zA2 (by omega)))
 |un=>exact λ_=> .un
 |bad v=>exact λ_=> .bad v
 | opn v h hx =>
   intro r j;obtain⟨A,a,_⟩:=j.opn_inv;exact .opn v (x _ _ _ a h) hx
structure Trc (tb:TB) (ih:CH) (all l:List Oper) (S:Nat->GF) (HH:Nat->GH) (gg:Nat->GV):Prop where
 st:∀i o,l[i]? = some o->GX tb ih all o (S i) (HH i)=some (gg i,HH (i+1))
 up:∀i o,l[i]? = some o->S (i+1)=putD o.dst (gg i) (S i)
theorem Nu {d:CH} {all:List Oper} {k:GS->RS} {b:P_}:∀(l:List Oper) (s:GS),Hk tb d all k l s=some b->∃S c e,S 0=s.σ/\c 0=s.H/\Trc tb d all l S c e/\k ⟨S l.length,c l.length⟩=some b
 | [],s,h=>⟨λ_=>s.σ,λ_=>s.H,λ_=> .un,rfl,rfl,⟨λi o a=>by simp at a,λi o a=>by simp at a⟩,h⟩
 | o :: l, s, h => by
  obtain⟨g,t,p,q⟩:=GE (show Lw tb d all o (Hk tb d all k l) s=some b from h);obtain⟨S,c,e,m,n,j,r⟩:=Nu l _ q;refine⟨λi=>Nat.casesOn i s.σ S,λi=>Nat.casesOn i s.H c,λi=>Nat.casesOn i g e,rfl,rfl,⟨λi f a=> ?_,λi f a=> ?_⟩,r⟩
  ·cases i with
   |zero=>simp at a;subst a;show GX tb d all o s.σ s.H=some (g,c 0);rw[p,n]
   |succ i=>exact j.st i f (by simpa using a)
  ·cases i with
   |zero=>simp at a;subst a;exact m
   |succ i=>exact j.up i f (by simpa using a)
theorem CU {o:Op} (h:o_ o=true):fS o=false:=by
 cases o<;>first|rfl|cases h
structure Vrs (all l:List Oper) (m:List Nat) (i:Nat) (S:Nat->GF) (HH:Nat->GH) (pr:List (Nat×Option (Nat×Nat))) (hs:List (Nat×GH)):Prop where
 pr:∀q h v,(q,some (h,v))∈pr->∀j oj,l[j]? = some oj->fS oj.op=true->before m (i+j) q=false->(HH (j+1)).ver h=some v
 hs:∀k ok h,l[k]? = some ok->o_ ok.op=true->ldH (S k) ok.op=some h->∃v,(HH k).ver h=some v/\∀q Hq,(q,Hq)∈hs->before m (i+k) q=false->Hq.ver h=some v
 lo:∀k ok h v,l[k]? = some ok->o_ ok.op=true->ldH (S k) ok.op=some h->(HH k).ver h=some v->
  (∀j oj,j<k->l[j]? = some oj->fS oj.op=true->before m (i+k) (i+j)=false->(HH j).ver h=some v)/\(∀j oj,k<j->l[j]? = some oj->fS oj.op=true->before m (i+j) (i+k)=false->(HH (j+1)).ver h=some v)
theorem Vrs.cons {all l:List Oper} {m:List Nat} {i:Nat} {S:Nat->GF} {B:Nat->GH} {G x:List (Nat×Option (Nat×Nat))} {F u:List (Nat×GH)} {o:Oper} {L:GF} {H:GH} (V:Vrs all l m (i+1) S B x u)
  (E:∀p∈G,p∈x) (C:∀p∈F,p∈u) (I:fS o.op=true->(i,H)∈u/\∀p∈G,before m i p.1=false->∀d,p.2=some d->(B 0).ver d.1=some d.2)
  (J:o_ o.op=true->∀h,ldH L o.op=some h->∃v,H.ver h=some v/\(i,some (h,v))∈x/\∀q y,(q,y)∈F->before m i q=false->y.ver h=some v):
  Vrs all (o::l) m i (λj=>Nat.casesOn j L S) (λj=>Nat.casesOn j H B) G F:=by
 have e:∀j,i+(j+1)=i+1+j:=λj=>by omega
 refine⟨λq h v z j w g s f=> ?_,λk A h n s t=> ?_,λk A h v n s t d=>⟨λj w D g r f=> ?_,λj w D g r f=> ?_⟩⟩
 ·cases j with
  |zero=>simp at g;subst g;exact(I s).2 _ z (by simpa using f) _ Z
  |succ j=>exact V.pr q h v (E _ z) j w (by simpa using g) s (by rw[<-e];exact f)
 ·cases k with
  |zero=>
   simp at n;subst n;obtain⟨v,a,_,c⟩:=J s h t;exact⟨v,a,λq y z f=>c q y z (by simpa using f)⟩
  |succ k=>
   obtain⟨v,a,b⟩:=V.hs k A h (by simpa using n) s t;exact⟨v,a,λq y z f=>b q y (C _ z) (by rw[<-e];exact f)⟩
 ·cases k with
  |zero=>omega
  | succ k =>
   have n:l[k]? = some A:=by simpa using n
   cases j with
   |zero=>
    simp at g;subst g;obtain⟨K,a,b⟩:=V.hs k A h n s t;have a:(B k).ver h=some K:=a;have d:(B k).ver h=some v:=d;rw[a]at d;cases d;exact b i H (I r).1 (by rw[<-e];simpa using f)
   |succ j=>exact(V.lo k A h v n s t d).1 j w (by omega) (by simpa using g) r (by rw[<-e,<-e];exact f)
 ·cases j with
  |zero=>omega
  | succ j =>
   have g:l[j]? = some w:=by simpa using g
   cases k with
   |zero=>
    simp at n;subst n;obtain⟨K,a,b,_⟩:=J s h t;have d:H.ver h=some v:=d;rw[a]at d;cases d;exact V.pr i h v b j w g r (by rw[<-e];simpa using f)
   |succ k=>exact(V.lo k A h v (by simpa using n) s t d).2 j w (by omega) g r (by rw[<-e,<-e];exact f)
theorem KN {x:CH} {all:List Oper} {m:List Nat} {k:GS->RS} {A:P_}:∀(l:List Oper) (i:Nat) (J:List (Nat×Option (Nat×Nat))) (D:List (Nat×GH)) (s:GS),evW tb x all m k l i J D s=some A->
  ∃S a r,S 0=s.σ/\a 0=s.H/\Trc tb x all l S a r/\Vrs all l m i S a J D/\k ⟨S l.length,a l.length⟩=some A
 | [],i,J,D,s,h=>⟨λ_=>s.σ,λ_=>s.H,λ_=> .un,rfl,rfl,⟨λi o d=>by simp at d,λi o d=>by simp at d⟩,⟨λ_ _ _ _ j Y V=>by simp at V,λk X h f=>by simp at f,λk X h v f=>by simp at f⟩,h⟩
 | o :: l, i, J, D, s, h => by
  have t:Xz tb x all m o (evW tb x all m k l) i J D s=some A:=h;have B:∀{g:GV} {C:GH} {S:Nat->GF} {a:Nat->GH} {r:Nat->GV},GX tb x all o s.σ s.H=some (g,C)->S 0=putD o.dst g s.σ->a 0=C->Trc tb x all l S a r->Trc tb x all (o::l) (λj=>Nat.casesOn j s.σ S) (λj=>Nat.casesOn j s.H a) (λj=>Nat.casesOn j g r):=λ{g C S a r} z y n w=>⟨λi O d=>by
    cases i with
    |zero=>simp at d;subst d;show GX tb x all o s.σ s.H=some (g,a 0);rw[z,n]
    |succ i=>exact w.st i O (by simpa using d),λi O d=>by
    cases i with
    |zero=>simp at d;subst d;exact y
    |succ i=>exact w.up i O (by simpa using d)⟩
  unfold Xz at t;cases b:fS o.op with
  |true=>
   rw[b]at t;obtain⟨g,C,z,E⟩:=GE t;obtain⟨_,u,K⟩:=aD.1 E;have u:=FN u;obtain⟨S,a,r,y,n,w,I,f⟩:=KN l _ _ _ _ K;refine⟨_,_,_,rfl,rfl,B z y n w,I.cons (λ_ h=>h) (λp G=>zAl _ G) (λ_=>⟨zAf,λp G L M U=>by rw[n];exact u p G L M U⟩) (λc=>by rw[CU c]at b;cases b),f⟩
  | false =>
   rw[b]at t;cases c:o_ o.op with
   |true=>
    simp only[c]at t;obtain⟨g,C,z,E⟩:=GE t;obtain⟨e,u,K⟩:=aD.1 E;obtain⟨S,a,r,y,n,w,I,f⟩:=KN l _ _ _ _ K;refine⟨_,_,_,rfl,rfl,B z y n w,I.cons (λp G=>zAl _ G) (λ_ h=>h) (λh=>by rw[b]at h;cases h) (λ_ Q F=> ?_),f⟩
    rw[F]at u;obtain⟨v,N,u⟩:=aD.1 (show ob (s.H.ver Q) (λv=>Lt m i Q v D)=some e from u);obtain⟨rfl,T⟩:=FP u;exact⟨v,N,zAf,λq R W L=>T (q,R) W L⟩
   |false=>
    simp only[c]at t;obtain⟨g,C,z,E⟩:=GE t;obtain⟨S,a,r,y,n,w,I,f⟩:=KN l _ _ _ _ E;exact⟨_,_,_,rfl,rfl,B z y n w,I.cons (λ_ h=>h) (λ_ h=>h) (λh=>by rw[b]at h;cases h) (λh=>by rw[c]at h;cases h),f⟩
theorem Xy {s:CH} (t:gQ P tb) (p:tT P w0 s) {all:List Oper} {n:Nat} {o:Oper} {q:GF} {H k:GH} {g:GV} {d:fK} {a:Act} {w:World} (r:Jx n o=true) (F:mE d n q a) (R:iD w0 d H w) (h:GX tb s all o q H=some (g,k)):
  ∃b i e,d.le b/\iD w0 b k e/\mE b n (putD o.dst g q) i:=by
 obtain⟨_,c,_⟩:=vT r;rcases KM t p r F R h with⟨_,x⟩|⟨_,rfl,rfl⟩
 ·rcases x with⟨_,_,_,rfl,v,f,_⟩|⟨_,_,rfl,v,_,_,_,_,_,f,_⟩|⟨_,_,rfl,v,f,_⟩|⟨_,u⟩
  ·exact⟨d,_,w,fK.le_refl _,R,F.putD c f⟩
  ·exact⟨d,_,w,fK.le_refl _,R,F.putD c f⟩
  ·exact⟨d,_,w,fK.le_refl _,R,F.putD c f⟩
  ·obtain⟨i,e,b,v,j,l,m,rfl⟩:=QJ (u (λi e=>∃b v,d.le b/\iD w0 b k e/\Rl b g v/\i=a.put o.dst v) λb e v j l m=>⟨b,v,j,l,m,rfl⟩);exact⟨b,_,e,j,l,(F.le j).putD c m⟩
 ·exact⟨d,_,w,fK.le_refl _,R,F.putD c .un⟩
theorem NR {q:CH} (p:gQ P tb) (f:tT P w0 q) {all:List Oper} {n:Nat} (c:all.all (Jx n)=true) {S:Nat->GF} {g:Nat->GH} {u:Nat->GV} (T:Trc tb q all all S g u) {k:fK} {a:Act} {w:World} (F:mE k n (S 0) a) (R:iD w0 k (g 0) w):
    ∀m,m<=all.length->∃b:Nat->fK,(∀i,i<=m->∃a w,iD w0 (b i) (g i) w/\mE (b i) n (S i) a)/\∀i,i<m->(b i).le (b (i+1))
  | 0, _ => ⟨λ_ => k, λi h => by
      have : i = 0 := by omega
      subst this;exact⟨a,w,R,F⟩,λi h=>by omega⟩
  | m + 1, hm => by
    obtain⟨b,o,v⟩:=NR p f c T F R m (by omega);obtain⟨A,B,s,r⟩:=o m (zAe _);have d:all[m]? = some all[m]:=zA2 (by omega);obtain⟨l,t,z,j,x,y⟩:=Xy p f (zA8.1 c _ (zBe (by omega))) r s (T.st m _ d);refine⟨λi=>if i<=m then b i else l,λi h=> ?_,λi h=> ?_⟩
    · by_cases e:i<=m
      · simp only[e,if_true];exact o i e
      · have:i=m+1:=by omega
        subst this;simp only[e,if_false];exact⟨t,z,x,by rw[T.up m _ d];exact y⟩
    · by_cases e:i+1<=m
      · simp only[e,show i<=m by omega,if_true];exact v i (by omega)
      · have:i=m:=by omega
        subst this;simp only[e,zAe,if_true,if_false];exact j
theorem Rn {a:Nat->GH} {m:Nat} (b:∀i,i<m->(a i).n<=(a (i+1)).n) {i:Nat}:∀{j:Nat},i<=j->j<=m->(a i).n<=(a j).n
  | 0, h, _ => by
      have : i = 0 := by omega
      subst this;exact zAe _
  | j + 1, h, hj => by
    by_cases e:i=j+1
    · subst e;exact zAe _
    · exact zB1 (Rn b (by omega) (by omega)) (b j (by omega))
theorem Mn {w:CH} {all:List Oper} {S:Nat->GF} {u:Nat->GH} {n:Nat->GV} (T:Trc tb w all all S u n) {t:Nat} {g:GV}:∀k,k<=all.length->GY (S k) t=some g->
  (∃i o,i<k/\all[i]? = some o/\o.dst=some t/\n i=g/\∀j a,i<j->j<k->all[j]? = some a->a.dst≠some t)\/((∀j a,j<k->all[j]? = some a->a.dst≠some t)/\GY (S 0) t=some g)
 |0,_,h=> .inr ⟨λj a s=>by omega,h⟩
 | k + 1, hk, h => by
  have c:all[k]? = some all[k]:=zA2 (by omega);rw[T.up k _ c]at h;have m:all[k].dst≠some t->GY (S k) t=some g->_:=λl h=>
   match Mn T k (by omega) h with
   | .inl ⟨i, o, q, p, h3, h4, h5⟩ => (.inl ⟨i, o, by omega, p, h3, h4, λj a r s b => by
     by_cases e:j=k
     ·subst e;rw[c]at b;cases b;exact l
     ·exact h5 j a r (by omega) b⟩:(∃i o,i<k+1/\all[i]? = some o/\o.dst=some t/\n i=g/\∀j a,i<j->j<k+1->all[j]? = some a->a.dst≠some t)\/((∀j a,j<k+1->all[j]? = some a->a.dst≠some t)/\GY (S 0) t=some g))
   | .inr ⟨q, p⟩ => .inr ⟨λj a s b => by
     by_cases e:j=k
     ·subst e;rw[c]at b;cases b;exact l
     ·exact q j a (by omega) b,p⟩
  cases f:all[k].dst with
  |none=>
   rw[f]at h;exact m (by rw[f];simp) h
  | some d =>
   rw[f]at h;have h:GY ((d,n k)::S k) t=some g:=h;rw[CQ]at h;by_cases e:t=d
   ·subst e;rw[if_pos Z]at h;cases h;exact .inl ⟨k,_,by omega,c,f,rfl,λj a q p=>by omega⟩
   ·rw[if_neg e]at h;exact m (by rw[f];intro v;cases v;exact e Z) h
def sM (o:Op):Bool:=fS o && !isFloat o
def LK (tb:TB) (x o:Op):Bool:=pureOp tb x||pureOp tb o||isFloat o||(!fS x && !fS o)||(o_ x&&fS o)||(fS x&&o_ o)
def chkF (tb:TB) (l:List Oper) (m:List Nat):Bool:=
 (List.range l.length).all λi=>match l[i]? with
  |none=>false
  |some o=>
   (v_ o).all (λe=>Nat.blt e i&&before m i e&&(List.range i).all (λk=> !before m e k||before m i k)) &&
   (List.range l.length).all (λk=> !before m i k||(Nat.blt k i&&(v_ o).any (λe=>Nat.beq e k||before m e k))) &&
   !Ei o.op &&
   (List.range i).all (λx=>before m i x||(match l[x]? with|none=>false|some a=>a.apart l.toArray o&&LK tb a.op o.op))
structure Wk (tb:TB) (l:List Oper) (m:List Nat):Prop where
 edge:∀(i:Nat) (o:Oper),l[i]? = some o->∀e∈v_ o,e<i/\before m i e=true
 trans:∀(i:Nat) (o:Oper),l[i]? = some o->∀k,before m i k=true->k<l.length->k<i/\∃e∈v_ o,e=k\/before m e k=true
 ind:∀(i x:Nat) (oi ox:Oper),l[i]? = some oi->l[x]? = some ox->x<i->before m i x=false->ox.apart l.toArray oi=true/\LK tb ox.op oi.op=true
theorem Jj {l:List Oper} {m:List Nat} (h:chkF tb l m=true):Wk tb l m:=by
 have b:∀(i:Nat) (o:Oper),l[i]? = some o->
   ((v_ o).all (λe=>Nat.blt e i&&before m i e&&(List.range i).all (λk=> !before m e k||before m i k))=true)/\
   ((List.range l.length).all (λk=> !before m i k||(Nat.blt k i&&(v_ o).any (λe=>Nat.beq e k||before m e k)))=true)/\Ei o.op=false/\
   ((List.range i).all (λx=>before m i x||(match l[x]? with|none=>false|some g=>g.apart l.toArray o&&LK tb g.op o.op))=true):=by
  intro i o c;have:=zA8.1 h i (zAp.2 (bK c));simp only[c,zA6,Bool.not_eq_true']at this;exact⟨this.1.1.1,this.1.1.2,this.1.2,this.2⟩
 refine⟨?_,?_,?_⟩
 ·intro i o c e f;have:=zA8.1 (b i o c).1 e f;simp only[zA6,zAv]at this;exact⟨this.1.1,this.1.2⟩
 ·intro i o c k q a;have:=zA8.1 (b i o c).2.1 k (zAp.2 a);simp only[q,Bool.not_true,Bool.false_or,zA6,zAv,List.any_eq_true,zB5]at this;obtain⟨j,e,f,d⟩:=this;refine⟨j,e,f,?_⟩
  rcases d with d|d
  ·exact .inl (zA7 d)
  ·exact .inr d
 ·intro i x s g p r a n;have:=(b i s p).2.2.2;have:=zA8.1 this x (zAp.2 a);simp only[n,Bool.false_or,r,zA6]at this;exact this
theorem VX (G:gQ P tb) {T:TypeId} {ρ:fK} {H x:GH} {g v u:GV} {V U:V0} (J:Rl ρ v V) (I:Rl ρ u U) (h:Mu tb T v u H=some (g,x)):
  ∃t m F,x=H.new (.cells t)/\TE ρ t m/\t.length=m.size/\∀w:World,∃X,(Instr.makeSlice T V U).run P w = .ok X (w.alloc (.cells m F))/\∀l:fK,l H.n=some ⟨w.heap.size,0,m.size,.cells m F,.cells t⟩->Rl l g X:=by
 obtain⟨j,C,h⟩:=aD.1 (show ob (Cc tb T) _=some (g,x)from h);obtain⟨zc,Y,h⟩:=aD.1 h;obtain⟨k,R,h⟩:=aD.1 h;obtain⟨c,O,h⟩:=aD.1 h;obtain⟨f,h⟩:=bY.1 h;obtain⟨n,S,h⟩:=aD.1 h;obtain⟨a,h⟩:=bY.1 h;obtain⟨o,h⟩:=bY.1 h;obtain⟨q,h⟩:=bY.1 h;obtain⟨y,h⟩:=lI.1 h;rw[Qv,jQ]at h;cases h;obtain⟨⟨d,Q,A⟩,M,s⟩:=yJ G C;obtain⟨dz,p,_,L⟩:=vZ (ρ:=ρ) G Y;rw[s]at p;cases p;have a:zc.length=j.2.size:=zA7 a;have y:j.2.size≠0:=λe=>by rw[e]at y;cases y
 have o:n*j.2.bytes<16777216:=by simpa [zAv]using o
 have q:n<16777216:=by simpa [zAv]using q
 rw[nI R]at J;rw[nI O]at I;rw[Jm]at f;have f:=zB2 f;rw[J.int_inv,I.int_inv,<-f,HF S];have b:=IE L (by omega) n;rw[a]at b;obtain⟨K,B,W,N,D⟩:=M.info;have i:=Q.und;rw[A]at i;have z:(K.bytes:Int)*(n:Int)<=281474976710656:=by
  have e:(j.2.bytes:Int)*(n:Int)=((n*j.2.bytes:Nat):Int):=by rw[Nat.mul_comm];simp
  rw[N,e];omega
 refine⟨_,_,j.1,rfl,b,by have:=b.r.len;simpa using this,λw=>⟨_,?_,λl E=> .sl E (zAe n) (.inr ⟨rfl,?_⟩)⟩⟩
 ·rw[run_make (P:=P) w T j.1 K j.2.zero i B D k.1 c.1 n n (by omega) (Int.le_refl _) z (by omega)];simp[madeCells,W]
 ·simp
theorem Ny {ih:CH} (K:gQ P tb) {all:List Oper} {n:Nat} {o:Oper} {B:GF} {H c:GH} {g:GV} {D:fK} {a:Act} (W:isFloat o.op=true) (F:mE D n B a) (h:GX tb ih all o B H=some (g,c)):
  (Region.wanted o (yielded all.toArray a.tmps)=false/\g = .un/\c=H)\/
  (Region.wanted o (yielded all.toArray a.tmps)=true/\∃j f A,c=H.new (.cells j)/\TE D j f/\j.length=f.size/\∀w:World,∃V,(execOp a.eval o).run P w = .ok (.value V) (w.alloc (.cells f A))/\∀i:fK,i H.n=some ⟨w.heap.size,0,f.size,.cells f A,.cells j⟩->Rl i g V):=by
 rcases GD F h with⟨Y,b⟩|h
 ·refine .inr ⟨Y,?_⟩;obtain⟨d,op,ty,ab,R,gd⟩:=o;cases op with
  |buildSlice T m M=>
   obtain⟨vs,L,b⟩:=aD.1 (show ob (wG B M.toList) _=some (g,c)from b);obtain⟨E,k,b,q⟩:=nE b;cases q;obtain⟨j,f,A,aa,sz,C,h2,G,I,J⟩:=Rx (P:=P) K (Eh F L) b;refine⟨j,f,A,C,G,I,λw=> ?_⟩
   obtain⟨V,s,t⟩:=J w;refine⟨V,?_,t⟩
   have e:(M.toList.map λp=>(p.1,a.eval p.2)).toArray=M.map λp=>(p.1,a.eval p.2):=by apply Array.toList_inj.1;simp
   rw[e]at s;simp[execOp,s]
  |alloc T=>
   obtain⟨E,k,b,q⟩:=nE (show eH (rH tb T H) FD=some (g,c)from b);cases q;obtain⟨Q,hz,b⟩:=aD.1 (show ob (DZ tb T) _=some (g,c)from b);rw[jQ]at b;cases b;obtain⟨d,hd,S,N⟩:=vZ (ρ:=D) K hz;refine⟨Q,d.zero.cells,T,rfl,N,by have:=N.r.len;simpa using this,λw=>⟨_,?_,λi z=> .ptr (l:=⟨w.heap.size,0,d.zero.cells.size,.cells d.zero.cells T,.cells Q⟩) 0 z⟩⟩
   simp[execOp,JB w S]
  |makeSlice T x y=>
   obtain⟨v,t,b⟩:=aD.1 (show ob (lK B x) (λv=>ob (lK B y) λu=>eH (Mu tb T v u H) FD)=some (g,c)from b);obtain⟨u,X,b⟩:=aD.1 b;obtain⟨E,k,b,q⟩:=nE b;cases q;obtain⟨j,f,A,C,G,I,J⟩:=VX (P:=P) K (dH F t) (dH F X) b;refine⟨j,f,A,C,G,I,λw=> ?_⟩
   obtain⟨V,s,t⟩:=J w;refine⟨V,?_,t⟩
   simp[execOp,s]
  |box T x=>
   obtain⟨v,t,b⟩:=aD.1 (show ob (lK B x) (λv=>eH (EC v H) FD)=some (g,c)from b);obtain⟨E,k,b,q⟩:=nE b;cases q;obtain⟨O,U,b⟩:=aD.1 (show ob v.cells _=some (g,c)from b);rw[jQ]at b;cases b;obtain⟨vs,e,s,C⟩:=(dH F t).cells U;refine⟨O,(a.eval x).cells,T,rfl,by rw[e];exact⟨s,C⟩,by rw[e];have:=s.len;simpa using this,λw=>⟨_,?_,λi z=> .ptr (l:=⟨w.heap.size,0,(a.eval x).cells.size,.cells (a.eval x).cells T,.cells O⟩) 0 z⟩⟩
   simp[execOp,Instr.box,newVar,newRow]
  |_=>cases W
 ·exact .inl h
end
def H_ (b a:fK):fK:=λh=>match b h with
 |some l=>some l
 |none=>a h
theorem zB {a b:fK} {h:Nat} {l:Nh} (e:a h=some l):H_ a b h=some l:=by simp[H_,e]
theorem zA {b a:fK} {h:Nat} (e:b h=none):H_ b a h=a h:=by simp[H_,e]
theorem Iy {a b:fK}:a.le (H_ a b):=λ_ _ e=>zB e
def SlD (all:List Oper) (b:GF) (c:Nat->GV) (D:Nat->Bool) (t:Nat) (g:GV):Prop:=
 (∃i o,D i=true/\all[i]? = some o/\o.dst=some t/\c i=g/\∀j a,D j=true->all[j]? = some a->a.dst=some t->j<=i)\/((∀j a,D j=true->all[j]? = some a->a.dst≠some t)/\GY b t=some g)
def ins (D:Nat->Bool) (k:Nat):Nat->Bool:=λj=>j==k||D j
theorem CS (D:Nat->Bool) (k:Nat):ins D k k=true:=by simp[ins]
theorem Ce {D:Nat->Bool} {k j:Nat} (h:j≠k):ins D k j=D j:=by simp[ins,h]
theorem CR {D:Nat->Bool} {k j:Nat} (h:D j=true):ins D k j=true:=by simp[ins,h]
noncomputable def Fq (σ:GF) (L:List Nat):GF:=L.filterMap λt=>(GY σ t).map λg=>(t,g)
theorem Eg {σ:GF} {t:Nat}:∀{L:List Nat},GY (Fq σ L) t=if t∈L then GY σ t else none
 | []=>rfl
 | x :: L => by
  have c:=Eg (σ:=σ) (t:=t) (L:=L);cases b:GY σ x with
  |none=>
   have e:Fq σ (x::L)=Fq σ L:=by simp[Fq,b]
   rw[e,c];by_cases a:t=x
   ·subst a;simp[b]
   ·simp[a]
  |some g=>
   have e:Fq σ (x::L)=(x,g)::Fq σ L:=by simp[Fq,b]
   rw[e,CQ,c];by_cases a:t=x
   ·subst a;simp[b]
   ·simp[a]
section
variable {P:Program} {tb:TB} {gs:BY} {w0:f_ gs} {ih:CH} {all:List Oper} {n:Nat} {S:Nat->GF} {HH:Nat->GH} {gg:Nat->GV}
structure xX (P:Program) (tb:TB) {gs:BY} (w0:f_ gs) (ih:CH) (all:List Oper) (n:Nat) (S:Nat->GF) (HH:Nat->GH) (gg:Nat->GV):Prop where
 tab:gQ P tb
 call:∀w0:f_ gs,tT P w0 ih
 ops:all.all (Jx n)=true
 chk:Wk tb all (qG all)
 trc:Trc tb ih all all S HH gg
 vrs:∀k ok h v,all[k]? = some ok->o_ ok.op=true->ldH (S k) ok.op=some h->(HH k).ver h=some v->
  (∀j oj,j<k->all[j]? = some oj->fS oj.op=true->before (qG all) k j=false->(HH j).ver h=some v)/\(∀j oj,k<j->all[j]? = some oj->fS oj.op=true->before (qG all) j k=false->(HH (j+1)).ver h=some v)
 chain:∃ρs:Nat->fK,(∀i,i<=all.length->∃a w,iD w0 (ρs i) (HH i) w/\mE (ρs i) n (S i) a)/\∀i,i<all.length->(ρs i).le (ρs (i+1))
theorem xX.ghost (E:xX P tb w0 ih all n S HH gg) (i:Nat) (c:i<=all.length):∃b a w,iD w0 b (HH i) w/\mE b n (S i) a:=
 let ⟨ρs,h,_⟩:=E.chain
 ⟨ρs i,h i c⟩
theorem xX.mono (E:xX P tb w0 ih all n S HH gg) (i:Nat) (a:i<all.length):(HH i).n<=(HH (i+1)).n:=by
 obtain⟨e,h,b⟩:=E.chain;obtain⟨_,_,c,_⟩:=h i (Nat.le_of_lt a);obtain⟨_,_,d,_⟩:=h (i+1) a;exact c.mono d (b i a)
theorem Qr {a:Nat->fK} {m:Nat} (h:∀i,i<m->(a i).le (a (i+1))) {i:Nat}:∀{j:Nat},i<=j->j<=m->(a i).le (a j)
  | 0, h1, _ => by
      have : i = 0 := by omega
      subst this;exact fK.le_refl _
  | j + 1, h1, hj => by
    by_cases e:i=j+1
    · subst e;exact fK.le_refl _
    · exact fK.le_trans (Qr h (by omega) (by omega)) (h j (by omega))
theorem xX.same (E:xX P tb w0 ih all n S HH gg) {i j:Nat} (b:i<=j) (u:j<=all.length) {h v:Nat} (q:(HH i).ver h=some v) (r:(HH j).ver h=some v):(HH i).get h=(HH j).get h:=by
 obtain⟨J,s,e⟩:=E.chain;have A:=Qr e b u;obtain⟨_,K,l,_⟩:=s i (by omega);obtain⟨_,L,m,_⟩:=s j u;have a:∀{k:Nat},(HH k).ver h=some v->∃o,(HH k).get h=some o:=λ{k} hv=>by
  obtain⟨p,B,_⟩:=aD.1 (show ob ((HH k).t.get h) _=some v from hv);exact⟨p.2,by unfold GH.get;rw[B];rfl⟩
 obtain⟨H,f⟩:=a q;obtain⟨I,g⟩:=a r;obtain⟨C,c,_⟩:=l.live h H f;obtain⟨D,d,_⟩:=m.live h I g;obtain⟨F,w,_,y⟩:=l.vers h v C q c;obtain⟨G,x,_,z⟩:=m.vers h v D r d;have:=A _ _ w;rw[x]at this;cases this;rw[y,z]
theorem xX.op (E:xX P tb w0 ih all n S HH gg) {k:Nat} {o:Oper} (a:all[k]? = some o):Jx n o=true:=zA8.1 E.ops o (zA0 a)
theorem xX.quiet (E:xX P tb w0 ih all n S HH gg) {k:Nat} {o:Oper} (b:all[k]? = some o) (c:fS o.op=false):HH (k+1)=HH k:=by
 obtain⟨e,a,w,R,F⟩:=E.ghost k (Nat.le_of_lt (bK b));rcases KM E.tab (E.call w0) (E.op b) F R (E.trc.st k o b)with⟨_,d⟩|⟨_,_,h⟩
 ·rcases d with⟨_,_,_,h,_⟩|⟨_,_,h,_⟩|⟨_,_,h,_⟩|⟨h,_⟩
  ·exact h
  ·exact h
  ·exact h
  ·rw[c]at h;cases h
 ·exact h
theorem xX.floats (E:xX P tb w0 ih all n S HH gg) {k:Nat} {o:Oper} (c:all[k]? = some o) (d:isFloat o.op=true):HH (k+1)=HH k\/∃b,HH (k+1)=(HH k).new (.cells b):=by
 obtain⟨e,a,w,R,F⟩:=E.ghost k (Nat.le_of_lt (bK c));rcases Ny (P:=P) E.tab d F (E.trc.st k o c)with⟨_,_,h⟩|⟨_,b,_,_,h,_⟩
 ·exact .inl h
 ·exact .inr ⟨b,h⟩
theorem Yh {H:GH} {o:GO} (h:H=H.new o):False:=by
 have:H.n=H.n+1:=congrArg GH.n h;omega
theorem VK {H:GH} {c a:List GV} (h:H.new (.cells c)=H.new (.cells a)):c=a:=by
 have b:=rO H (.cells c) H.n;have d:=rO H (.cells a) H.n;rw[if_pos Z]at b d;rw[h,d]at b;cases b;rfl
theorem xX.mono' (E:xX P tb w0 ih all n S HH gg) {i j:Nat} (h:i<=j) (a:j<=all.length):(HH i).n<=(HH j).n:=Rn E.mono h a
theorem xX.apart (E:xX P tb w0 ih all n S HH gg) {i j:Nat} {b c:List GV} (k:i<all.length) (l:j<all.length) (d:HH (i+1)=(HH i).new (.cells b)) (f:HH (j+1)=(HH j).new (.cells c)) (h:(HH i).n=(HH j).n):i=j:=by
 have e:(HH (i+1)).n=(HH i).n+1:=by rw[d];rfl
 have g:(HH (j+1)).n=(HH j).n+1:=by rw[f];rfl
 rcases Nat.lt_trichotomy i j with a|a|a
 ·have:=E.mono' (i:=i+1) (j:=j) (by omega) (by omega);omega
 ·exact a
 ·have:=E.mono' (i:=j+1) (j:=i) (by omega) (by omega);omega
structure yN {gs:BY} (w0:f_ gs) (ρb:fK) (n:Nat) (all:List Oper) (S0:GF) (HH:Nat->GH) (gg:Nat->GV) (D:Nat->Bool) (a:Act) (w:World) (t:Nat) (ρ pm:fK):Prop where
 tm:t<=all.length
 lou:∀j o,all[j]? = some o->sM o.op=true->(D j=true↔j<t)
 flo:∀j o,all[j]? = some o->isFloat o.op=true->j<t->D j=true
 rel:iD w0 ρ (HH t) w
 up:ρb.le ρ
 defers:a.defers=[]
 size:a.tmps.size=n
 slot:∀s g,SlD all S0 gg D s g->Rl (H_ ρ pm) g (a.eval (.tmp s))
 pend:∀i o cs,all[i]? = some o->isFloat o.op=true->HH (i+1)=(HH i).new (.cells cs)->t<=i->D i=true->∃l,pm (HH i).n=some l/\w0.mine l.b/\¬Wm ρ (HH t) l.b/\w.heap[l.b]? = some l.x/\AI (H_ ρ pm) w l (.cells cs)/\l.o = .cells cs
 only:∀h l,pm h=some l->∃i o cs,all[i]? = some o/\isFloat o.op=true/\HH (i+1)=(HH i).new (.cells cs)/\t<=i/\D i=true/\h=(HH i).n
 inj:∀h h' l l',pm h=some l->pm h'=some l'->l.b=l'.b->h=h'
variable {D:Nat->Bool} {a:Act} {w:World} {t:Nat} {ρ pm ρb:fK}
theorem yN.low (E:xX P tb w0 ih all n S HH gg) (I:yN w0 ρb n all (S 0) HH gg D a w t ρ pm) {h:Nat} {l:Nh} (d:pm h=some l):(HH t).n<=h:=by
 obtain⟨i,o,e,b,_,_,c,_,rfl⟩:=I.only h l d;exact E.mono' c (Nat.le_of_lt (bK b))
theorem yN.adopt (E:xX P tb w0 ih all n S HH gg) (I:yN w0 ρb n all (S 0) HH gg D a w t ρ pm) {o:Oper} (Y:all[t]? = some o) (hl:sM o.op=false) (hf:isFloat o.op=true->D t=true):
  ∃c b,yN w0 ρb n all (S 0) HH gg D a w (t+1) c b/\H_ c b=H_ ρ pm:=by
 have ht:=bK Y;have G:∀j o,all[j]? = some o->sM o.op=true->(D j=true↔j<t+1):=λj oj N Q=>by
  have q:j≠t:=λe=>by subst e;rw[Y]at N;cases N;rw[hl]at Q;cases Q
  rw[I.lou j oj N Q];omega
 have C:∀j o,all[j]? = some o->isFloat o.op=true->j<t+1->D j=true:=λj oj N ab ah=>by
  by_cases e:j=t
  ·subst e;rw[Y]at N;cases N;exact hf ab
  ·exact I.flo j oj N ab (by omega)
 -- nothing is taken up
 have H:HH (t+1)=HH t->∃c b,yN w0 ρb n all (S 0) HH gg D a w (t+1) c b/\H_ c b=H_ ρ pm:=λe=>
  ⟨ρ,pm,⟨ht,G,C,by rw[e];exact I.rel,I.up,I.defers,I.size,I.slot,λi W B f r y h4 K=>by rw[e];exact I.pend i W B f r y (by omega) K,λh l hp=>by
   obtain⟨i,W,B,f,r,y,h4,K,h6⟩:=I.only h l hp;refine⟨i,W,B,f,r,y,?_,K,h6⟩
   by_cases e':i=t
   ·subst e';rw[e]at y;exact(Yh y).elim
   ·omega,I.inj⟩,rfl⟩
 cases z:isFloat o.op with
 |false=>exact H (E.quiet Y (by simpa [sM,z]using hl))
 | true =>
  rcases E.floats Y z with e|⟨B,e⟩
  ·exact H e
  obtain⟨l,hp,U,M,hx,ad,ag⟩:=I.pend t o B Y z e (zAe _) (hf z);have m:ρ (HH t).n=none:=I.rel.fresh _ (zAe _);let c:=ρ.upd (HH t).n l;let b:fK:=λh=>if h=(HH t).n then none else pm h;have k:c (HH t).n=some l:=by simp[c,fK.upd]
  have u:∀h,h≠(HH t).n->c h=ρ h:=λh hh=>by simp[c,fK.upd,hh]
  have O:H_ c b=H_ ρ pm:=by
   funext h;by_cases d:h=(HH t).n
   ·subst d;rw[zB k,zA m,hp]
   ·unfold H_;rw[u h d];simp[b,d]
  have hn:(HH (t+1)).n=(HH t).n+1:=by rw[e];rfl
  -- what the object holds is older
  have aa:∀{g:GV} {v v0:V0} {x:fK},(∀h l,x h=some l->h<(HH (t+1)).n)->Rl (H_ ρ pm) g v->Rl x g v0->Rl c g v:=λ{g v v0 x} hlow f h0=>by
   refine WC (λh l0 l1 e0 X=> ?_) f h0;have ah:=hlow h l0 e0;by_cases d:h=(HH t).n
   ·subst d;rw[zA m,hp]at X;rw[k];exact X
   ·rw[u h d];cases hr:ρ h with
    |some l2=>rw[zB hr]at X;exact X
    |none=>
     rw[zA hr]at X;have:=I.low E X;omega
  obtain⟨x,a0,wg,R0,F0⟩:=E.ghost (t+1) ht;have R:∀h l,x h=some l->h<(HH (t+1)).n:=λh l hl=>by
   rcases zAu h (HH (t+1)).n with J|J
   ·exact J
   ·rw[R0.fresh h J]at hl;cases hl
  have L:(HH (t+1)).get (HH t).n=some (.cells B):=by rw[e,rO,if_pos Z]
  obtain⟨l0,_,_,ac⟩:=R0.live _ _ L;obtain⟨ai,T0,q1,q2,q3,q4⟩:=ac;have V:AI c w l (.cells B):=by
   obtain⟨ae,T,p1,p2,p3,p4⟩:=ad;refine⟨ae,T,p1,p2,p3,λi g F=> ?_⟩
   obtain⟨v,r1,r2,r3⟩:=p4 i g F;obtain⟨v0,_,s2,_⟩:=q4 i g F;exact⟨v,r1,aa R r2 s2,r3⟩
  obtain⟨af,R'⟩:=I.rel.new (o:= .cells B) (l:=l) I.rel.ext (λh o' l' F p=>⟨rfl,λeb=>M ⟨h,o',l',F,p,eb⟩⟩) U V hx ag;rw[<-e]at R';refine⟨c,b,⟨ht,G,C,R',fK.le_trans I.up af,I.defers,I.size,λs g hs=>by rw[O];exact I.slot s g hs,λi W ci f r y h4 K=> ?_,λh l1 A=> ?_,λh J l1 l2 f r hb=> ?_⟩,O⟩
  ·obtain⟨li,a1,a2,a3,a4,a5,a6⟩:=I.pend i W ci f r y (by omega) K;have q:(HH i).n≠(HH t).n:=λd=>by
    have:=E.apart (bK f) ht y e d;omega
   refine⟨li,by simp[b,q,a1],a2,?_,a4,by rw[O];exact a5,a6⟩
   rintro⟨h,o',l',F,p,eb⟩;rw[e,rO]at F;by_cases d:h=(HH t).n
   ·subst d;rw[k]at p;cases p;exact q (I.inj _ _ _ _ a1 hp eb.symm)
   ·rw[if_neg d]at F;rw[u h d]at p;exact a3 ⟨h,o',l',F,p,eb⟩
  ·have q:h≠(HH t).n:=λd=>by subst d;simp[b]at A
   have A:pm h=some l1:=by simpa [b,q]using A
   obtain⟨i,W,ci,f,r,y,h4,K,h6⟩:=I.only h l1 A;refine⟨i,W,ci,f,r,y,?_,K,h6⟩
   by_cases e':i=t
   ·subst e';exact absurd h6 q
   ·omega
  ·have f:pm h=some l1:=by
    by_cases d:h=(HH t).n
    ·simp[b,d]at f
    ·simpa [b,d]using f
   have r:pm J=some l2:=by
    by_cases d:J=(HH t).n
    ·simp[b,d]at r
    ·simpa [b,d]using r
   exact I.inj h J l1 l2 f r hb
theorem yN.adoptTo (E:xX P tb w0 ih all n S HH gg):∀(d t k:Nat) (ρ pm:fK),yN w0 ρb n all (S 0) HH gg D a w t ρ pm->t+d=k->k<=all.length->(∀j o,t<=j->j<k->all[j]? = some o->sM o.op=false/\(isFloat o.op=true->D j=true))->
  ∃c b,yN w0 ρb n all (S 0) HH gg D a w k c b/\H_ c b=H_ ρ pm
 |0,t,k,ρ,pm,I,hd,hk,_=>by
  have:t=k:=by omega
  subst this;exact⟨ρ,pm,I,rfl⟩
 |d+1,t,k,ρ,pm,I,hd,hk,h=>by
  have p:all[t]? = some all[t]:=zA2 (by omega);obtain⟨m,e⟩:=h t _ (zAe _) (by omega) p;obtain⟨i,f,q,s⟩:=I.adopt E p m e;obtain⟨l,g,r,u⟩:=yN.adoptTo E d (t+1) k i f q (by omega) hk (λj o m e=>h j o (by omega) e);exact⟨l,g,r,by rw[u,s]⟩
def Cl (all:List Oper) (D:Nat->Bool):Prop:=∀j k,D j=true->before (qG all) j k=true->k<all.length->D k=true
structure Sd (all:List Oper) (D:Nat->Bool) (k:Nat) (o:Oper):Prop where
 get:all[k]? = some o
 undone:D k=false
 past:∀j,before (qG all) k j=true->j<all.length->D j=true
theorem Sd.behind (C:Wk tb all (qG all)) (c:Cl all D) {k:Nat} {o:Oper} (e:Sd all D k o) {j:Nat} {b:Oper} (h:all[j]? = some b) (g:D j=true) (d:k<j):o.apart all.toArray b=true/\LK tb o.op b.op=true:=by
 cases f:before (qG all) j k with
 |false=>exact C.ind j k b o h e.get d f
 |true=>
  have:=c j k g f (bK e.get);rw[e.undone]at this;cases this
theorem Sd.ahead (C:Wk tb all (qG all)) {k:Nat} {o:Oper} (f:Sd all D k o) {j:Nat} {b:Oper} (e:all[j]? = some b) (c:j<k):D j=true\/b.apart all.toArray o=true/\LK tb b.op o.op=true:=by
 cases d:before (qG all) k j with
 |true=>exact .inl (f.past j d (bK e))
 |false=>exact .inr (C.ind k j o b f.get e c d)
theorem Sd.look (E:xX P tb w0 ih all n S HH gg) (q:Cl all D) {k:Nat} {o:Oper} (p:Sd all D k o) {s:Nat} {g:GV} (u:s∈o.looksAt all.toArray) (y:GY (S k) s=some g):SlD all (S 0) gg D s g:=by
 have b:∀j c,D j=true->all[j]? = some c->c.dst=some s->j<k:=λj c d f e=>by
  rcases Nat.lt_trichotomy j k with h|h|h
  ·exact h
  ·subst h;rw[p.undone]at d;cases d
  ·obtain⟨l,_⟩:=p.behind E.chk q f d h;exact absurd u ((Oper.apart_spec l).2.2 s e)
 rcases Mn E.trc k (Nat.le_of_lt (bK p.get)) y with⟨i,z,l,m,r,v,x⟩|⟨l,m⟩
 ·refine .inl ⟨i,z,?_,m,r,v,λj c d f e=> ?_⟩
  ·rcases p.ahead E.chk m l with h|⟨h,_⟩
   ·exact h
   ·exact absurd u ((Oper.apart_spec h).1 s r)
  ·have:=b j c d f e;rcases zAu i j with h|h
   ·exact absurd e (x j c h this f)
   ·exact h
 ·exact .inr ⟨λj c d f e=>l j c (b j c d f e) f e,m⟩
theorem Sd.slot (C:Wk tb all (qG all)) (F:Cl all D) {K:GF} {k:Nat} {o:Oper} (y:Sd all D k o) (x:∀d,o.dst=some d->d<n) (I:a.tmps.size=n) {z u:fK} (G:z.le u) (q:∀s g,SlD all K gg D s g->Rl z g (a.eval (.tmp s))) {v:V0} (Q:Rl u (gg k) v):
  ∀s g,SlD all K gg (ins D k) s g->Rl u g ((a.put o.dst v).eval (.tmp s)):=λs g L=>by
 have c:∀j r,D j=true->all[j]? = some r->o.dst=some s->r.dst=some s->j<k:=λj r m O f p=>by
  rcases Nat.lt_trichotomy j k with h|h|h
  ·exact h
  ·subst h;rw[y.undone]at m;cases m
  ·obtain⟨b,_⟩:=y.behind C F O m h;exact absurd p ((Oper.apart_spec b).2.1 s f)
 by_cases f:o.dst=some s
 ·have N:gg k=g:=by
   rcases L with⟨i,J,b,l,A,B,E⟩|⟨b,_⟩
   ·have R:=E k o (CS D k) y.get f;by_cases e:i=k
    ·subst e;exact B
    ·rw[Ce e]at b;have:=c i J b l f A;omega
   ·exact absurd f (b k o (CS D k) y.get)
  rw[f,<-N];have H:=x s f;have:(a.put (some s) v).eval (.tmp s)=v:=by simp[Act.put,Act.eval,I,H]
  rw[this];exact Q
 ·have M:(a.put o.dst v).eval (.tmp s)=a.eval (.tmp s):=Act.eval_put λd p e=>by cases e;exact f p
  rw[M];refine(q s g ?_).le G;rcases L with⟨i,J,b,l,A,B,E⟩|⟨b,l⟩
  ·have e:i≠k:=λe=>by subst e;rw[y.get]at l;cases l;exact f A
   rw[Ce e]at b;exact .inl ⟨i,J,b,l,A,B,λj r m=>E j r (CR m)⟩
  ·exact .inr ⟨λj r m=>b j r (CR m),l⟩
theorem GM (a:Act) (d:Option Tmp) (v:V0):(a.put d v).defers=a.defers/\(a.put d v).tmps.size=a.tmps.size:=by
 cases d with
 |none=>exact⟨rfl,rfl⟩
 |some d=>exact⟨rfl,by simp[Act.put]⟩
theorem yN.plain (E:xX P tb w0 ih all n S HH gg) (u:Cl all D) (I:yN w0 ρb n all (S 0) HH gg D a w t ρ pm) {k:Nat} {o:Oper} (q:Sd all D k o) (F:sM o.op=false) (C:isFloat o.op=true->HH (k+1)=HH k) {v:V0} (H:Rl (H_ ρ pm) (gg k) v):
  yN w0 ρb n all (S 0) HH gg (ins D k) (a.put o.dst v) w t ρ pm:=by
 obtain⟨_,f,_⟩:=vT (E.op q.get);obtain⟨J,K⟩:=GM a o.dst v;refine⟨I.tm,λj A g b=> ?_,λj A g x y=>CR (I.flo j A g x y),I.rel,I.up,by rw[J];exact I.defers,by rw[K];exact I.size,q.slot E.chk u f I.size (fK.le_refl _) I.slot H,λi z r c m d s p=> ?_,λh l G=> ?_,I.inj⟩
 ·have e:j≠k:=λe=>by subst e;rw[q.get]at g;cases g;rw[F]at b;cases b
  rw[Ce e];exact I.lou j A g b
 ·have e:i≠k:=λe=>by
   subst e;rw[q.get]at c;cases c;rw[C m]at d;exact Yh d
  rw[Ce e]at p;exact I.pend i z r c m d s p
 ·obtain⟨i,z,r,c,m,d,s,p,B⟩:=I.only h l G;exact⟨i,z,r,c,m,d,s,CR p,B⟩
def On (all:List Oper) (D:Nat->Bool) (t:Nat):Prop:=t=0\/∃o,all[t - 1]? = some o/\sM o.op=true/\D (t - 1)=true
theorem On.ins {k:Nat} (h:On all D t):On all (ins D k) t:=by
 rcases h with h|⟨o,b,c,d⟩
 ·exact .inl h
 ·exact .inr ⟨o,b,c,CR d⟩
theorem GL {o:Op} (h:pureOp tb o=true):fS o=false:=by
 unfold pureOp at h;split at h<;>first|rfl|cases h
theorem HM {o:Op} (h:isFloat o=true):fS o=true:=by
 unfold isFloat at h;split at h<;>first|rfl|cases h
theorem Lz {o:Op} (h:isFloat o=true):pureOp tb o=false:=by
 cases b:pureOp tb o with
 |false=>rfl
 |true=>have:=GL b;rw[HM h]at this;cases this
theorem yN.reach (E:xX P tb w0 ih all n S HH gg) (u:Cl all D) (I:yN w0 ρb n all (S 0) HH gg D a w t ρ pm) (i:On all D t) {k:Nat} {o:Oper} (r:Sd all D k o) (z:pureOp tb o.op=false) (B:isFloat o.op=false) (m:o_ o.op=false):
  ∃q p,yN w0 ρb n all (S 0) HH gg D a w k q p/\H_ q p=H_ ρ pm:=by
 have F:=bK r.get;have C:t<=k:=by
  rcases i with h|⟨d,x,f,s⟩
  ·omega
  ·rcases zAu (t - 1) k with h|h
   ·omega
   ·exfalso;by_cases e:t - 1=k
    ·rw[e,r.undone]at s;cases s
    ·obtain⟨_,A⟩:=r.behind E.chk u x s (by omega);simp only[sM,zA6,Bool.not_eq_true']at f;have:pureOp tb d.op=false:=by
      cases v:pureOp tb d.op with
      |false=>rfl
      |true=>have:=GL v;rw[f.1]at this;cases this
     have c:o_ d.op=false:=by
      cases v:o_ d.op with
      |false=>rfl
      |true=>rw[CU v]at f;cases f.1
     simp[LK,z,this,f.1,f.2,m,c]at A
 refine I.adoptTo E (k - t) t k ρ pm (by omega) (by omega) λj d x f y=> ?_;have g:D j=true\/fS d.op=false\/pureOp tb d.op=true:=by
  rcases r.ahead E.chk y f with h|⟨_,h⟩
  ·exact .inl h
  ·simp only[LK,z,B,m,Bool.or_false,Bool.and_false,zB5,zA6,Bool.not_eq_true']at h;rcases h with(h|h)|h
   ·exact .inr (.inr h)
   ·exact .inr (.inl h.1)
   ·exact .inr (.inl (CU h.1))
 refine⟨?_,λl=> ?_⟩
 ·cases c:sM d.op with
  |false=>rfl
  |true=>
   exfalso;have b:=c;simp only[sM,zA6,Bool.not_eq_true']at b;rcases g with h|h|h
   ·have:=(I.lou j d y c).1 h;omega
   ·rw[b.1]at h;cases h
   ·have:=GL h;rw[b.1]at this;cases this
 ·rcases g with h|h|h
  ·exact h
  ·rw[HM l]at h;cases h
  ·rw[Lz l]at h;cases h
theorem yN.frame (E:xX P tb w0 ih all n S HH gg) (c:Cl all D) (I:yN w0 ρb n all (S 0) HH gg D a w t ρ pm) {k:Nat} {o:Oper} (e:Sd all D k o):mE (H_ ρ pm) n (Fq (S k) (o.looksAt all.toArray)) a:=
 ⟨I.defers,I.size,λs g b=>by
  rw[Eg]at b;by_cases d:s∈o.looksAt all.toArray
  ·rw[if_pos d]at b;exact I.slot s g (e.look E c d b)
  ·rw[if_neg d]at b;cases b⟩
theorem yN.frame' (E:xX P tb w0 ih all n S HH gg) (e:Cl all D) {k:Nat} (I:yN w0 ρb n all (S 0) HH gg D a w k ρ pm) {o:Oper} (i:Sd all D k o):mE ρ n (Fq (S k) (o.looksAt all.toArray)) a:=by
 have F:=I.frame E e i;obtain⟨u,v,z,p,m⟩:=E.ghost k (Nat.le_of_lt (bK i.get));refine⟨F.defers,F.size,λs g b=> ?_⟩
 have q:=F.slot s g b;rw[Eg]at b;by_cases j:s∈o.looksAt all.toArray
 ·rw[if_pos j]at b;refine WC (λh x l f d=> ?_) q (m.slot s g b);cases c:ρ h with
  |some y=>rw[zB c]at d;exact d
  |none=>
   rw[zA c]at d;have r:=I.low E d;rw[p.fresh h r]at f;cases f
 ·rw[if_neg j]at b;cases b
theorem xX.st (E:xX P tb w0 ih all n S HH gg) {k:Nat} {o:Oper} (b:all[k]? = some o):GX tb ih all o (Fq (S k) (o.looksAt all.toArray)) (HH k)=some (gg k,HH (k+1)):=by
 rw[<-E.trc.st k o b];exact SI λs c=>by rw[Eg,if_pos c]
theorem yN.loads (E:xX P tb w0 ih all n S HH gg) (N:Cl all D) (I:yN w0 ρb n all (S 0) HH gg D a w t ρ pm) (s:On all D t) {k:Nat} {o:Oper} (z:Sd all D k o) (c:o_ o.op=true) {h:Nat} {W:GO} (hh:ldH (S k) o.op=some h) (i:(HH k).get h=some W):
    ∃p K J,yN w0 ρb n all (S 0) HH gg D a w p K J/\H_ K J=H_ ρ pm/\(HH p).get h=some W:=by
  have hk:=bK z.get;have hq:=CU c;have ae:pureOp tb o.op=false:=by cases Q:o.op<;>rw[Q]at c<;>first|rfl|cases c
  have aa:isFloat o.op=false:=by cases Q:o.op<;>rw[Q]at c<;>first|rfl|cases c
  obtain⟨v,V⟩:∃v,(HH k).ver h=some v:=by
    obtain⟨p,hp,_⟩:=aD.1 (show Gx.ob ((HH k).t.get h) _=some W from i);exact⟨p.1,by unfold GH.ver;rw[hp];rfl⟩
  obtain⟨v1,v2⟩:=E.vrs k o h v z.get c hh V;rcases zAu k t with H|H
  · -- later than in the text
    rcases s with e|⟨b,y,B,q⟩
    · omega
    have F:=B;simp only[sM,zA6]at F;have r:before (qG all) (t - 1) k=false:=by
      cases r:before (qG all) (t - 1) k with
      |false=>rfl
      |true=>have:=N _ _ q r hk;rw[z.undone]at this;cases this
    have ab:t - 1≠k:=λe=>by rw[e,z.undone]at q;cases q
    have:=v2 (t - 1) b (by omega) y F.1 r;rw[show t - 1+1=t by omega]at this;exact⟨t,ρ,pm,I,rfl,by rw[<-E.same (Nat.le_of_lt H) I.tm V this];exact i⟩
  · -- earlier,or there
    let f:Nat->Oper->Bool:=λj b=>sM b.op||(isFloat b.op && !D j)
    have first:∀d g,g+d=k->t<=g->(∀j b,t<=j->j<g->all[j]? = some b->f j b=false)->∃p,t<=p/\p<=k/\(∀j b,t<=j->j<p->all[j]? = some b->f j b=false)/\(p=k\/∃A,all[p]? = some A/\f p A=true):=by
      intro d
      induction d with
      |zero=>exact λg e U h=>⟨g,U,by omega,h,.inl (by omega)⟩
      | succ d ihd =>
        intro g e U h;have m:all[g]? = some all[g]:=zA2 (by omega);cases hl:f g all[g]with
        |true=>exact⟨g,U,by omega,h,.inr ⟨_,m,hl⟩⟩
        | false =>
          refine ihd (g+1) (by omega) (by omega) λj b y B C=> ?_;by_cases e:j=g
          · subst e;rw[m]at C;cases C;exact hl
          · exact h j b y (by omega) C
    obtain⟨p,ac,ad,R,T⟩:=first (k - t) t (by omega) (zAe _) (λj b y B=>by omega)
    obtain⟨Y,X,I1,e1⟩:=I.adoptTo E (p - t) t p ρ pm (by omega) (by omega) λj b y B C=>by
      have q:=R j b y B C;simp only[f,Bool.or_eq_false_iff,Bool.and_eq_false_iff,Bool.not_eq_false']at q;exact ⟨q.1, λO => by
          rcases q.2 with L | L; · rw [O] at L; cases L
          · exact L⟩
    refine⟨p,Y,X,I1,e1,?_⟩
    rcases T with e|⟨A,l,x⟩
    · rw[e];exact i
    · simp only[f,zB5,zA6,Bool.not_eq_true']at x;have u:fS A.op=true:=by
        rcases x with h|h
        · simp only[sM,zA6]at h;exact h.1
        · exact HM h.1
      have G:p<k:=by
        rcases zAu p k with h|h
        · exact h
        · have:p=k:=by omega
          subst this;rw[z.get]at l;cases l;rw[hq]at u;cases u
      have M:D p=false:=by
        rcases x with h|h
        · cases hd:D p with
          |false=>rfl
          |true=>have:=(I.lou p A l h).1 hd;omega
        · exact h.2
      have r:before (qG all) k p=false:=by
        cases r:before (qG all) k p with
        |false=>rfl
        |true=>have:=z.past p r (by omega);rw[M]at this;cases this
      rw[E.same (Nat.le_of_lt G) (Nat.le_of_lt hk) (v1 p A G l u r) V];exact i
theorem yN.step (E:xX P tb w0 ih all n S HH gg) (z:Cl all D) (I:yN w0 ρb n all (S 0) HH gg D a w t ρ pm) (m:On all D t) {k:Nat} {o:Oper} (A:Sd all D k o) {Q:Exit->Act->World->Prop} {K:Act->World->Prop}
  (hK:∀a' w' t' aY O,yN w0 ρb n all (S 0) HH gg (ins D k) a' w' t' aY O->On all (ins D k) t'->K a' w'):Sx.wpOp P all.toArray Q k K a w:=by
 have hk:=bK A.get;obtain⟨_,ai,aS⟩:=vT (E.op A.get);have am:=E.st A.get;unfold Sx.wpOp;simp only[List.getElem?_toArray,A.get];cases hp:pureOp tb o.op with
 | true =>
  have Y:sM o.op=false:=by simp[sM,GL hp]
  have aF:isFloat o.op=false:=by
   cases hf:isFloat o.op with
   |false=>rfl
   |true=>rw[Lz hf]at hp;cases hp
  have F:=I.frame E z A;rcases GD F am with⟨N,C⟩|⟨N,C,hH⟩
  ·rw[if_pos N];have aG:LW o.op=true:=by
    rcases aS with h|⟨c,f,y,G⟩
    ·exact h
    ·obtain⟨a8,xs,ts⟩:=c;simp only at G;rw[y,G]at hp;cases hp
   obtain⟨_,v,hv,u⟩:=XN (P:=P) E.tab F hp aG C;left;simp only[Oper.wp,u w,Oper.upon];exact hK _ _ t ρ pm (I.plain E z A Y (λh=>by rw[aF]at h;cases h) hv) m.ins
  ·rw[if_neg (by rw[N];simp)];exact hK _ _ t ρ pm (I.plain E z A Y (λh=>by rw[aF]at h;cases h) (by rw[C];exact .un)) m.ins
 | false =>
  cases hf:isFloat o.op with
  | true =>
   have Y:sM o.op=false:=by simp[sM,hf]
   have F:=I.frame E z A;rcases Ny (P:=P) E.tab hf F am with⟨N,C,hH⟩|⟨N,cs,a',T',hH,hC,a0,u⟩
   ·rw[if_neg (by rw[N];simp)];exact hK _ _ t ρ pm (I.plain E z A Y (λ_=>hH) (by rw[C];exact .un)) m.ins
   ·rw[if_pos N];obtain⟨V,hV,aI⟩:=u w;left;simp only[Oper.wp,hV,Oper.upon];have aJ:t<=k:=by
     rcases zAu k t with h|h
     ·have:=I.flo k o A.get hf h;rw[A.undone]at this;cases this
     ·exact h
    let l:Nh:=⟨w.heap.size,0,a'.size,.cells a' T',.cells cs⟩
    have e:Nb w (w.alloc (.cells a' T')):=(Below.refl _ _).alloc (zAe _) _;have aX:ρ (HH k).n=none:=I.rel.fresh _ (E.mono' aJ (by omega));have aT:pm (HH k).n=none:=by
     cases U:pm (HH k).n with
     |none=>rfl
     |some W=>
      obtain⟨i,L,R,y,G,h3,h4,h5,h6⟩:=I.only _ _ U;have:=E.apart (bK y) hk h3 hH h6.symm;subst this;rw[A.undone]at h5;cases h5
    let O:=pm.upd (HH k).n l;have M:O (HH k).n=some l:=by simp[O,fK.upd]
    have J:∀h,h≠(HH k).n->O h=pm h:=λh hh=>by simp[O,fK.upd,hh]
    have ad:(H_ ρ pm).le (H_ ρ O):=λh W y=>by
     cases H:ρ h with
     |some l2=>rw[zB H]at y;rw[zB H];exact y
     |none=>
      rw[zA H]at y;rw[zA H,J h (λeh=>by subst eh;rw[aT]at y;cases y)];exact y
    have aP:H_ ρ O (HH k).n=some l:=by rw[zA aX,M]
    obtain⟨p1,p2⟩:=GM a o.dst V;have az:∀h W,pm h=some W->W.b<w.heap.size:=λh W y=>by
     obtain⟨i,L,R,q1,q2,q3,q4,q5,rfl⟩:=I.only _ _ y;obtain⟨l2,r1,_,_,r4,_⟩:=I.pend i L R q1 q2 q3 q4 q5;rw[y]at r1;cases r1;exact(zAj.1 r4).1
    refine hK _ _ t ρ O ⟨I.tm,λj oj hj ak=> ?_,λj oj hj ao aE=>CR (I.flo j oj hj ao aE),I.rel.ext' e,I.up,by rw[p1];exact I.defers,by rw[p2];exact I.size,A.slot E.chk z ai I.size ad I.slot (aI _ aP),λi L R y G h3 h4 h5=> ?_,λh W ar=> ?_,λh h' W l2 y G hb=> ?_⟩ m.ins
    ·have e:j≠k:=λe=>by subst e;rw[A.get]at hj;cases hj;rw[Y]at ak;cases ak
     rw[Ce e];exact I.lou j oj hj ak
    ·by_cases ei:i=k
     ·subst ei;rw[hH]at h3;have:=VK h3;subst this;refine⟨l,M,.inl I.rel.ext.size,?_,heap_alloc_new w _,⟨a',T',heap_alloc_new w _,rfl,by show 0+cs.length<=a'.size;omega,λj g C=> ?_⟩,rfl⟩
      ·rintro⟨h,o',l',C,ax,eb⟩;obtain⟨l2,r1,_,r3⟩:=I.rel.live h o' C;rw[ax]at r1;cases r1;have:=r3.lt;rw[eb]at this;exact absurd this (Nat.lt_irrefl _)
      ·obtain⟨x,hx,aU⟩:=hC.r.get C;rw[zAk]at hx;exact⟨x,by show a'[0+j]? = some x;simpa using hx,aU.le ad,ON hC.one hx⟩
     ·rw[Ce ei]at h5;obtain⟨W,a1,a2,a3,a4,a5,a6⟩:=I.pend i L R y G h3 h4 h5;have aR:(HH i).n≠(HH k).n:=λeh=>ei (E.apart (bK y) hk h3 hH eh);have hb:=az _ _ a1;exact⟨W,by rw[J _ aR];exact a1,a2,a3,by rw[e.block _ hb];exact a4,a5.move ad (e.block _ hb),a6⟩
    ·by_cases eh:h=(HH k).n
     ·exact⟨k,o,cs,A.get,hf,hH,aJ,CS D k,eh⟩
     ·rw[J h eh]at ar;obtain⟨i,L,R,q1,q2,q3,q4,q5,q6⟩:=I.only h W ar;exact⟨i,L,R,q1,q2,q3,q4,CR q5,q6⟩
    ·by_cases eh:h=(HH k).n
     ·by_cases ah:h'=(HH k).n
      ·rw[eh,ah]
      ·rw[J h' ah]at G;subst eh;rw[M]at y;cases y;have:=az _ _ G;rw[<-hb]at this;exact absurd this (Nat.lt_irrefl _)
     ·rw[J h eh]at y;by_cases ah:h'=(HH k).n
      ·subst ah;rw[M]at G;cases G;have:=az _ _ y;rw[hb]at this;exact absurd this (Nat.lt_irrefl _)
      ·rw[J h' ah]at G;exact I.inj h h' W l2 y G hb
  | false =>
   cases aj:o_ o.op with
   | true =>
    have Y:sM o.op=false:=by simp[sM,CU aj]
    have F0:=I.frame E z A;rcases GD F0 am with⟨N,C⟩|⟨N,C,hH⟩
    ·rw[if_pos N];have aH:∃T x,o.op = .load T x:=by
      cases ho:o.op<;>rw[ho]at aj<;>first|exact⟨_,_,rfl⟩|cases aj
     obtain⟨T,x,al⟩:=aH;rw[al]at C;obtain⟨va,aL,C⟩:=aD.1 (show ob (lK (Fq (S k) (o.looksAt all.toArray)) x) _=some (gg k,HH (k+1))from C);obtain⟨g',av,aQ⟩:=aD.1 C;have eg:g'=gg k:=by
      have:=congrArg (λo=>o.map Prod.fst) (show some (g',HH k)=some (gg k,HH (k+1))from aQ);simpa using this
     rw[eg]at av;obtain⟨q,U,hc⟩:=aD.1 (show ob va.asP _=some (gg k)from av);obtain⟨cs,aO,hc⟩:=aD.1 hc;have aA:=jU.1 aO;have aW:∀s,x = .tmp s->s∈o.looksAt all.toArray:=λs e=>List.mem_append_left _ (List.mem_filterMap.2 ⟨.tmp s,by rw[al,e];simp[Op.operands],rfl⟩);have aM:lK (S k) x=some va:=by
      rw[<-aL];cases x with
      |tmp s=>
       show GY (S k) s=GY (Fq (S k) (o.looksAt all.toArray)) s;rw[Eg,if_pos (aW s Z)]
      |_=>rfl
     have hh:ldH (S k) o.op=some q.1:=by
      rw[al];show ob (lK (S k) x) _=_;rw[aM];show ob va.asP _=_;rw[U];rfl
     obtain⟨p,ag,af,B,ap,aB⟩:=I.loads E z m A aj hh aA;have aK:=dH F0 aL;have aV:Rl ag va (a.eval x):=by
      rw[FJ U]at aK ⊢;obtain⟨l,Y,e⟩:=aK.ptr_inv;obtain⟨W,aC,_⟩:=B.rel.live _ _ aB;rw[<-ap,zB aC]at Y;cases Y;rw[e];exact .ptr _ aC
     have ay:sR tb T va (HH p)=some (gg k):=by
      show ob va.asP _=_;rw[U];show ob ((HH p).cells q.1) _=_;rw[jU.2 aB];exact hc
     obtain⟨X,_,l,_,_,_,hX,u⟩:=Mt (P:=P) E.tab B.rel aV ay;left;have H:(execOp a.eval o).run P w = .ok (.value X) w:=by
      have:=u w Z;obtain⟨d,op,ty,a9,a7,gd⟩:=o;simp only at al;subst al;simp[execOp,this]
     simp only[Oper.wp,H,Oper.upon];exact hK _ _ t ρ pm (I.plain E z A Y (λh=>by rw[hf]at h;cases h) (by rw[<-ap];exact hX.le Iy)) m.ins
    ·rw[if_neg (by rw[N];simp)];exact hK _ _ t ρ pm (I.plain E z A Y (λh=>by rw[hf]at h;cases h) (by rw[C];exact .un)) m.ins
   |false=>
   obtain⟨ag,af,B,ap⟩:=I.reach E z m A hp hf aj;have F:=B.frame' E z A;cases ae:fS o.op with
   | false =>
    have Y:sM o.op=false:=by simp[sM,ae]
    have an:∀v,Rl ag (gg k) v->yN w0 ρb n all (S 0) HH gg (ins D k) (a.put o.dst v) w t ρ pm:=λv hv=>
     I.plain E z A Y (λh=>by rw[hf]at h;cases h) (by rw[<-ap];exact hv.le Iy)
    rcases KM E.tab (E.call w0) (E.op A.get) F B.rel am with⟨N,hs⟩|⟨N,C,hH⟩
    ·rw[if_pos N];left;rcases hs with⟨_,_,_,_,v,hv,u⟩|⟨_,_,_,v,_,_,_,_,_,hv,u⟩|⟨_,_,_,v,hv,u⟩|⟨U,_⟩
     ·simp only[Oper.wp,u w,Oper.upon];exact hK _ _ t ρ pm (an v hv) m.ins
     ·simp only[Oper.wp,u w Z,Oper.upon];exact hK _ _ t ρ pm (an v hv) m.ins
     ·simp only[Oper.wp,u,Oper.upon];exact hK _ _ t ρ pm (an v hv) m.ins
     ·rw[ae]at U;cases U
    ·rw[if_neg (by rw[N];simp)];exact hK _ _ t ρ pm (an undef (by rw[C];exact .un)) m.ins
   | true =>
    have Y:sM o.op=true:=by simp[sM,ae,hf]
    have aq:∀(i:Nat) (L:Oper) (R:List GV),all[i]? = some L->isFloat L.op=true->i≠k:=λi L R y G e=>by
     subst e;rw[A.get]at y;cases y;rw[hf]at G;cases G
    have aw:∀j o,all[j]? = some o->sM o.op=true->(ins D k j=true↔j<k+1):=λj oj hj ak=>by
     by_cases e:j=k
     ·subst e;simp[CS]
     ·rw[Ce e,B.lou j oj hj ak];omega
    have au:∀j o,all[j]? = some o->isFloat o.op=true->j<k+1->ins D k j=true:=λj oj hj ao aE=>by
     have:=aq j oj [] hj ao;exact CR (B.flo j oj hj ao (by omega))
    have aa:∀h l,af h=some l->∃i o cs,all[i]? = some o/\isFloat o.op=true/\HH (i+1)=(HH i).new (.cells cs)/\k+1<=i/\ins D k i=true/\h=(HH i).n:=λh l ar=>by
     obtain⟨i,L,R,q1,q2,q3,q4,q5,q6⟩:=B.only h l ar;have:=aq i L R q1 q2;exact⟨i,L,R,q1,q2,q3,by omega,CR q5,q6⟩
    have ac:On all (ins D k) (k+1):= .inr ⟨o,by simpa using A.get,Y,by simp[CS]⟩;rcases KM E.tab (E.call B.rel.base) (E.op A.get) F B.rel.rebase am with⟨N,hs⟩|⟨N,C,hH⟩
    ·rw[if_pos N];left;rcases hs with⟨U,_⟩|⟨U,_⟩|⟨U,_⟩|⟨_,u⟩
     ·rw[ae]at U;cases U
     ·rw[ae]at U;cases U
     ·rw[ae]at U;cases U
     refine LV (u _ λaN w2 v ad R2 hv=>hK _ _ (k+1) aN af ?_ ac);obtain⟨R3,ab⟩:=B.rel.back R2;have hj:(H_ ag af).le (H_ aN af):=λh l y=>by
      cases H:ag h with
      |some l2=>rw[zB H]at y;cases y;exact zB (ad _ _ H)
      |none=>
       rw[zA H]at y;obtain⟨i,L,R,q1,q2,q3,q4,q5,rfl⟩:=aa h l y;rw[zA (R2.fresh _ (E.mono' q4 (Nat.le_of_lt (bK q1))))];exact y
     obtain⟨p1,p2⟩:=GM a o.dst v;refine⟨hk,aw,au,R3,fK.le_trans B.up ad,by rw[p1];exact B.defers,by rw[p2];exact B.size,A.slot E.chk z ai B.size hj B.slot (hv.le Iy),λi L R y G h3 h4 h5=> ?_,aa,B.inj⟩
     rw[Ce (aq i L R y G)]at h5;obtain⟨W,a1,a2,a3,a4,a5,a6⟩:=B.pend i L R y G h3 (by omega) h5;have hb:W.b<w.heap.size:=(zAj.1 a4).1;refine⟨W,a1,a2,?_,by rw[ab _ hb a3];exact a4,a5.move hj (ab _ hb a3),a6⟩
     rintro⟨h,o',l',C,ax,eb⟩;obtain⟨l2,r1,r2,_⟩:=R2.live h o' C;rw[ax]at r1;cases r1;rw[eb]at r2;rcases r2 with r2|r2
     ·have:w.heap.size<=W.b:=r2;omega
     ·exact a3 r2
    ·rw[if_neg (by rw[N];simp)];obtain⟨p1,p2⟩:=GM a o.dst undef;refine hK _ _ (k+1) ag af ⟨hk,aw,au,by rw[hH];exact B.rel,B.up,by rw[p1];exact B.defers,by rw[p2];exact B.size,A.slot E.chk z ai B.size (fK.le_refl _) B.slot (by rw[C];exact .un),λi L R y G h3 h4 h5=> ?_,aa,B.inj⟩ ac;rw[Ce (aq i L R y G)]at h5;rw[hH];exact B.pend i L R y G h3 (by omega) h5
theorem yN.done (E:xX P tb w0 ih all n S HH gg) (I:yN w0 ρb n all (S 0) HH gg D a w t ρ pm) (b:∀i,i<all.length->D i=true):∃f,ρb.le f/\iD w0 f (HH all.length) w/\mE f n (S all.length) a:=by
 obtain⟨d,e,k,_⟩:=I.adoptTo E (all.length - t) t all.length ρ pm (by have:=I.tm;omega) (zAe _) λj q m p c=>by
  refine⟨?_,λ_=>b j p⟩
  cases B:sM q.op with
  |false=>rfl
  |true=>have:=(I.lou j q c B).1 (b j p);omega
 refine⟨d,k.up,k.rel,k.defers,k.size,λs g A=> ?_⟩
 have r:∀h,e h=none:=λh=>by
  cases C:e h with
  |none=>rfl
  |some l=>
   obtain⟨i,H,G,m,_,_,u,_⟩:=k.only h l C;have:=bK m;omega
 have c:H_ d e=d:=by
  funext h;unfold H_;rw[r];cases d h<;>rfl
 have F:SlD all (S 0) gg D s g:=by
  rcases Mn E.trc all.length (zAe _) A with⟨i,o,m,p,v,u,x⟩|⟨m,p⟩
  ·refine .inl ⟨i,o,b i m,p,v,u,λj q y c z=> ?_⟩;rcases zAu i j with h|h
   ·exact absurd z (x j q h (bK c) c)
   ·exact h
  ·exact .inr ⟨λj q y c=>m j q (bK c) c,p⟩
 have:=k.slot s g F;rwa[c]at this
theorem Vt (E:xX P tb w0 ih all n S HH gg) {Q:Exit->Act->World->Prop} (hQ:∀c K M,ρb.le c->iD w0 c (HH all.length) M->mE c n (S all.length) K->Q .normal K M):
  ∀(d:Nat) (L:List Nat) (b:Array Bool) (a:Act) (w:World) (t:Nat) (ρ pm:fK),L.length<=d->b.size=all.length->(∀i,i<all.length->b.getD i false=false->i∈L)->Cl all (λj=>b.getD j false)->
  yN w0 ρb n all (S 0) HH gg (λj=>b.getD j false) a w t ρ pm->On all (λj=>b.getD j false) t->Sx.wpAny P .any all.toArray Q d b a w:=by
 intro d
 induction d with
 | zero =>
  intro L b a w t ρ pm G J g m I h;have hL:L=[]:=zAn (by omega);subst hL;have f:∀i,i<all.length->b.getD i false=true:=λi r=>by
   cases u:b.getD i false with
   |true=>rfl
   |false=>have:=g i r u;simp at this
  refine⟨?_,?_⟩
  ·rw[List.eq_nil_iff_forall_not_mem];intro i r;obtain⟨l,o,s,_⟩:=mem_ready.1 r;have W:i<all.length:=by have:=(zAj.1 s).1;simpa using this
   have:=f i W;have hs:i<b.size:=by omega
   simp[hs]at this l;rw[l]at this;cases this
  ·obtain⟨c,l,N,O⟩:=I.done E f;exact hQ c a w l N O
 | succ d ihf =>
  intro L b a w t ρ pm G J g m I h;refine⟨λY=> ?_,λk hk=> ?_⟩
  ·have f:∀i,i<all.length->b.getD i false=true:=by
    intro i
    induction i using Nat.strongRecOn with
    | ind i ihi =>
     intro r;cases u:b.getD i false with
     |true=>rfl
     | false =>
      exfalso;have s:all[i]? = some all[i]:=zA2 r;have H:i∈Region.ready .any all.toArray b:=by
       refine mem_ready.2 ⟨?_,all[i],by simp,λe R v=> ?_⟩
       ·have hs:i<b.size:=by omega
        simp[hs]at u ⊢;exact u
       ·have U:e.on∈v_ all[i]:=zB9.2 ⟨e,List.mem_filter.2 ⟨by simpa using R,v⟩,rfl⟩;have:=(E.chk.edge i _ s e.on U).1;exact ihi e.on this (by omega)
      rw[Y]at H;simp at H
   obtain⟨c,l,N,O⟩:=I.done E f;exact hQ c a w l N O
  ·obtain⟨l,o,X,q⟩:=mem_ready.1 hk;have s:all[k]? = some o:=by simpa using X
   have V:k<all.length:=bK s;have F:k<b.size:=by omega
   have x:b.getD k false=false:=by simp[F]at l ⊢;exact l
   have hr:Sd all (λj=>b.getD j false) k o:=by
    refine⟨s,x,λj v B=> ?_⟩
    obtain⟨_,e,R,hej⟩:=E.chk.trans k o s j v B;obtain⟨ed,T,rfl⟩:=zB9.1 R;obtain⟨z,A⟩:=List.mem_filter.1 T;have hl:=q ed (by simpa using z) A;rcases hej with rfl|hej
    ·exact hl
    ·exact m _ _ hl hej B
   have y:(λj=>(b.setIfInBounds k true).getD j false)=ins (λj=>b.getD j false) k:=by
    funext j;by_cases e:j=k
    ·subst e;rw[CS];simp[F]
    ·rw[Ce e];exact getD_set_ne false (Ne.symm e)
   refine I.step E m h hr λK M t' c aa I' p=> ?_;refine ihf (L.erase k) _ K M t' c aa ?_ (by simp[J]) (λi r u=> ?_) ?_ (by rw[y];exact I') (by rw[y];exact p)
   ·have hm:=g k V x;rw[List.length_erase_of_mem hm];omega
   ·have e:i≠k:=λe=>by
     subst e;have:=congrFun y i;rw[CS]at this;rw[u]at this;cases this
    have:b.getD i false=false:=by
     have:=congrFun y i;rw[Ce e]at this;rw[<-this];exact u
    exact(List.mem_erase_of_ne e).2 (g i r this)
   ·rw[y];intro j k' B v C;by_cases e:j=k
    ·subst e;exact CR (hr.past k' v C)
    ·rw[Ce e]at B;exact CR (m j k' B v C)
theorem OJ (hG:gQ P tb) (e:∀w0:f_ gs,tT P w0 ih) (hm:P.follows .mixedOrders=true) {b:List Oper} {id:Nat} (f:b.all (Jx n)=true) (N:chkF tb b (qG b)=true) {k:GS->RS} {s:GS} {p:P_} {ρ:fK} {a:Act} {w:World} {Q:Exit->Act->World->Prop} (F:mE ρ n s.σ a) (R:iD w0 ρ s.H w) (h:(Hk tb ih b k b s=some p/\GJ b o_=true)\/evW tb ih b (qG b) k b 0 [] [] s=some p)
  (r:∀G m I L,k G=some p->ρ.le m->mE m n G.σ I->iD w0 m G.H L->Q .normal I L):(Code.region id b.toArray true).wpr none P Q a w:=by
 have W:b.all kB=true:=zA8.2 λo U=>(vT (zA8.1 f o U)).1;obtain⟨S,HH,gg,z,A,T,C,c⟩:∃S HH gg,S 0=s.σ/\HH 0=s.H/\Trc tb ih b b S HH gg/\(∀k y h v,b[k]? = some y->o_ y.op=true->ldH (S k) y.op=some h->(HH k).ver h=some v->
   (∀j u,j<k->b[j]? = some u->fS u.op=true->before (qG b) k j=false->(HH j).ver h=some v)/\(∀j u,k<j->b[j]? = some u->fS u.op=true->before (qG b) j k=false->(HH (j+1)).ver h=some v))/\k ⟨S b.length,HH b.length⟩=some p:=by
  rcases h with⟨h,ho⟩|h
  ·obtain⟨S,HH,gg,z,A,T,c⟩:=Nu b s h;refine⟨S,HH,gg,z,A,T,λk y h v r K _ _=>⟨λj u O q x B=> ?_,λj u O q x B=> ?_⟩,c⟩
   ·rcases IB ho r q K x with d|d
    ·rw[d]at B;cases B
    ·have:=((Jj N).trans j u q k d (bK r)).1;omega
   ·rcases IB ho r q K x with d|d
    ·have:=((Jj N).trans k y r j d (bK q)).1;omega
    ·rw[d]at B;cases B
  ·obtain⟨S,HH,gg,z,A,T,V,c⟩:=KN b 0 [] [] s h;exact⟨S,HH,gg,z,A,T,λk y h v r K hh hv=>by have:=V.lo k y h v r K hh hv;simpa using this,c⟩
 rw[<-z]at F;rw[<-A]at R;have E:xX P tb w0 ih b n S HH gg:=⟨hG,e,f,Jj N,T,C,NR hG (e w0) f T F R _ (zAe _)⟩
 have J:∀j,(Array.replicate b.length false).getD j false=false:=λj=>by
  by_cases h:j<b.length<;>simp[h]
 refine Gs W hm ?_;have Y:b.toArray.size=b.length:=by simp
 rw[Y];refine Vt (ρb:=ρ) E (λm I L h0 d M=>r ⟨S b.length,HH b.length⟩ m I L c h0 M d) b.length (List.range b.length) _ a _ 0 ρ (λ_=>none) (by simp) (by simp) (λi hi _=>zAp.2 hi) (λj k' q=>by simp only[J]at q;cases q) ?_ (.inl Z);refine⟨Nat.zero_le _,λj o _ _=>by simp only[J];simp,λj o _ _ h=>absurd h (Nat.not_lt_zero j),R.ext' ((Below.refl _ _).drew),fK.le_refl _,F.defers,F.size,λG g hs=> ?_,λi o cs _ _ _ _ h5=>(by simp only[J]at h5;cases h5),λh l X=>(by cases X),λh h' l l' X=>(by cases X)⟩
 rcases hs with⟨i,o,d,_⟩|⟨_,M⟩
 ·simp only[J]at d;cases d
 ·exact(F.slot G g M).le Iy
end
def Jc (c:TB) (n:Nat):Code->Bool
 | .skip | .exit _ | .ret=>true
 | .region _ ops dr=>ops.toList.all (Jx n)&&(!dr||chkF c ops.toList (qG ops.toList))
 | .seq a b=>Jc c n a&&Jc c n b
 | .cond _ a b=>Jc c n a&&Jc c n b
 | .block _ b=>Jc c n b
 | .loop b=>Jc c n b
 |_=>false
section
variable {P:Program} {G:GP} {tb:TB} {Fs:FT} {gs:BY} {w0:f_ gs}
def FE (P:Program) (c:Code) (Q:Exit->Act->World->Prop) (a:Act) (w:World):Prop:=
 ∀(b:Frame) (k:List Item) (d:List Frame),b.roundOf=(FR none).round->(FR none).fn b.fn->(FR none).room (d.length+1+0)->
  ∃e f g,Q e f g/\ArrivesIn (Machine.fenced P (FR none)) P (lone (b.atR a (.code c :: .inLoop c::k)) d w) b k d e f g
theorem FE.loop {c:Code} {Q:Exit->Act->World->Prop} {a:Act} {w:World} (h:FE P c Q a w):(Code.loop c).wpr none P Q a w:=by
 intro b k l f g i;obtain⟨e,j,n,m,d⟩:=h b k l f g i;exact⟨e,j,n,m,.of_steps (.one (fenced_calm g i Z) stepR_loop) d⟩
theorem FE.round {c:Code} {Q:Exit->Act->World->Prop} {a:Act} {w:World} (h:c.wpr none P (Exit.then (FE P c Q) Q) a w):FE P c Q a w:=by
 intro b k t p r s;obtain⟨e,f,g,m,d⟩:=h b (.inLoop c::k) t p r s;cases e with
 |normal=>
  obtain⟨o,n,q,j,i⟩:=m b k t p r s;exact⟨o,n,q,j,.of_steps (StepsIn.trans d (.one (fenced_calm r s Z) stepR_inLoop)) i⟩
 |exit id=>exact⟨_,f,g,m,.pass (x:= .inLoop c) Z (λ_ _=> .inl (by simp)) d⟩
 |goto l=>exact⟨_,f,g,m,.pass (x:= .inLoop c) Z (λ_ _=> .inl (by simp)) d⟩
 |ret=>exact⟨_,f,g,m,.pass (x:= .inLoop c) Z (λ_ _=> .inl (by simp)) d⟩
 |panic u=>exact⟨_,f,g,m,.pass (x:= .inLoop c) Z (λ_ _=> .inl (by simp)) d⟩
 |outgrown=>exact⟨_,f,g,m,.pass (x:= .inLoop c) Z (λ_ _=> .inl (by simp)) d⟩
noncomputable def KO (a:Cx) (id:Nat) (s:GS):RS:=some ⟨.exit id,Ep s.σ (mL (DG a.env id)),s.H⟩
structure Ww {gs:BY} (w0:f_ gs) (tb:TB) (n:Nat) (cx:Cx) (k:GS->RS) (out:P_) (ρ:fK) (Q:Exit->Act->World->Prop):Prop where
 k:∀s' ρ' a' w',k s'=some out->ρ.le ρ'->mE ρ' n s'.σ a'->iD w0 ρ' s'.H w'->Q .normal a' w'
 x:∀id s' ρ' a' w',KO cx id s'=some out->ρ.le ρ'->mE ρ' n s'.σ a'->iD w0 ρ' s'.H w'->Q (.exit id) a' w'
 r:∀s' ρ' a' w',Tl tb cx s'=some out->ρ.le ρ'->mE ρ' n s'.σ a'->iD w0 ρ' s'.H w'->Q .ret a' w'
def Jg (P:Program) {gs:BY} (w0:f_ gs) (tb:TB) (l:LH):Prop:=∀b h j H d,l b h j H=some d->∀n k i a w Q,Jc tb n b=true->lF (mL (live (.loop b) 0 h)) j some=some k->mE i n k a->iD w0 i H w->
 (∀id e c f g,KO h id e=some d->i.le c->mE c n e.σ f->iD w0 c e.H g->Q (.exit id) f g)->
 (∀e c f g,Tl tb h e=some d->i.le c->mE c n e.σ f->iD w0 c e.H g->Q .ret f g)->FE P b Q a w
theorem Ph {b:Cx} {s:GS} {a:P_} (h:Tl tb b s=some a):a.e = .ret:=by
 obtain⟨c,_,h⟩:=aD.1 (show ob (QW tb s b.res) _=some a from h);cases h;rfl
theorem CK {b:Cx} {id:Nat} {s:GS} {a:P_} (h:KO b id s=some a):a.e = .exit id:=by cases h;rfl
theorem Tk {b:List Nat} {s:GS} {a:P_} (h:IF b s=some a):a.e = .normal/\a.vs=Ep s.σ b/\a.H=s.H:=by cases h;exact⟨rfl,rfl,rfl⟩
theorem SV {n:Nat} {m:Cx} {j:List Nat} {k:GS->RS} {o b:P_} {l:fK} {Q:Exit->Act->World->Prop} (L:Ww w0 tb n m k b l Q) (h:lF j o.vs (λg=>k ⟨g,o.H⟩)=some b) {c:GS} {a:fK} {d:Act} {f:World}
  (r:o.vs=Ep c.σ j) (q:o.H=c.H) (e:l.le a) (F:mE a n c.σ d) (R:iD w0 a c.H f):Q .normal d f:=by
 obtain⟨g,i,p⟩:=sF h;rw[r]at i;exact L.k ⟨g,o.H⟩ a d f p e (KS F i) (by rw[q];exact R)
theorem EM {M:CH} {W:LH} (O:gQ P tb) (V:P.follows .mixedOrders=true) (j:∀w0:f_ gs,tT P w0 M) (p:Jg P w0 tb W) {n:Nat}:∀(c:Code) (m:Nat) (f:Cx) (k:GS->RS) (s:GS) (d:P_) (q:fK) (a:Act) (w:World) (Q:Exit->Act->World->Prop),
  Jc tb n c=true->evC tb M W c m f k s=some d->mE q n s.σ a->iD w0 q s.H w->Ww w0 tb n f k d q Q->c.wpr none P Q a w
 | .skip,m,f,k,s,d,q,a,w,Q,_,h,F,R,L=>RO (L.k s q a w h (fK.le_refl _) F R)
 | .region id ops dr, m, f, k, s, d, q, a, w, Q, ho, h, F, R, L => by
  have l:ops.toList.all (Jx n)=true/\(!dr||chkF tb ops.toList (qG ops.toList))=true:=by simpa [Jc]using ho
  have ad:ops.toList.all kB=true:=zA8.2 λo ac=>(vT (zA8.1 l.1 o ac)).1;have N:Bool.casesOn (motive:=λ_=>RS) (aee dr ops.toList) (Hk tb M ops.toList k ops.toList s) (evW tb M ops.toList (qG ops.toList) k ops.toList 0 [] [] s)=some d:=h;have e:ops=ops.toList.toArray:=by simp
  cases dr with
  |false=>
   rw[e];exact vG ad (Ip O (j w0) ops.toList s q a w l.1 F R N L.k)
  | true =>
   rw[e];have hF:chkF tb ops.toList (qG ops.toList)=true:=by simpa using l.2
   have u:(Hk tb M ops.toList k ops.toList s=some d/\GJ ops.toList o_=true)\/evW tb M ops.toList (qG ops.toList) k ops.toList 0 [] [] s=some d:=by
    cases T:aee true ops.toList with
    |true=>rw[T]at N;exact .inr N
    |false=>
     rw[T]at N;have:(!GJ ops.toList o_)=false:=T;exact .inl ⟨N,by simpa using this⟩
   exact OJ O j V l.1 hF F R u L.k
 | .seq x y,m,f,k,s,d,q,a,w,Q,ho,h,F,R,L=>by
  have l:Jc tb n x=true/\Jc tb n y=true:=by simpa [Jc]using ho
  refine UV (EM O V j p x (live y m f) f (evC tb M W y m f k) s d q a w _ l.1 h F R ⟨λA t E I z g B C=> ?_,L.x,L.r⟩);exact EM O V j p y m f k A d t E I Q l.2 z B C ⟨λs2 K X w2 J u=>L.k s2 K X w2 J (fK.le_trans g u),λid s2 K X w2 J u=>L.x id s2 K X w2 J (fK.le_trans g u),λs2 K X w2 J u=>L.r s2 K X w2 J (fK.le_trans g u)⟩
 | .cond x thn els, m, f, k, s, d, q, a, w, Q, ho, h, F, R, L => by
  have l:Jc tb n thn=true/\Jc tb n els=true:=by simpa [Jc]using ho
  obtain⟨v,hv,h⟩:=aD.1 (show ob (lK s.σ x) _=some d from h);obtain⟨b,U,h⟩:=aD.1 h;obtain⟨o,J,h⟩:=aD.1 (show ob _ (λo=>Ex.casesOn (motive:=λ_=>RS) o.e (lF (mL m) o.vs λσ=>k ⟨σ,o.H⟩) (λ_=>some o) (some o))=some d from h);have hx:=dH F hv;rw[DD U]at hx;have L':Ww w0 tb n f (IF (mL m)) o q Q:=by
   refine⟨λA t E I z g B C=> ?_,λid A t E I z g B C=> ?_,λA t E I z g B C=> ?_⟩
   ·obtain⟨D,e2,e3⟩:=Tk z;rw[D]at h;exact SV L h e2 e3 g B C
   ·have D:=CK z;rw[D]at h;cases h;exact L.x id A t E I z g B C
   ·have D:=Ph z;rw[D]at h;cases h;exact L.r A t E I z g B C
  refine Gr hx.bool_inv (λab=> ?_) (λaa=> ?_)
  ·rw[ab]at J;exact EM O V j p thn m f (IF (mL m)) s o q a w Q l.1 J F R L'
  ·rw[aa]at J;exact EM O V j p els m f (IF (mL m)) s o q a w Q l.2 J F R L'
 | .block id b, m, f, k, s, d, q, a, w, Q, ho, h, F, R, L => by
  have l:Jc tb n b=true:=by simpa [Jc]using ho
  obtain⟨o2,u,h⟩:=aD.1 (show ob (nB id (evC tb M W b m ⟨f.res,f.retm,(id,m)::f.env⟩ (IF (mL m)) s)) (λo=>Ex.casesOn (motive:=λ_=>RS) o.e (lF (mL m) o.vs λσ=>k ⟨σ,o.H⟩) (λ_=>some o) (some o))=some d from h);obtain⟨o,J,u⟩:=aD.1 (show ob (evC tb M W b m ⟨f.res,f.retm,(id,m)::f.env⟩ (IF (mL m)) s) (λo=>Ex.casesOn (motive:=λ_=>RS) o.e (some o) (λi=>Bool.casesOn (motive:=λ_=>RS) (Nat.beq i id) (some o) (some ⟨.normal,o.vs,o.H⟩)) (some o))=some o2 from u);refine Od (EM O V j p b m _ (IF (mL m)) s o q a w _ l J F R ⟨λA t E I z g B C=> ?_,λi A t E I z g B C=> ?_,λA t E I z g B C=> ?_⟩)
  ·obtain⟨D,e2,e3⟩:=Tk z;rw[D]at u;cases u;rw[D]at h;exact SV L h e2 e3 g B C
  ·have D:=CK z;rw[D]at u;by_cases hi:i=id
   ·subst hi;have U:Nat.beq i i=true:=by simp
    simp only[U]at u;cases u;show Exit.inBlock i Q (.exit i) E I;simp only[Exit.inBlock,if_true];have S:o=⟨.exit i,Ep A.σ (mL (DG ((i,m)::f.env) i)),A.H⟩:=by cases z;rfl
    have he:DG ((i,m)::f.env) i=m:=by
     show(bif Nat.beq i i then m else DG f.env i)=m;rw[U];rfl
    rw[he]at S;exact SV (o:=⟨.normal,o.vs,o.H⟩) L h (by rw[S]) (by rw[S]) g B C
   ·have U:Nat.beq i id=false:=oZ hi;simp only[U]at u;cases u;rw[D]at h;cases h;show Exit.inBlock id Q (.exit i) E I;simp only[Exit.inBlock,if_neg hi];refine L.x i A t E I ?_ g B C;have he:DG ((id,m)::f.env) i=DG f.env i:=by
     show(bif Nat.beq id i then m else DG f.env i)=_;rw[oZ (Ne.symm hi)];rfl
    rw[<-z];show KO f i A=some ⟨.exit i,Ep A.σ (mL (DG ((id,m)::f.env) i)),A.H⟩;rw[he];rfl
  ·have D:=Ph z;rw[D]at u;cases u;rw[D]at h;cases h;exact L.r A t E I z g B C
 | .loop b,m,f,k,s,d,q,a,w,Q,ho,h,F,R,L=>by
  have l:Jc tb n b=true:=by simpa [Jc]using ho
  have N:W b f (Ep s.σ (mL (live (.loop b) 0 f))) s.H=some d:=h;have ae:=Pd s.σ (mL (live (.loop b) 0 f));obtain⟨σ,Y⟩:=ae;exact FE.loop (p b f _ s.H d N n σ q a w Q l Y (KS F Y) R L.x L.r)
 | .exit id,m,f,k,s,d,q,a,w,Q,_,h,F,R,L=>RN (L.x id s q a w h (fK.le_refl _) F R)
 | .ret,m,f,k,s,d,q,a,w,Q,_,h,F,R,L=>UU (L.r s q a w h (fK.le_refl _) F R)
 | .rangeFunc _ _ _ _,m,f,k,s,d,q,a,w,Q,ho,_,_,_,_=>by simp[Jc]at ho
 | .scope _,m,f,k,s,d,q,a,w,Q,ho,_,_,_,_=>by simp[Jc]at ho
 | .label _,m,f,k,s,d,q,a,w,Q,ho,_,_,_,_=>by simp[Jc]at ho
 | .goto _,m,f,k,s,d,q,a,w,Q,ho,_,_,_,_=>by simp[Jc]at ho
 | .refuse _,m,f,k,s,d,q,a,w,Q,ho,_,_,_,_=>by simp[Jc]at ho
theorem abu (j:gQ P tb) {n:Nat} {s:GS} {f:fK} {a:Act} {w:World} (F:mE f n s.σ a) (R:iD w0 f s.H w) {r:ResultVar} {g:GV} (h:adS tb s r=some g):∃v,Rl f g v/\(IJ a.tmps r).run P w = .ok v w:=by
 cases r with
 |tmp t=>exact⟨_,F.slot t g h,by simp[IJ,Act.eval]⟩
 |cell q T=>
  obtain⟨v,m,h⟩:=aD.1 (show ob (GY s.σ q) _=some g from h);have d:=F.slot q v m;obtain⟨x,_,_,_,_,_,o,c⟩:=Mt (P:=P) j R d h;have c:=c w Z;refine⟨x,o,?_⟩
  obtain⟨p,k,_⟩:=aD.1 (show ob v.asP _=some g from h);rw[FJ k]at d;obtain⟨l,u,e⟩:=d.ptr_inv;have i:a.tmps.getD q undef = .pointer (some ⟨l.b,l.off+p.2,none⟩):=e;rw[e]at c;simp only[Instr.loadAt,Instr.sureAddr]at c;simp only[IJ,i,asAddr];simpa using c
theorem QX (f:gQ P tb) {n:Nat} {s:GS} {e:fK} {a:Act} {w:World} (F:mE e n s.σ a) (R:iD w0 e s.H w):∀{l:List ResultVar} {gs:List GV},QW tb s l=some gs->∃b,qJ e gs b/\(l.mapM (IJ a.tmps)).run P w = .ok b w
 | [],gs,h=>by cases h;exact⟨[],.nil,by simp⟩
 |r::l,gs,h=>by
  obtain⟨g,m,h⟩:=aD.1 (show ob (adS tb s r) (λv=>ob (QW tb s l) λb=>some (v::b))=some gs from h);obtain⟨i,c,h⟩:=aD.1 h;cases h;obtain⟨v,o,j⟩:=abu (P:=P) f F R m;obtain⟨b,d,k⟩:=QX f F R c;exact⟨v::b,.cons o d,by simp[List.mapM_cons,j,k]⟩
theorem Yn {b:fK} {gs:List GV} {a:List V0} (h:qJ b gs a):Rl b (VN gs) (if h:a.toArray.size=1 then a.toArray[0]else .tuple a.toArray):=by
 cases gs with
 |nil=>rw[h.of_nil];exact KF .nil
 | cons g gs =>
  obtain⟨v,a,rfl,c,d⟩:=h.of_cons;cases gs with
  |nil=>rw[d.of_nil];show Rl b g _;simpa using c
  |cons j gs=>
   obtain⟨k,i,rfl,e,f⟩:=d.of_cons;rw[dif_neg (by simp)];exact KF (.cons c (.cons e f))
theorem IG (j:gQ P tb) {fn:Func} {c:Cx} (d:c.res=fn.results.toList) {n:Nat} {s:GS} {g:fK} {a:Act} {w:World} {b:P_} (F:mE g n s.σ a) (R:iD w0 g s.H w) (h:Tl tb c s=some b):b.H=s.H/\∃v,Rl g (VN b.vs) v/\(results fn a.tmps).run P w = .ok v w:=by
 obtain⟨gs,e,h⟩:=aD.1 (show ob (QW tb s c.res) _=some b from h);cases h;obtain⟨l,f,i⟩:=QX (P:=P) j F R e;rw[d]at i;refine⟨rfl,_,Yn f,?_⟩
 rw[CW];have k:(fn.results.mapM (IJ a.tmps)).run P w = .ok l.toArray w:=by
  rw[Array.mapM_eq_mapM_toList];simp[i]
 simp[k]
structure TD (P:Program) (G:GP) (Fs:FT) {gs:BY} (w0:f_ gs):Prop where
 tab:gQ P G.tab
 mixed:P.follows .mixedOrders=true
 fns:∀{f fn},Fs f=some fn->P.funcs[f]? = some fn/\bB P f/\(∀c,fn.body=some c->Jc G.tab fn.ntmps c=true)/\fn.params.size+fn.nfree<=fn.ntmps
 ext:∀{f us H g H'},G.ext f us H=some (g,H')->∀ρ w vs,iD w0 ρ H w->qJ ρ us vs->mU P w0 ρ f vs w g H'
 exn:∀{f us g},G.exn f us=some g->∀ρ w vs H,iD w0 ρ H w->qJ ρ us vs->mU P w0 ρ f vs w g H
 /-- the function that catches returns 0 and 0 if its argument returns;its two variables are new objects -/
 cat:∀{ρ:fK} {g us cs w H H' c1 c2},iD w0 ρ H w->(∀ρ' w',ρ.le ρ'->iD w0 ρ' ((H.new (.cells [AH])).new (.cells [AH])) w'->∃x,mU P w0 ρ' g (us++cs) w' x H')->H'.cells H.n=some [c1]->H'.cells (H.n+1)=some [c2]->
  mU P w0 ρ G.cat [.func (.func g) us.toArray cs.toArray] w (.tup [AH,AH]) ((((H'.set H.n (.cells [AH])).set (H.n+1) (.cells [AH])).del H.n).del (H.n+1))
def Wl (P:Program) {gs:BY} (w0:f_ gs) (h:IH):Prop:=∀f d H a,h (.fn f) d H=some a->a.e = .ret->∀c w g,iD w0 c H w->qJ c d g->
 bB P f/\Calls P f g.toArray w λe i=>∃v b,e = .returned v/\c.le b/\iD w0 b a.H i/\Rl b (VN a.vs) v
theorem Qo {d:IH} (h:Wl P w0 d):tT P w0 (aeD d):=λf i H g j m q w p R n=>by
 obtain⟨o,k,b⟩:=aD.1 (show ob (d (.fn f) i H) _=some (g,j)from m);cases c:o.e with
 |normal=>rw[c]at b;cases b
 |exit id=>rw[c]at b;cases b
 |ret=>
  rw[c]at b;cases b;obtain⟨l,a⟩:=h f i H o k c q w p R n;exact .inr ⟨l _ w,a⟩
theorem Lq {B:IH} (j:TD P G Fs w0) (h:Wl P w0 B):tT P w0 (FL G B):=λf b H g z a t w i R e=>by
 unfold FL callQ at a;cases c:Nat.beq f G.cat with
 | false =>
  rw[c]at a;cases n:G.ext f b H with
  |some r=>
   simp only[n]at a;cases a;exact j.ext n t w i R e
  | none =>
   simp only[n]at a;cases s:G.exn f b with
   |some r=>
    simp only[s]at a;cases a;exact j.exn s t w i _ R e
   |none=>
    simp only[s]at a;exact Qo h f b H g z a t w i R e
 | true =>
  rw[c]at a;have c:=zA7 c;subst c;cases b with
  |nil=>cases a
  | cons u b =>
   cases b with
   |cons _ _=>cases a
   |nil=>
    obtain⟨p,F,a⟩:=aD.1 (show ob u.asF _=some (g,z)from a);rw[jQ,jQ]at a;obtain⟨x,J,a⟩:=aD.1 a;obtain⟨O,k,a⟩:=aD.1 a;obtain⟨Q,l,a⟩:=aD.1 a;obtain⟨o,a⟩:=bY.1 a;obtain⟨q,a⟩:=bY.1 a;rw[AW,AW,HC,HC]at a;cases a;obtain⟨M,rfl⟩:=List.length_eq_one_iff.1 (zA7 o);obtain⟨N,rfl⟩:=List.length_eq_one_iff.1 (zA7 q);obtain⟨v,i,rfl,A,E⟩:=e.of_cons;rw[E.of_nil];rw[WO F]at A;obtain⟨K,D,rfl,I,m⟩:=A.fn_inv;exact j.cat R (λy L d C=>⟨x.1,Qo h p.1 _ _ x.1 x.2 J y L _ C ((I.le d).append (m.le d))⟩) k l
theorem adx {x:IH} (p:∀w0:f_ gs,TD P G Fs w0) (B:∀w0:f_ gs,Wl P w0 x) (l:Jg P w0 G.tab λb z=>x (.loop b z)) {f:Nat} {i:Func} {K:List GV} {H:GH} {d:P_} (T:Fs f=some i) (h:Wd G.tab (FL G x) (λb z=>x (.loop b z)) i K H=some d) (S:d.e = .ret) {u:fK} {w:World} {t:List V0} (R:iD w0 u H w) (I:qJ u K t):
  bB P f/\Calls P f t.toArray w λe y=>∃v a,e = .returned v/\u.le a/\iD w0 a d.H y/\Rl a (VN d.vs) v:=by
 obtain⟨M,N,O,Q⟩:=(p w0).fns T;refine⟨N,?_⟩
 obtain⟨k,E,h⟩:=aD.1 (show ob i.body _=some d from h);obtain⟨L,m,h⟩:=sF h;rw[List.range_eq_range']at m;have s:=Ln m;have U:t.length<=i.ntmps:=by rw[<-I.len,s];exact Q
 refine yW M E ?_;have F:mE u i.ntmps L {tmps:=t.toArray++Array.replicate (i.ntmps - t.toArray.size) undef,defers:=[]}:=by
  refine Oy Z (by simp;omega) I (λj v q=> ?_) m;have C:=bK q;rw[Nat.zero_add,zBd (by simpa using C)];simpa using q
 refine EM (p w0).tab (p w0).mixed (λw0=>Lq (p w0) (B w0)) l k _ _ _ ⟨L,H⟩ d u _ w _ (O k E) h F R ⟨λJ a D y r c n o=> ?_,λid J a D y r c n o=> ?_,λJ a D y r c n o=> ?_⟩
 ·obtain⟨A,v,q,g⟩:=IG (fn:=i) (p w0).tab Z n o r;exact Sx.body_end (.inr Z) n.defers g ⟨v,a,rfl,c,by rw[A];exact o,q⟩
 ·have:=CK r;rw[S]at this;cases this
 ·obtain⟨A,v,q,g⟩:=IG (fn:=i) (p w0).tab Z n o r;exact Sx.body_end (.inl Z) n.defers g ⟨v,a,rfl,c,by rw[A];exact o,q⟩
theorem adW (B:∀w0:f_ gs,TD P G Fs w0):∀(c:Nat) (w0:f_ gs),Wl P w0 (run G Fs c)/\Jg P w0 G.tab λb d=>run G Fs c (.loop b d):=by
 intro c
 induction c with
 |zero=>exact λw0=>⟨λf us H i h=>(by cases h),λb d K H i h=>(by cases h)⟩
 | succ c ih =>
  have z:∀w0:f_ gs,Wl P w0 (run G Fs c):=λw0=>(ih w0).1;intro w0;have q:=(ih w0).2;refine⟨λf us H i h he V w K R hr=> ?_,λb d K H i h n O V a w Q T I F R U k=> ?_⟩
  ·obtain⟨fn,E,h⟩:=aD.1 (show ob (Fs f) _=some i from h);exact adx B z q E h he R hr
  ·have D:lF (mL (live (.loop b) 0 d)) K (λO=>ob (evC G.tab (FL G (run G Fs c)) (λb d=>run G Fs c (.loop b d)) b (live (.loop b) 0 d) d (IF (mL (live (.loop b) 0 d))) ⟨O,H⟩) λo=>Ex.casesOn (motive:=λ_=>RS) o.e (run G Fs c (.loop b d) o.vs o.H) (λ_=>some o) (some o))=some i:=h;obtain⟨aa,l,D⟩:=sF D;rw[I]at l;cases l;obtain⟨o,Y,s⟩:=aD.1 D;refine FE.round (EM (B w0).tab (B w0).mixed (λw0=>Lq (B w0) (z w0)) q b _ d _ ⟨O,H⟩ o V a w _ T Y F R ⟨λt j x A p g u v=> ?_,λid t j x A p g u v=> ?_,λt j x A p g u v=> ?_⟩)
   ·obtain⟨y,W,X⟩:=Tk p;rw[y,W,X]at s;obtain⟨S,m⟩:=Pd t.σ (mL (live (.loop b) 0 d));exact q b d _ t.H i s n S j x A Q T m (KS u m) v (λid J r C L M N=>U id J r C L M (fK.le_trans g N)) (λJ r C L M N=>k J r C L M (fK.le_trans g N))
   ·have y:=CK p;rw[y]at s;cases s;exact U id t j x A p g u v
   ·have y:=Ph p;rw[y]at s;cases s;exact k t j x A p g u v
theorem Ij (e:∀w0:f_ gs,TD P G Fs w0) {a f:Nat} {c:List GV} {H H':GH} {g:GV} (h:TZ G Fs a f c H=some (g,H')) {b:fK} {w:World} {d:List V0} (R:iD w0 b H w) (i:qJ b c d):mU P w0 b f d w g H':=
 Lq (e w0) (adW e a w0).1 f c H g H' h b w d R i
theorem iD.start (b:f_ gs) (c:gs.env=[]):iD b (λ_=>none) H0 b.w:=⟨Eb.refl _,λh o a=>(by cases a),λh g o k l j a=>(by cases a),λ_ _=>rfl,λh d=>absurd d (Nat.not_lt_zero h),λh v l f=>(by cases f),λi v e=>by rw[c]at e;simp at e⟩
end
end Go.Gx
namespace Go.Gx
open Go Go.Sx
noncomputable section
def oN (a:List GV) (H:GH):RS:=some ⟨.normal,a,H⟩
def oX (id:Nat) (a:List GV) (H:GH):RS:=some ⟨.exit id,a,H⟩
def oR (a:List GV) (H:GH):RS:=some ⟨.ret,a,H⟩
def jn (r:RS) (k:List GV->GH->RS):RS:=ob r λo=>Ex.casesOn (motive:=λ_=>RS) o.e (k o.vs o.H) (λ_=>some o) (some o)
def rG (v:GV) (b:Bool) (H:GH) (X:OR):OR:=GV.casesOn (motive_1:=λ_=>OR) v (λ_ _=>none) (λq=>Bool.casesOn (motive:=λ_=>OR) (Ue q b) (some (.un,H)) X) (λ_ _=>none) (λ_ _=>none) none (λ_ _ _ _=>none) none (λ_=>none) (λ_ _ _=>none) none none (λ_=>none) (λ_=>none) (some (.un,H)) none (λ_=>none)
def U0 {R:Type} (a:List GV) (f:Option R):Option R:=List.casesOn (motive:=λ_=>Option R) a (f) λ_ _=>none
def U1 {R:Type} (b:List GV) (f:GV->Option R):Option R:=List.casesOn (motive:=λ_=>Option R) b none λa c=>List.casesOn (motive:=λ_=>Option R) c (f a) λ_ _=>none
def U2 {R:Type} (c:List GV) (f:GV->GV->Option R):Option R:=List.casesOn (motive:=λ_=>Option R) c none λa d=>List.casesOn (motive:=λ_=>Option R) d none λb e=>List.casesOn (motive:=λ_=>Option R) e (f a b) λ_ _=>none
def U3 {R:Type} (d:List GV) (f:GV->GV->GV->Option R):Option R:=List.casesOn (motive:=λ_=>Option R) d none λa e=>List.casesOn (motive:=λ_=>Option R) e none λb g=>List.casesOn (motive:=λ_=>Option R) g none λc h=>List.casesOn (motive:=λ_=>Option R) h (f a b c) λ_ _=>none
def U4 {R:Type} (e:List GV) (f:GV->GV->GV->GV->Option R):Option R:=List.casesOn (motive:=λ_=>Option R) e none λa g=>List.casesOn (motive:=λ_=>Option R) g none λb h=>List.casesOn (motive:=λ_=>Option R) h none λc i=>List.casesOn (motive:=λ_=>Option R) i none λd j=>List.casesOn (motive:=λ_=>Option R) j (f a b c d) λ_ _=>none
def U5 {R:Type} (g:List GV) (f:GV->GV->GV->GV->GV->Option R):Option R:=List.casesOn (motive:=λ_=>Option R) g none λa h=>List.casesOn (motive:=λ_=>Option R) h none λb i=>List.casesOn (motive:=λ_=>Option R) i none λc j=>List.casesOn (motive:=λ_=>Option R) j none λd k=>List.casesOn (motive:=λ_=>Option R) k none λe l=>List.casesOn (motive:=λ_=>Option R) l (f a b c d e) λ_ _=>none
def U6 {R:Type} (h:List GV) (f:GV->GV->GV->GV->GV->GV->Option R):Option R:=List.casesOn (motive:=λ_=>Option R) h none λa i=>List.casesOn (motive:=λ_=>Option R) i none λb j=>List.casesOn (motive:=λ_=>Option R) j none λc k=>List.casesOn (motive:=λ_=>Option R) k none λd l=>List.casesOn (motive:=λ_=>Option R) l none λe m=>List.casesOn (motive:=λ_=>Option R) m none λg n=>List.casesOn (motive:=λ_=>Option R) n (f a b c d e g) λ_ _=>none
def U7 {R:Type} (i:List GV) (f:GV->GV->GV->GV->GV->GV->GV->Option R):Option R:=List.casesOn (motive:=λ_=>Option R) i none λa j=>List.casesOn (motive:=λ_=>Option R) j none λb k=>List.casesOn (motive:=λ_=>Option R) k none λc l=>List.casesOn (motive:=λ_=>Option R) l none λd m=>List.casesOn (motive:=λ_=>Option R) m none λe n=>List.casesOn (motive:=λ_=>Option R) n none λg o=>List.casesOn (motive:=λ_=>Option R) o none λh p=>List.casesOn (motive:=λ_=>Option R) p (f a b c d e g h) λ_ _=>none
def U8 {R:Type} (j:List GV) (f:GV->GV->GV->GV->GV->GV->GV->GV->Option R):Option R:=List.casesOn (motive:=λ_=>Option R) j none λa k=>List.casesOn (motive:=λ_=>Option R) k none λb l=>List.casesOn (motive:=λ_=>Option R) l none λc m=>List.casesOn (motive:=λ_=>Option R) m none λd n=>List.casesOn (motive:=λ_=>Option R) n none λe o=>List.casesOn (motive:=λ_=>Option R) o none λg p=>List.casesOn (motive:=λ_=>Option R) p none λh q=>List.casesOn (motive:=λ_=>Option R) q none λi r=>List.casesOn (motive:=λ_=>Option R) r (f a b c d e g h i) λ_ _=>none
def U9 {R:Type} (k:List GV) (f:GV->GV->GV->GV->GV->GV->GV->GV->GV->Option R):Option R:=List.casesOn (motive:=λ_=>Option R) k none λa l=>List.casesOn (motive:=λ_=>Option R) l none λb m=>List.casesOn (motive:=λ_=>Option R) m none λc n=>List.casesOn (motive:=λ_=>Option R) n none λd o=>List.casesOn (motive:=λ_=>Option R) o none λe p=>List.casesOn (motive:=λ_=>Option R) p none λg q=>List.casesOn (motive:=λ_=>Option R) q none λh r=>List.casesOn (motive:=λ_=>Option R) r none λi s=>List.casesOn (motive:=λ_=>Option R) s none λj t=>List.casesOn (motive:=λ_=>Option R) t (f a b c d e g h i j) λ_ _=>none
def To:List Nat->Code->Code
 | [],c=>c
 |0::p,.seq a _=>To p a
 |1::p,.seq _ b=>To p b
 |0::p,.cond _ a _=>To p a
 |1::p,.cond _ _ b=>To p b
 |0::p,.block _ b=>To p b
 |0::p,.loop b=>To p b
 |_,c=>c
def cY (a:Func) (p:List Nat):Code:=match a.body with
 |some c=>To p c
 |none=> .skip
def iB (b:Func) (a:HB):Cx:=⟨b.results.toList,KV b.results.toList,a⟩
abbrev fV:=CH->QH->List GV->GH->RS
structure If where
 fn:Nat->Option (Func×fV)
 lp:Nat->Option ((Code×Cx)×fV)
def If.fns (T:If) (f:Nat):Option Func:=ob (T.fn f) λe=>some e.1
def If.loop (T:If) (a:LH):QH:=λi vs H=>ob (T.lp i) λe=>a e.1.1 e.1.2 vs H
def rr (T:If) (G:GP) (n:Nat):Bool->QH:=Nat.rec (motive:=λ_=>Bool->QH) (λ_ _ _ _=>none) (λ_ a b t c H=>Bool.casesOn (motive:=λ_=>RS) b (ob (T.fn t) λe=>e.2 (callQ G (a false)) (a true) c H) (ob (T.lp t) λe=>e.2 (callQ G (a false)) (a true) c H)) n
structure Lj (T:If) (tb:TB):Prop where
 fn:∀{f e},T.fn f=some e->∀(c:CH) (lp:LH) us H,e.2 c (T.loop lp) us H=Wd tb c lp e.1 us H
 lp:∀{i e},T.lp i=some e->∀(c:CH) (lp:LH) us H,e.2 c (T.loop lp) us H=evL tb c lp e.1.1 e.1.2 us H
theorem afn {T:If} {G:GP} (h:Lj T G.tab):∀n,rr T G n false=(λf c H=>run G T.fns n (.fn f) c H)/\rr T G n true=T.loop (λb a=>run G T.fns n (.loop b a)):=by
 intro n
 induction n with
 |zero=>
  refine⟨rfl,?_⟩
  funext i vs H;show none=ob (T.lp i) λe=>none;cases T.lp i<;>rfl
 | succ n ih =>
  obtain⟨d,g⟩:=ih;constructor
  ·funext f c H;show ob (T.fn f) (λe=>e.2 (callQ G (rr T G n false)) (rr T G n true) c H)=ob (T.fns f) λk=>Wd G.tab (FL G (run G T.fns n)) (λb a=>run G T.fns n (.loop b a)) k c H;unfold If.fns;cases j:T.fn f with
   |none=>rfl
   |some e=>
    show e.2 (callQ G (rr T G n false)) (rr T G n true) c H=Wd G.tab (FL G (run G T.fns n)) (λb a=>run G T.fns n (.loop b a)) e.1 c H;rw[d,g];exact h.fn j _ _ c H
  ·funext i vs H;show ob (T.lp i) (λe=>e.2 (callQ G (rr T G n false)) (rr T G n true) vs H)=ob (T.lp i) λe=>run G T.fns (n+1) (.loop e.1.1 e.1.2) vs H;cases j:T.lp i with
   |none=>rfl
   |some e=>
    show e.2 (callQ G (rr T G n false)) (rr T G n true) vs H=evL G.tab (FL G (run G T.fns n)) (λb a=>run G T.fns n (.loop b a)) e.1.1 e.1.2 vs H;rw[d,g];exact h.lp j _ _ vs H
theorem acg {a:Type} {f i:Nat} {x e:a} {R:a->Prop} (h:R x):(bif Nat.beq f i then some x else none)=some e->R e:=by
 cases Nat.beq f i
 ·exact λh=>by cases h
 ·exact λe=>by cases e;exact h
def okF (a:TB) (fn:Func):Bool:=match fn.body with
 |some c=>Jc a fn.ntmps c&&Nat.ble (fn.params.size+fn.nfree) fn.ntmps
 |none=>false
theorem QL {tb:TB} {fn:Func} (h:okF tb fn=true):(∀c,fn.body=some c->Jc tb fn.ntmps c=true)/\fn.params.size+fn.nfree<=fn.ntmps:=by
 unfold okF at h;cases a:fn.body with
 |none=>rw[a]at h;cases h
 |some c=>
  rw[a]at h;simp only[zA6]at h;exact⟨λd b=>by cases b;exact h.1,by simpa using h.2⟩
def JW (T:If) (G:GP) (b:Nat) (f:FuncId) (a:List GV) (H:GH):OR:=callQ G (rr T G b false) f a H
theorem FM {T:If} {G:GP} (h:Lj T G.tab) (fuel:Nat) (f:FuncId) (a:List GV) (H:GH):JW T G fuel f a H=TZ G T.fns fuel f a H:=by
 unfold JW TZ FL;rw[(afn h fuel).1]
end
end Go.Gx
section
set_option maxRecDepth 100000
namespace Go.Gx
open Go Go.Sx Go.Proofs
noncomputable section
abbrev y:=xG
def gB (f:Func) (c:CH) (_:QH) (a:List GV) (H:GH):RS:=Wd y c (λ_ _ _ _=>none) f a H
def Kt (f:Func) (i:Nat) (c:CH) (q:QH) (a:List GV) (H:GH):RS:=Wd y c (λ_ _ b H=>q i b H) f a H
def gL (e:Code×Cx) (i:Nat) (c:CH) (q:QH) (a:List GV) (H:GH):RS:=evL y c (λ_ _ b H=>q i b H) e.1 e.2 a H
def gL1 (e:Code×Cx) (n i j:Nat) (c:CH) (q:QH) (d:List GV) (H:GH):RS:=evL y c (λ_ b a H=>bif Nat.beq b.env.length n then q i a H else q j a H) e.1 e.2 d H
def gD (e:Code×Cx) (i:Nat):(Code×Cx)×fV:=(e,gL e i)
def gD1 (e:Code×Cx) (n i j:Nat):(Code×Cx)×fV:=(e,gL1 e n i j)
def rid (c:Code):Nat:=match c with|.region n _ _=>n | .seq a _=>rid a | .block _ a=>rid a | .loop a=>rid a|_=>0
def sel (l:HB) (n:Nat):Nat:=List.rec (motive:=λ_=>Nat) 0 (λp _ a=>bif Nat.beq p.1 n then p.2 else a) l
def gBs (f:Func) (l:HB) (c:CH) (q:QH) (a:List GV) (H:GH):RS:=Wd y c (λb _ d H=>q (sel l (rid b)) d H) f a H
def Ui (e:Code×Cx) (l:HB):(Code×Cx)×fV:=(e,λc q a H=>evL y c (λb _ d H=>q (sel l (rid b)) d H) e.1 e.2 a H)
def i (n:Nat):GV:= .int .i64 (.ofNat n)
def bC (q:Bool) (f t:RS):RS:=Bool.casesOn (motive:=λ_=>RS) q f t
def K (c:CH) (f:Nat) (a:List GV) (H:GH) (k:GV->GH->RS):RS:=eH (c f a H) k
def bn (a:BinOp) (T:Nat) (v u:GV) (k:GV->RS):RS:=ob (rJ y a T v u) k
def ld (T:Nat) (v:GV) (H:GH) (k:GV->RS):RS:=ob (sR y T v H) k
def fd (T n:Nat) (v:GV) (k:GV->RS):RS:=ob (HZ y T n v) k
def pt (T n:Nat) (v:GV) (k:GV->RS):RS:=ob (Zo y T n v) k
def ix (T:Nat) (v u:GV) (k:GV->RS):RS:=ob (Ms y T v u) k
def ln (T:Nat) (v:GV) (k:GV->RS):RS:=ob (PL y T v) k
def ex (n:Nat) (v:GV) (k:GV->RS):RS:=ob (aed n v) k
def bd (T:Nat) (l:List (Nat×GV)) (k:GV->RS):RS:=ob (Tv y T l) k
theorem rN {a:Type} {f n:Nat} {x y:Option a} {e:a} {R:Prop} (b:x=some e->R) (c:y=some e->R):tN f n x y=some e->R:=by
 unfold tN;cases Nat.blt f n
 ·exact c
 ·exact b
theorem rL {c:Type} {f n:Nat} {x e:c} {R:Nat->c->Prop} (h:R n x):tL f n x=some e->R f e:=by
 intro a;unfold tL at a;cases b:Nat.beq f n with
 |false=>rw[b]at a;cases a
 |true=>rw[b]at a;cases a;rw[zA7 b];exact h
def B48 (c:CH) (m:QH) (q:List GV) (H:GH):RS:=U2 q λr s=>
 eH (EC r H) λn l=>
 eH (EC s l) λj h=>
 fd 31 0 j λo=>
 ld 22 o h λp=>
 ln 22 p λk=>
 eH (Mu y 86 k k h) λa e=>
 ln 86 a λg=>
 jn (nB 0 (m 7 [n,j,a,g,(i 0)] e)) λb f=>U1 b λd=>oR [d] f
def L7 (c:CH) (R:QH) (T:List GV) (H:GH):RS:=U5 T λp q d e f=>jn (bn .lss 3 f e λJ=>
 ob (GV.asB J) λI=>jn (bC I (oX 0 [d] H) (oN [p,q,d,e,f] H)) λm h=>U5 m λa r g s b=>jn (nB 1 (fd 36 1 a λK=>
 ld 33 K h λL=>
 ln 33 L λk=>
 eH (Mu y 89 k k h) λM E=>
 ix 86 g b λN=>
 eH (lQ y 89 N M E) λS j=>
 fd 36 1 a λO=>
 ld 33 O j λl=>
 ln 33 l λP=>
 jn (nB 2 (R 8 [a,r,g,b,s,b,l,P,(i 0)] j)) λn F=>U5 n λt u v w x=>oN [t,u,v,w,x] F)) λo G=>U5 o λz A B C D=>bn .add 3 D (i 1) λQ=>
 oN [z,A,B,C,Q] G) (R 7)
def L8 (c:CH) (ql:QH) (us:List GV) (H:GH):RS:=U9 us λw x z aa A B ab C D=>jn (bn .lss 3 D C λan=>
 ob (GV.asB an) λam=>jn (bC am (oX 2 [w,x,z,A,B] H) (oN [w,x,z,aa,A,B,ab,C,D] H)) λY J=>U9 Y λac h j d ad ae E af e=>jn (nB 3 (ix 33 E e λao=>
 ld 82 ao J λap=>
 eH (rH y 82 J) λk ai=>
 eH (lQ y 82 k ap ai) λaA a=>
 ix 86 j d λW=>
 ld 89 W a λaq=>
 ob (Option.casesOn (motive:=λ_=>Option (Option (Nat×Nat))) (ob (GV.asP W) λp=>some p.1) (some none) λM=>ob (GH.ver a M) λaj=>some (some (M,aj))) λag=>
 ix 86 j d λX=>
 ld 89 X a λar=>
 ob (Option.casesOn (motive:=λ_=>Option (Option (Nat×Nat))) (ob (GV.asP X) λp=>some p.1) (some none) λN=>ob (GH.ver a N) λak=>some (some (N,ak))) λah=>
 ld 82 k a λau=>
 ob (Option.casesOn (motive:=λ_=>Option (Option (Nat×Nat))) (ob (GV.asP k) λp=>some p.1) (some none) λO=>ob (GH.ver a O) λal=>some (some (O,al))) λay=>
 ld 31 h a λav=>
 ob (Option.casesOn (motive:=λ_=>Option (Option (Nat×Nat))) (ob (GV.asP h) λp=>some p.1) (some none) λf=>ob (GH.ver a f) λL=>some (some (f,L))) λaz=>
 K c 97 [au,av,d] a λg b=>
 ob (pck b ah (pck b ag (some ()))) λ_=>
 ex 0 g λP=>
 ex 1 g λQ=>
 ix 89 aq e λR=>
 ix 138 R (i 0) λS=>
 eH (lQ y 3 S P b) λaw F=>
 ob (some ()) λ_=>
 ix 89 ar e λT=>
 ix 138 T (i 1) λU=>
 eH (lQ y 3 U Q F) λax G=>
 ob (some ()) λ_=>
 oN [ac,h,j,d,ad,ae,E,af,e] G)) λl I=>U9 l λm n o q r s t u v=>bn .add 3 v (i 1) λV=>
 oN [m,n,o,q,r,s,t,u,V] I) (ql 8)
def B49 (c:CH) (k:QH) (g:List GV) (H:GH):RS:=U3 g λh i j=>
 ld 86 j H λb=>
 ix 86 b h λd=>
 ld 89 d H λe=>
 K c 50 [e,i] H λf a=>
 oR [f] a
def B51 (c:CH) (h:QH) (e:List GV) (H:GH):RS:=U2 e λf g=>
 K c 98 [f,g] H λb a=>
 bn .geq 3 b (i 0) λd=>
 oR [d] a
def B52 (c:CH) (l:QH) (h:List GV) (H:GH):RS:=U3 h λi j k=>
 ld 90 j H λd=>
 ld 3 k H λe=>
 ob (GV.asF d) λa=>eH (c a.1 (a.2.1++[e,i]++a.2.2) H) λf b=>
 ob (UQ .not f) λg=>
 oR [g] b
def B60 (c:CH) (n:QH) (j:List GV) (H:GH):RS:=U3 j λk l m=>
 fd 43 0 l λd=>
 ld 39 d H λe=>
 ld 3 m H λf=>
 ix 39 e f λg=>
 ld 22 g H λh=>
 K c 61 [k,h] H λi a=>
 ob (UQ .not i) λb=>
 oR [b] a
def B76 (c:CH) (h:QH) (l:List GV) (H:GH):RS:=U1 l λb=>
 ln 39 b λd=>
 eH (Mu y 39 d d H) λj f=>
 ln 39 b λk=>
 jn (nB 0 (h 12 [j,b,k,(i 0)] f)) λa g=>U1 a λe=>oR [e] g
def L12 (c:CH) (C:QH) (E:List GV) (H:GH):RS:=U4 E λB k b d=>jn (bn .lss 3 d b λu=>
 ob (GV.asB u) λt=>jn (bC t (oX 0 [B] H) (oN [B,k,b,d] H)) λh g=>U4 h λe f l a=>jn (nB 1 (ix 39 f a λv=>
 ld 22 v g λw=>
 eH (M_ y 22 22 .snil w g) λx q=>
 ix 39 e a λz=>
 eH (lQ y 22 z x q) λD r=>
 oN [e,f,l,a] r)) λj s=>U4 j λm n o p=>bn .add 3 p (i 1) λA=>
 oN [m,n,o,A] s) (C 12)
def B93 (c:CH) (l:QH) (p:List GV) (H:GH):RS:=U1 p λg=>
 ln 9 g λm=>
 bn .gtr 3 m (i 16384) λn=>
 ob (GV.asB n) λk=>jn (bC k (oN [g] H) (oR [.snil,(i 0),(i 3)] H)) λe h=>U1 e λf=>K c 145 [f,(i 0)] h λo j=>
 jn (nB 0 (l 13 [f,.snil,o] j)) λa d=>U1 a λb=>oR [b,(i 0),(i 0)] d
def L13 (c:CH) (ql:QH) (us:List GV) (H:GH):RS:=U3 us λa b d=>jn (ln 9 a λO=>
 bn .lss 3 d O λP=>
 ob (GV.asB P) λL=>jn (bC L (oX 0 [b] H) (oN [a,b,d] H)) λs l=>U3 s λw e f=>jn (nB 1 (ln 124 e λQ=>
 bn .eql 3 Q (i 4096) λR=>
 ob (GV.asB R) λM=>jn (bC M (oN [w,e,f] l) (oR [.snil,f,(i 3)] l)) λt D=>U3 t λg x h=>K c 146 [g,h] D λp E=>
 ex 0 p λS=>
 ex 1 p λq=>
 eH (rH y 176 E) λr F=>
 eH (lQ y 176 r S F) λab m=>
 bn .neq 47 q (i 0) λT=>
 ob (GV.asB T) λN=>jn (bC N (oN [g,x,r] m) (oR [.snil,h,q] m)) λu n=>U3 u λj z k=>ld 176 k n λU=>
 eH (pW y 124 1 [(0,U)] n) λV G=>
 eH (M_ y 124 124 z V G) λW o=>
 fd 176 2 k λX=>
 ld 3 X o λY=>
 K c 145 [j,Y] o λaa I=>
 oN [j,W,aa] I)) λv J=>U3 v λA B C=>oN [A,B,C] J) (ql 13)
def s96:HB:=[(6,14),(12,15),(19,16)]
def B97 (c:CH) (k:QH) (p:List GV) (H:GH):RS:=U3 p λq r s=>
 eH (EC q H) λl h=>
 eH (EC r h) λm j=>
 bd 197 [(0,(i 1)),(1,(.fn 161 [] []))] λn=>
 bd 197 [(0,(i 2)),(1,(.fn 162 [] []))] λo=>
 bd 197 [(0,(i 3)),(1,(.fn 163 [] []))] λf=>
 eH (pW y 198 3 [(0,n),(1,o),(2,f)] j) λa d=>
 ln 198 a λg=>
 jn (nB 0 (k 17 [s,l,m,a,g,(i 0)] d)) λb e=>U0 b (oR [(i 0),(.int .i64 (.negSucc 0))] e)
def L17 (c:CH) (ql:QH) (us:List GV) (H:GH):RS:=U6 us λr s t u f g=>jn (bn .lss 3 g f λQ=>
 ob (GV.asB Q) λO=>jn (bC O (oX 0 [] H) (oN [r,s,t,u,f,g] H)) λo m=>U6 o λh b j k v l=>jn (nB 1 (ix 198 k l λR=>
 ld 197 R m λS=>
 eH (rH y 197 m) λe K=>
 eH (lQ y 197 e S K) λag a=>
 fd 197 0 e λT=>
 ld 3 T a λU=>
 fd 82 1 b λV=>
 ld 3 V a λW=>
 bn .eql 3 U W λX=>
 ob (GV.asB X) λP=>jn (bC P (oN [h,b,j,k,v,l] a) (fd 197 1 e λY=>
 ld 137 Y a λaa=>
 ld 82 b a λab=>
 ld 31 j a λac=>
 ob (GV.asF aa) λd=>eH (c d.1 (d.2.1++[ab,ac,h]++d.2.2) a) λn L=>
 ex 0 n λad=>
 ex 1 n λae=>
 oR [ad,ae] L)) λp M=>U6 p λw x z A B C=>oN [w,x,z,A,B,C] M)) λq N=>U6 q λD E F G I J=>bn .add 3 J (i 1) λaf=>
 oN [D,E,F,G,I,af] N) (ql 17)
def B98 (c:CH) (e:QH) (g:List GV) (H:GH):RS:=U2 g λb h=>
 ln 39 b λf=>
 jn (nB 0 (e 18 [b,h,f,(i 0)] H)) λa d=>U0 a (oR [(.int .i64 (.negSucc 0))] d)
def L18 (c:CH) (I:QH) (J:List GV) (H:GH):RS:=U4 J λF G D E=>jn (bn .lss 3 E D λy=>
 ob (GV.asB y) λw=>jn (bC w (oX 0 [] H) (oN [F,G,D,E] H)) λh f=>U4 h λd e l a=>jn (nB 1 (ix 39 d a λz=>
 ld 22 z f λA=>
 ob (GV.asF e) λb=>eH (c b.1 (b.2.1++[A]++b.2.2) f) λB g=>
 ob (GV.asB B) λx=>jn (bC x (oN [d,e,l,a] g) (oR [a] g)) λj u=>U4 j λm n o p=>oN [m,n,o,p] u)) λk v=>U4 k λq r s t=>bn .add 3 t (i 1) λC=>
 oN [q,r,s,C] v) (I 18)
def afK (c:CH) (e:QH) (f:List GV) (H:GH):RS:=U2 f λg h=>
 jn (nB 0 (e 30 [g,h] H)) λa d=>U1 a λb=>oR [b] d
def L30 (c:CH) (ql:QH) (us:List GV) (H:GH):RS:=U2 us λa6 R=>jn (ln 9 a6 λt8=>
 bn .lss 3 R t8 λt9=>
 ob (GV.asB t9) λaa=>jn (bC aa (oX 0 [R] H) (oN [a6,R] H)) λm e=>U2 m λb d=>jn (nB 1 (ob (vAt y 9 b d) λa=>
 jn (nB 2 (bn .eql 5 a (.int .u8 (.ofNat 32)) λj=>
 ob (GV.asB j) λab=>jn (bC ab (bn .eql 5 a (.int .u8 (.ofNat 9)) λk=>
 ob (GV.asB k) λac=>jn (bC ac (bn .eql 5 a (.int .u8 (.ofNat 10)) λl=>
 ob (GV.asB l) λad=>jn (bC ad (bn .eql 5 a (.int .u8 (.ofNat 13)) λag=>
 oN [b,d,a,ag] e) (oN [b,d,a,l] e)) λn S=>U4 n λv w x z=>oN [v,w,x,z] S) (oN [b,d,a,k] e)) λo T=>U4 o λA B C D=>oN [A,B,C,D] T) (oN [b,d,a,j] e)) λp g=>U4 p λh f E F=>ob (GV.asB F) λae=>jn (bC ae (bn .eql 5 E (.int .u8 (.ofNat 35)) λai=>
 ob (GV.asB ai) λaf=>jn (bC af (oR [f] g) (jn (nB 3 (ql 31 [h,f] g)) λq U=>U2 q λG I=>oN [G,I] U)) λr V=>U2 r λJ K=>oN [J,K] V) (bn .add 3 f (i 1) λah=>
 oN [h,ah] g)) λs W=>U2 s λL M=>oN [L,M] W)) λt X=>U2 t λN O=>oN [N,O] X)) λu Y=>U2 u λP Q=>oN [P,Q] Y) (ql 30)
def L31 (c:CH) (C:QH) (D:List GV) (H:GH):RS:=U2 D λb d=>jn (ln 9 b λu=>
 bn .lss 3 d u λa=>
 eH (rG a true H (some (b,H))) λv e=>
 eH (rG a true e (some (d,e))) λw f=>
 eH (rG a true f (ob (vAt y 9 v w) λp=>some (p,f))) λx g=>
 eH (rG a true g (ob (rJ y .neq 5 x (.int .u8 (.ofNat 10))) λq=>some (q,g))) λz h=>
 ob (kE a z (.bool false)) λA=>
 ob (GV.asB A) λt=>jn (bC t (oX 3 [b,d] h) (oN [b,d] h)) λj r=>U2 j λl m=>jn (nB 4 (bn .add 3 m (i 1) λB=>
 oN [l,B] r)) λk s=>U2 k λn o=>oN [n,o] s) (C 31)
def afL (c:CH) (ql:QH) (us:List GV) (H:GH):RS:=U2 us λx1 x2=>
 eH (EC x1 H) λO h4=>
 eH (EC x2 h4) λf h6=>
 eH (rH y 176 h6) λm h8=>
 ld 9 O h8 λt9=>
 ld 3 f h8 λaE=>
 ob (vAt y 9 t9 aE) λM=>
 jn (nB 0 (K c 182 [M] h8 λaF t=>
 ob (GV.asB aF) λau=>jn (bC au (K c 184 [M] t λaM x=>
 ob (GV.asB aM) λaw=>jn (bC aw (oN [O,f,m] x) (ob (GV.asF (.fn 181 [] [f,O])) λl=>eH (c l.1 (l.2.1++[(.fn 184 [] [])]++l.2.2) x) λP a=>
 ld 9 O a λaN=>
 ld 3 f a λaO=>
 ob (Bj y 9 aN (some aO) (some P) a) λaP=>
 K c 185 [aP] a λQ z=>
 ex 0 Q λaQ=>
 ex 1 Q λaR=>
 ob (UQ .not aR) λaS=>
 ob (GV.asB aS) λax=>jn (bC ax (oN [f,m,P,aQ] z) (bd 176 [] λaT=>
 eH (lQ y 176 m aT z) λa5 A=>
 ob (ob (sR y 176 m A) λaB=>some [aB,(i 2)]) λV=>oR V A)) λW B=>U4 W λag q ah ai=>ld 3 ag B λaU=>
 bd 176 [(0,(i 2)),(1,aU),(2,ah),(3,ai)] λaV=>
 eH (lQ y 176 q aV B) λa6 C=>
 ob (ob (sR y 176 q C) λaC=>some [aC,(i 0)]) λX=>oR X C)) λY aq=>U3 Y λaj ak al=>oN [aj,ak,al] aq) (ob (GV.asF (.fn 181 [] [f,O])) λk=>eH (c k.1 (k.2.1++[(.fn 183 [] [])]++k.2.2) t) λN h=>
 ld 3 f h λaG=>
 bn .sub 3 N aG λaH=>
 bn .gtr 3 aH (i 24) λaI=>
 ob (GV.asB aI) λav=>jn (bC av (oN [f,m,N] h) (bd 176 [] λaJ=>
 eH (lQ y 176 m aJ h) λa3 u=>
 ob (ob (sR y 176 m u) λaz=>some [az,(i 5)]) λS=>oR S u)) λT v=>U3 T λae p af=>ld 3 ae v λaK=>
 bd 176 [(0,(i 1)),(1,aK),(2,af)] λaL=>
 eH (lQ y 176 p aL v) λa4 w=>
 ob (ob (sR y 176 p w) λaA=>some [aA,(i 0)]) λU=>oR U w)) λaa ar=>U3 aa λam an ao=>oN [am,an,ao] ar)) λab b=>U3 ab λap r g=>ld 9 ap b λaW=>
 ld 3 r b λaX=>
 ob (Bj y 9 aW (some aX) none b) λaY=>
 K c 186 [aY] b λR D=>
 bn .eql 3 R (i 0) λa0=>
 ob (GV.asB a0) λay=>jn (bC ay (oN [r,g,R] D) (bd 176 [] λa1=>
 eH (lQ y 176 g a1 D) λa7 E=>
 ob (ob (sR y 176 g E) λaD=>some [aD,(i 4)]) λac=>oR ac E)) λad j=>U3 ad λs d o=>ld 3 s j λG=>
 ld 3 s j λI=>
 bn .add 3 I o λJ=>
 bd 176 [(0,(i 3)),(1,G),(2,J)] λL=>
 eH (lQ y 176 d L j) λa2 e=>
 ob (ob (sR y 176 d e) λF=>some [F,(i 0)]) λn=>oR n e
def afM (c:CH) (d:QH) (e:List GV) (H:GH):RS:=U4 e λf g h j=>
 jn (nB 0 (d 33 [f,g,h,j,(i 0)] H)) λa b=>U0 a (oR [] b)
def L33 (c:CH) (V:QH) (us:List GV) (H:GH):RS:=U5 us λS T U p q=>jn (ob (GV.nilck S) λG=>
 fd 132 0 G λI=>
 K c 188 [I] H λJ k=>
 bn .eql 9 J T λL=>
 ob (GV.asB L) λE=>jn (bC E (oX 0 [] k) (oN [S,T,U,p,q] k)) λm l=>U5 m λa f b g d=>jn (nB 1 (bn .eql 3 d b λM=>
 ob (GV.asB M) λF=>jn (bC F (oN [a,f,b,g,d] l) (ob (GV.nilck a) λN=>
 fd 132 0 N λO=>
 K c 155 [O,(i 3)] l λW z=>
 oN [a,f,b,g,d] z)) λn A=>U5 n λh r s j t=>ob (GV.nilck h) λP=>
 fd 132 0 P λQ=>
 K c 191 [Q] A λX B=>
 ob (GV.asF j) λe=>eH (c e.1 (e.2.1++[]++e.2.2) B) λY C=>
 oN [h,r,s,j,t] C)) λo D=>U5 o λu v w x y=>bn .add 3 y (i 1) λR=>
 oN [u,v,w,x,R] D) (V 33)
def afN (c:CH) (j:QH) (g:List GV) (H:GH):RS:=U1 g λh=>
 ob (GV.nilck h) λa=>
 fd 130 1 a λb=>
 ld 124 b H λd=>
 ln 124 d λe=>
 bn .eql 3 e (i 0) λf=>
 oR [f] H
def adX:HB:=[(5,35),(13,36)]
def afO (c:CH) (s:QH) (x:List GV) (H:GH):RS:=U2 x λy r=>
 eH (EC y H) λp n=>
 fd 192 1 p λu=>
 ld 189 u n λv=>
 K c 199 [v,r,(.bool false)] n λq o=>
 ex 0 q λw=>
 ex 1 q λt=>
 bn .neq 3 w (i 2) λk=>
 ob (GV.asB k) λj=>jn (bC j (oN [r,p] o) (oR [(.bool false)] o)) λd a=>U2 d λf g=>fd 192 2 g λl=>
 ld 190 l a λb=>
 ln 190 b λm=>
 jn (nB 0 (s 39 [f,b,m,(i 0)] a)) λe h=>U0 e (oR [(.bool true)] h)
def L39 (c:CH) (U:QH) (X:List GV) (H:GH):RS:=U4 X λp q e f=>jn (bn .lss 3 f e λG=>
 ob (GV.asB G) λE=>jn (bC E (oX 0 [] H) (oN [p,q,e,f] H)) λm j=>U4 m λb g r h=>jn (nB 1 (ix 190 g h λI=>
 ld 208 I j λJ=>
 eH (rH y 208 j) λd B=>
 eH (lQ y 208 d J B) λV k=>
 fd 208 1 d λL=>
 ld 189 L k λM=>
 K c 199 [M,b,(.bool false)] k λl a=>
 ex 0 l λN=>
 ex 1 l λW=>
 fd 208 0 d λO=>
 ld 3 O a λP=>
 ix 22 b P λQ=>
 ld 3 Q a λR=>
 bn .neq 3 N R λS=>
 ob (GV.asB S) λF=>jn (bC F (oN [b,g,r,h] a) (oR [(.bool false)] a)) λn C=>U4 n λs t u v=>oN [s,t,u,v] C)) λo D=>U4 o λw x z A=>bn .add 3 A (i 1) λT=>
 oN [w,x,z,T] D) (U 39)
def afP (c:CH) (g:QH) (d:List GV) (H:GH):RS:=U3 d λe f k=>
 eH (EC e H) λh a=>
 eH (EC f a) λj b=>
 oR [(i 0),(i 1)] b
def afQ (c:CH) (k:QH) (h:List GV) (H:GH):RS:=U1 h λj=>
 eH (EC j H) λd a=>
 ld 36 d a λe=>
 K c 96 [e] a λf b=>
 bn .eql 47 f (i 0) λg=>
 oR [g] b
def afR (c:CH) (k:QH) (h:List GV) (H:GH):RS:=U1 h λj=>
 eH (EC j H) λd a=>
 ld 36 d a λe=>
 K c 207 [e] a λf b=>
 bn .eql 47 f (i 0) λg=>
 oR [g] b
def afS (c:CH) (e:QH) (g:List GV) (H:GH):RS:=U2 g λb h=>
 ln 22 b λf=>
 jn (nB 0 (e 40 [b,h,f,(i 0)] H)) λa d=>U0 a (oR [(.int .i64 (.negSucc 0))] d)
def L40 (c:CH) (F:QH) (G:List GV) (H:GH):RS:=U4 G λD E B C=>jn (bn .lss 3 C B λw=>
 ob (GV.asB w) λu=>jn (bC u (oX 0 [] H) (oN [D,E,B,C] H)) λf b=>U4 f λd e j a=>jn (nB 1 (ix 22 d a λx=>
 ld 3 x b λy=>
 bn .eql 3 e y λz=>
 ob (GV.asB z) λv=>jn (bC v (oN [d,e,j,a] b) (oR [a] b)) λg s=>U4 g λk l m n=>oN [k,l,m,n] s)) λh t=>U4 h λo p q r=>bn .add 3 r (i 1) λA=>
 oN [o,p,q,A] t) (F 40)
def afT (c:CH) (e:QH) (g:List GV) (H:GH):RS:=U3 g λh i j=>
 ld 3 i H λf=>
 jn (nB 0 (e 41 [h,j,f] H)) λa d=>U1 a λb=>oR [b] d
def L41 (c:CH) (K:QH) (L:List GV) (H:GH):RS:=U3 L λJ s b=>jn (ld 9 s H λz=>
 ln 9 z λA=>
 bn .lss 3 b A λa=>
 eH (rG a true H (some (J,H))) λB d=>
 eH (rG a true d (ob (sR y 9 s d) λt=>some (t,d))) λC f=>
 eH (rG a true f (some (b,f))) λD g=>
 eH (rG a true g (ob (vAt y 9 C D) λu=>some (u,g))) λE h=>
 eH (rG a true h (ob (GV.asF B) λe=>eH (c e.1 (e.2.1++[E]++e.2.2) h) FD)) λF j=>
 ob (kE a F (.bool false)) λG=>
 ob (GV.asB G) λx=>jn (bC x (oX 0 [b] j) (oN [J,s,b] j)) λk v=>U3 k λm n o=>jn (nB 1 (bn .add 3 o (i 1) λI=>
 oN [m,n,I] v)) λl w=>U3 l λp q r=>oN [p,q,r] w) (K 41)
def afU (c:CH) (B:QH) (A:List GV) (H:GH):RS:=U1 A λi=>
 bn .geq 5 i (.int .u8 (.ofNat 97)) λq=>
 eH (rG q true H (some (i,H))) λw t=>
 eH (rG q true t (ob (rJ y .leq 5 w (.int .u8 (.ofNat 122))) λv=>some (v,t))) λx u=>
 ob (kE q x (.bool false)) λh=>
 eH (rG h false u (some (i,u))) λz b=>
 eH (rG h false b (ob (rJ y .geq 5 z (.int .u8 (.ofNat 65))) λj=>some (j,b))) λn d=>
 eH (rG h false d (some (n,d))) λa e=>
 eH (rG a true e (some (i,e))) λo f=>
 eH (rG a true f (ob (rJ y .leq 5 o (.int .u8 (.ofNat 90))) λk=>some (k,f))) λp g=>
 eH (rG h false g (ob (kE a p (.bool false)) λl=>some (l,g))) λr m=>
 ob (kE h (.bool true) r) λs=>
 oR [s] m
def afV (c:CH) (q:QH) (p:List GV) (H:GH):RS:=U1 p λi=>
 K c 182 [i] H λg j=>
 eH (rG g false j (some (i,j))) λm k=>
 eH (rG g false k (eH (c 184 [m] k) FD)) λn l=>
 ob (kE g (.bool true) n) λh=>
 eH (rG h false l (some (i,l))) λo a=>
 eH (rG h false a (ob (rJ y .eql 5 o (.int .u8 (.ofNat 95))) λb=>some (b,a))) λe d=>
 ob (kE h (.bool true) e) λf=>
 oR [f] d
def afW (c:CH) (k:QH) (j:List GV) (H:GH):RS:=U1 j λd=>
 bn .geq 5 d (.int .u8 (.ofNat 48)) λa=>
 eH (rG a true H (some (d,H))) λg b=>
 eH (rG a true b (ob (rJ y .leq 5 g (.int .u8 (.ofNat 57))) λe=>some (e,b))) λh f=>
 ob (kE a h (.bool false)) λi=>
 oR [i] f
def afX (c:CH) (m:QH) (q:List GV) (H:GH):RS:=U1 q λr=>
 eH (pW y 128 9 [(0,(.str 11822 2)),(1,(.str 15917 2)),(2,(.str 15674 2)),(3,(.str 9766 2)),(4,(.str 31868 2)),(5,(.str 15677 2)),(6,(.str 15649 2)),(7,(.str 15676 2)),(8,(.str 15678 2))] H) λh k=>
 ln 128 h λn=>
 jn (nB 0 (m 43 [r,h,n,(i 0)] k)) λg l=>U1 g λj=>ob (vAt y 9 j (i 0)) λo=>
 K c 211 [(.str 172099982263598878148345807877454395 15),o] l λp a=>
 bn .geq 3 p (i 0) λf=>
 ob (GV.asB f) λe=>jn (bC e (oN [] a) (oR [(i 1)] a)) λb d=>U0 b (oR [(i 0)] d)
def L43 (c:CH) (G:QH) (I:List GV) (H:GH):RS:=U4 I λa n b d=>jn (bn .lss 3 d b λB=>
 ob (GV.asB B) λz=>jn (bC z (oX 0 [a] H) (oN [a,n,b,d] H)) λk h=>U4 k λe f o g=>jn (nB 1 (ix 128 f g λC=>
 ld 9 C h λD=>
 K c 210 [e,D] h λE j=>
 ob (GV.asB E) λA=>jn (bC A (oN [e,f,o,g] j) (oR [(i 2)] j)) λl x=>U4 l λp q r s=>oN [p,q,r,s] x)) λm y=>U4 m λt u v w=>bn .add 3 w (i 1) λF=>
 oN [t,u,v,F] y) (G 43)
def afY (c:CH) (n:QH) (l:List GV) (H:GH):RS:=U2 l λe m=>
 K c 188 [e] H λj d=>
 bn .neq 9 j m λk=>
 ob (GV.asB k) λh=>jn (bC h (oN [e] d) (oR [(.bool false)] d)) λb g=>U1 b λf=>K c 191 [f] g λi a=>
 oR [(.bool true)] a
def afZ (c:CH) (E:QH) (D:List GV) (H:GH):RS:=U1 D λv=>
 ob (GV.nilck v) λx=>
 fd 130 1 x λz=>
 ld 124 z H λA=>
 ln 124 A λB=>
 bn .eql 3 B (i 0) λC=>
 ob (GV.asB C) λw=>jn (bC w (oN [v] H) (oR [(.str 0 0)] H)) λu b=>U1 u λa=>ob (GV.nilck a) λd=>
 fd 130 0 d λe=>
 ld 9 e b λf=>
 ob (GV.nilck a) λg=>
 fd 130 1 g λh=>
 ld 124 h b λj=>
 ix 124 j (i 0) λk=>
 fd 176 1 k λl=>
 ld 3 l b λm=>
 ob (GV.nilck a) λn=>
 fd 130 1 n λo=>
 ld 124 o b λp=>
 ix 124 p (i 0) λq=>
 fd 176 2 q λr=>
 ld 3 r b λs=>
 ob (Bj y 9 f (some m) (some s) b) λt=>
 oR [t] b
def af_ (c:CH) (t:QH) (s:List GV) (H:GH):RS:=U1 s λl=>
 ob (GV.nilck l) λn=>
 fd 130 1 n λo=>
 ld 124 o H λp=>
 ln 124 p λq=>
 bn .eql 3 q (i 0) λr=>
 ob (GV.asB r) λm=>jn (bC m (oN [l] H) (oR [(i 0)] H)) λk b=>U1 k λa=>ob (GV.nilck a) λd=>
 fd 130 1 d λe=>
 ld 124 e b λf=>
 ix 124 f (i 0) λg=>
 fd 176 0 g λh=>
 ld 3 h b λj=>
 oR [j] b
def aga (c:CH) (J:QH) (O:List GV) (H:GH):RS:=U1 O λm=>
 ln 9 m λL=>
 bn .lss 3 L (i 1) λl=>
 eH (rG l false H (some (m,H))) λM E=>
 eH (rG l false E (ob (PL y 9 M) λG=>some (G,E))) λN F=>
 eH (rG l false F (ob (rJ y .gtr 3 N (i 24)) λI=>some (I,F))) λu d=>
 ob (kE l (.bool true) u) λa=>
 eH (rG a false d (some (m,d))) λv e=>
 eH (rG a false e (ob (vAt y 9 v (i 0)) λo=>some (o,e))) λw f=>
 eH (rG a false f (eH (c 182 [w] f) FD)) λx g=>
 eH (rG a false g (ob (UQ .not x) λp=>some (p,g))) λz h=>
 ob (kE a (.bool true) z) λA=>
 ob (GV.asB A) λt=>jn (bC t (oN [m] h) (oR [(.bool false)] h)) λj q=>U1 j λb=>ln 9 b λB=>
 jn (nB 0 (J 44 [b,B,(i 0)] q)) λk r=>U1 k λn=>K c 212 [n] r λC s=>
 ob (UQ .not C) λD=>
 oR [D] s
def L44 (c:CH) (D:QH) (E:List GV) (H:GH):RS:=U3 E λa b d=>jn (bn .lss 3 d b λx=>
 ob (GV.asB x) λv=>jn (bC v (oX 0 [a] H) (oN [a,b,d] H)) λh s=>U3 h λe l f=>jn (nB 1 (ob (vAt y 9 e f) λz=>
 K c 183 [z] s λA g=>
 ob (UQ .not A) λB=>
 ob (GV.asB B) λw=>jn (bC w (oN [e,l,f] g) (oR [(.bool false)] g)) λj t=>U3 j λm n o=>oN [m,n,o] t)) λk u=>U3 k λp q r=>bn .add 3 r (i 1) λC=>
 oN [p,q,C] u) (D 44)
def agb (c:CH) (R:QH) (Q:List GV) (H:GH):RS:=U1 Q λl=>
 eH (rH y 176 H) λD o=>
 ob (GV.nilck l) λL=>
 fd 130 1 L λM=>
 ld 124 M o λN=>
 ln 124 N λO=>
 bn .eql 3 O (i 0) λP=>
 ob (GV.asB P) λE=>jn (bC E (oN [l,D] o) (K c 155 [l,(i 4)] o λF m=>
 oN [l,D] m)) λj b=>U2 j λa e=>ob (GV.nilck a) λq=>
 fd 130 1 q λr=>
 ld 124 r b λs=>
 ix 124 s (i 0) λt=>
 ld 176 t b λu=>
 eH (rH y 176 b) λh n=>
 eH (lQ y 176 h u n) λG d=>
 ob (GV.nilck a) λv=>
 fd 130 1 v λw=>
 ld 124 w d λx=>
 ob (Bj y 124 x (some (i 1)) none d) λz=>
 ob (GV.nilck a) λA=>
 fd 130 1 A λB=>
 eH (lQ y 124 B z d) λI f=>
 ld 176 h f λC=>
 eH (lQ y 176 e C f) λJ g=>
 ob (ob (sR y 176 e g) λp=>some [p]) λk=>oR k g
def agc (c:CH) (r:QH) (q:List GV) (H:GH):RS:=U1 q λj=>
 bn .eql 3 j (i 1) λg=>
 eH (rG g false H (some (j,H))) λn k=>
 eH (rG g false k (ob (rJ y .eql 3 n (i 2)) λm=>some (m,k))) λo l=>
 ob (kE g (.bool true) o) λh=>
 eH (rG h false l (some (j,l))) λp a=>
 eH (rG h false a (ob (rJ y .eql 3 p (i 3)) λb=>some (b,a))) λe d=>
 ob (kE h (.bool true) e) λf=>
 oR [f] d
def agd (c:CH) (o:QH) (l:List GV) (H:GH):RS:=U3 l λh m n=>
 bn .geq 3 h m λa=>
 eH (rG a true H (some (h,H))) λj f=>
 eH (rG a true f (some (n,f))) λk g=>
 eH (rG a true g (ob (rJ y .leq 3 j k) λi=>some (i,g))) λd b=>
 ob (kE a d (.bool false)) λe=>
 oR [e] b
def age (c:CH) (L:QH) (Q:List GV) (H:GH):RS:=U2 Q λo R=>
 ln 189 o λM=>
 bn .gtr 3 M (i 200) λd=>
 eH (rG d false H (some (o,H))) λN I=>
 eH (rG d false I (eH (c 217 [N,(i 0)] I) FD)) λO J=>
 eH (rG d false J (some (o,J))) λP f=>
 eH (rG d false f (ob (PL y 189 P) λq=>some (q,f))) λx g=>
 eH (rG d false g (ob (rJ y .neq 3 O x) λr=>some (r,g))) λz h=>
 ob (kE d (.bool true) z) λA=>
 ob (GV.asB A) λw=>jn (bC w (oN [o,R] h) (oR [(.bool false)] h)) λm t=>U2 m λb p=>ln 189 b λB=>
 jn (nB 0 (L 45 [b,p,b,B,(i 0)] t)) λn u=>U1 n λe=>K c 219 [e] u λC j=>
 bn .leq 3 C (i 24) λa=>
 eH (rG a true j (some (e,j))) λD k=>
 eH (rG a true k (eH (c 220 [D] k) FD)) λE l=>
 eH (rG a true l (ob (rJ y .leq 3 E (i 2)) λs=>some (s,l))) λF v=>
 ob (kE a F (.bool false)) λG=>
 oR [G] v
def L45 (c:CH) (S:QH) (U:List GV) (H:GH):RS:=U5 U λa p q b d=>jn (bn .lss 3 d b λL=>
 ob (GV.asB L) λI=>jn (bC I (oX 0 [a] H) (oN [a,p,q,b,d] H)) λm h=>U5 m λr e f s g=>jn (nB 1 (ix 189 f g λM=>
 ld 228 M h λN=>
 eH (rH y 228 h) λl E=>
 eH (lQ y 228 l N E) λT j=>
 ld 228 l j λO=>
 K c 218 [O,e] j λP k=>
 ob (UQ .not P) λQ=>
 ob (GV.asB Q) λJ=>jn (bC J (oN [r,e,f,s,g] k) (oR [(.bool false)] k)) λn F=>U5 n λt u v w x=>oN [t,u,v,w,x] F)) λo G=>U5 o λz A B C D=>bn .add 3 D (i 1) λR=>
 oN [z,A,B,C,R] G) (S 45)
def agf (c:CH) (P:QH) (U:List GV) (H:GH):RS:=U3 U λV L W=>
 ln 22 L λS=>
 bn .gtr 3 S (i 6) λT=>
 ob (GV.asB T) λO=>jn (bC O (oN [V,L,W] H) (oR [(i 0),(i 7)] H)) λJ N=>U3 J λM a o=>ln 22 a λB=>
 jn (nB 0 (P 46 [M,a,o,a,B,(i 0)] N)) λl u=>U3 l λb d p=>ln 22 d λC=>
 K c 198 [b,C] u λD e=>
 ob (UQ .not D) λE=>
 ob (GV.asB E) λz=>jn (bC z (oN [b,d,p] e) (oR [(i 0),(i 7)] e)) λm v=>U3 m λq r s=>bd 248 [(0,q),(1,r)] λF=>
 eH (rH y 248 v) λh w=>
 eH (lQ y 248 h F w) λQ f=>
 ld 248 h f λG=>
 K c 221 [G,(i 0),s] f λj g=>
 ex 0 j λk=>
 ex 1 j λR=>
 bn .eql 3 k (i 0) λI=>
 ob (GV.asB I) λA=>jn (bC A (oN [k] g) (oR [(i 0),(i 6)] g)) λn x=>U1 n λt=>oR [t,(i 0)] x
def L46 (c:CH) (R:QH) (S:List GV) (H:GH):RS:=U6 S λa b d o e f=>jn (bn .lss 3 f e λL=>
 ob (GV.asB L) λI=>jn (bC I (oX 0 [a,b,d] H) (oN [a,b,d,o,e,f] H)) λl j=>U6 l λp q r g s h=>jn (nB 1 (ix 22 g h λM=>
 ld 3 M j λN=>
 K c 196 [N] j λO k=>
 ob (UQ .not O) λP=>
 ob (GV.asB P) λJ=>jn (bC J (oN [p,q,r,g,s,h] k) (oR [(i 0),(i 7)] k)) λm F=>U6 m λt u v w x y=>oN [t,u,v,w,x,y] F)) λn G=>U6 n λz A B C D E=>bn .add 3 E (i 1) λQ=>
 oN [z,A,B,C,D,Q] G) (R 46)
def agh (c:CH) (Q:QH) (P:List GV) (H:GH):RS:=U1 P λf=>
 jn (nB 0 (bn .geq 3 f (i 1) λE=>
 eH (rG E true H (some (f,H))) λM J=>
 eH (rG E true J (ob (rJ y .leq 3 M (i 17)) λK=>some (K,J))) λN v=>
 ob (kE E N (.bool false)) λO=>
 ob (GV.asB O) λL=>jn (bC L (bn .geq 3 f (i 18) λd=>
 eH (rG d true v (some (f,v))) λA g=>
 eH (rG d true g (ob (rJ y .leq 3 A (i 29)) λo=>some (o,g))) λB a=>
 ob (kE d B (.bool false)) λC=>
 ob (GV.asB C) λw=>jn (bC w (bn .geq 3 f (i 30) λe=>
 eH (rG e true a (some (f,a))) λD h=>
 eH (rG e true h (ob (rJ y .leq 3 D (i 42)) λp=>some (p,h))) λF b=>
 ob (kE e F (.bool false)) λG=>
 ob (GV.asB G) λx=>jn (bC x (bn .eql 3 f (i 43) λI=>
 ob (GV.asB I) λz=>jn (bC z (oN [] b) (oR [(i 3)] b)) λj q=>U0 j (oN [] q)) (oR [(i 2)] b)) λk r=>U0 k (oN [] r)) (oR [(i 1)] a)) λl s=>U0 l (oN [] s)) (oR [(i 0)] v)) λm t=>U0 m (oN [] t))) λn u=>U0 n (oR [(.int .i64 (.negSucc 0))] u)
def agi (c:CH) (l:QH) (k:List GV) (H:GH):RS:=U1 k λd=>
 bn .geq 3 d (i 20) λa=>
 eH (rG a true H (some (d,H))) λg b=>
 eH (rG a true b (ob (rJ y .leq 3 g (i 29)) λe=>some (e,b))) λh f=>
 ob (kE a h (.bool false)) λj=>
 oR [j] f
def agj (c:CH) (U:QH) (X:List GV) (H:GH):RS:=U3 X λO P Q=>
 K c 228 [O,P] H λV R=>
 bn .lss 3 V (i 0) λN=>
 eH (rG N false R (some (Q,R))) λW S=>
 eH (rG N false S (ob (rJ y .lss 3 W (i 0)) λT=>some (T,S))) λA d=>
 ob (kE N (.bool true) A) λa=>
 eH (rG a false d (some (Q,d))) λB e=>
 eH (rG a false e (some (O,e))) λC f=>
 eH (rG a false f (some (P,f))) λD g=>
 eH (rG a false g (ob (Ms y 189 C D) λs=>some (s,g))) λE h=>
 eH (rG a false h (ob (HZ y 228 0 E) λt=>some (t,h))) λF b=>
 eH (rG a false b (ob (sR y 3 F b) λu=>some (u,b))) λG j=>
 eH (rG a false j (eH (c 200 [G] j) FD)) λI k=>
 eH (rG a false k (ob (rJ y .geq 3 B I) λv=>some (v,k))) λJ l=>
 ob (kE a (.bool true) J) λL=>
 ob (GV.asB L) λz=>jn (bC z (oN [O,P,Q] l) (oR [(.int .i64 (.negSucc 0))] l)) λm w=>U3 m λo p q=>bn .add 3 p (i 1) λM=>
 jn (nB 0 (U 47 [o,q,M,(i 0)] w)) λn x=>U1 n λr=>oR [r] x
def L47 (c:CH) (x:QH) (y:List GV) (H:GH):RS:=U4 y λh a b d=>jn (bn .lss 3 d a λu=>
 ob (GV.asB u) λt=>jn (bC t (oX 0 [b] H) (oN [h,a,b,d] H)) λf q=>U4 f λe j k l=>jn (nB 1 (K c 228 [e,k] q λv r=>
 oN [e,j,v,l] r)) λg s=>U4 g λm n o p=>bn .add 3 p (i 1) λw=>
 oN [m,n,o,w] s) (x 47)
def abB:HB:=[(6,48),(11,49),(16,50)]
def agk (c:CH) (ql:QH) (us:List GV) (H:GH):RS:=U3 us λg h E=>
 ob (GV.nilck g) λt4=>
 fd 237 3 t4 λt5=>
 ld 189 t5 H λt6=>
 ix 189 t6 h λt7=>
 ld 228 t7 H λt8=>
 eH (rH y 228 H) λb U=>
 eH (lQ y 228 b t8 U) λa3 a=>
 jn (nB 0 (fd 228 0 b λam=>
 ld 3 am a λan=>
 bn .leq 3 an (i 17) λao=>
 ob (GV.asB ao) λai=>jn (bC ai (fd 228 0 b λau=>
 ld 3 au a λav=>
 bn .leq 3 av (i 19) λaw=>
 ob (GV.asB aw) λaj=>jn (bC aj (fd 228 0 b λaD=>
 ld 3 aD a λaE=>
 bn .leq 3 aE (i 29) λaF=>
 ob (GV.asB aF) λak=>jn (bC ak (fd 228 0 b λaK=>
 ld 3 aK a λaL=>
 bn .leq 3 aL (i 42) λaM=>
 ob (GV.asB aM) λal=>jn (bC al (oN [g,h,E] a) (bn .add 3 h (i 1) λaN=>
 K c 209 [g,aN,E] a λs Y=>
 ex 0 s λaO=>
 ex 1 s λaP=>
 K c 209 [g,aP,E] Y λt n=>
 ex 0 t λaQ=>
 ex 1 t λaR=>
 fd 228 0 b λaS=>
 ld 3 aS n λaT=>
 K c 238 [aT,aO,aQ] n λaU aa=>
 oR [aU,aR] aa)) λz ab=>U3 z λF G I=>oN [F,G,I] ab) (fd 228 0 b λaG=>
 ld 3 aG a λaH=>
 K c 237 [g,aH,h] a λr X=>
 ex 0 r λaI=>
 ex 1 r λaJ=>
 oR [aI,aJ] X)) λA ac=>U3 A λJ L M=>oN [J,L,M] ac) (bn .add 3 h (i 1) λax=>
 K c 209 [g,ax,E] a λq m=>
 ex 0 q λay=>
 ex 1 q λaz=>
 fd 228 0 b λaA=>
 ld 3 aA m λaB=>
 K c 236 [aB,ay] m λaC W=>
 oR [aC,az] W)) λB ad=>U3 B λN O P=>oN [N,O,P] ad) (ld 228 b a λap=>
 K c 235 [g,ap,E] a λaq V=>
 bn .add 3 h (i 1) λar=>
 oR [aq,ar] V)) λC ae=>U3 C λQ R S=>oN [Q,R,S] ae)) λD af=>U3 D λd T e=>bn .add 3 T (i 1) λaV=>
 K c 209 [d,aV,e] af λu ag=>
 ex 0 u λaW=>
 ex 1 u λaX=>
 K c 209 [d,aX,e] ag λv ah=>
 ex 0 v λaY=>
 ex 1 v λa0=>
 K c 209 [d,a0,e] ah λw o=>
 ex 0 w λa1=>
 ex 1 w λx=>
 bn .neq 3 aW (i 0) λa2=>
 ob (GV.asB a2) λp=>jn (bC p (oN [x,a1] o) (oR [aY,x] o)) λf l=>U2 f λj k=>oR [k,j] l
def agl (c:CH) (g:QH) (d:List GV) (H:GH):RS:=U2 d λe f=>
 K c 239 [e,f] H λb a=>
 oR [b] a
def agm (c:CH) (g:QH) (d:List GV) (H:GH):RS:=U2 d λe f=>
 K c 240 [e,f] H λb a=>
 oR [b] a
def agn (c:CH) (q:QH) (t:List GV) (H:GH):RS:=U2 t λl m=>
 bn .eql 3 m (i 6) λr=>
 ob (GV.asB r) λp=>jn (bC p (oN [l,m] H) (K c 242 [l] H λs n=>
 oR [s] n)) λj o=>U2 j λk a=>bn .add 3 a (i 1) λg=>
 K c 214 [k,g] o λh e=>
 jn (nB 0 (q 51 [k,a,h] e)) λb f=>U1 b λd=>oR [d] f
def L51 (c:CH) (Y:QH) (us:List GV) (H:GH):RS:=U3 us λf g h=>jn (jn (nB 1 (K c 188 [f] H λO D=>
 K c 243 [O] D λe j=>
 bn .eql 3 e (i 0) λa=>
 eH (rG a false j (some (e,j))) λP k=>
 eH (rG a false k (eH (c 244 [P] k) FD)) λQ l=>
 eH (rG a false l (some (g,l))) λR m=>
 eH (rG a false m (ob (rJ y .neq 3 Q R) λC=>some (C,m))) λS n=>
 ob (kE a (.bool true) S) λT=>
 ob (GV.asB T) λM=>jn (bC M (oN [f,g,h,e] n) (oR [h] n)) λq E=>U4 q λb d t u=>K c 191 [b] E λaa F=>
 bn .add 3 d (i 1) λU=>
 K c 214 [b,U] F λV G=>
 eH (pW y 256 2 [(0,t),(1,V)] G) λW I=>
 K c 215 [u,W] I λp o=>
 bn .eql 3 d (i 3) λX=>
 ob (GV.asB X) λN=>jn (bC N (oN [b,d,p] o) (oR [p] o)) λr J=>U3 r λv w x=>oN [v,w,x] J)) λs L=>U3 s λz A B=>oN [z,A,B] L) (Y 51)
def ago (c:CH) (g:QH) (k:List GV) (H:GH):RS:=U2 k λl b=>
 K c 245 [l,(i 0)] H λh e=>
 ln 256 b λj=>
 jn (nB 0 (g 52 [h,b,j,(i 0)] e)) λa f=>U1 a λd=>oR [d] f
def L52 (c:CH) (A:QH) (B:List GV) (H:GH):RS:=U4 B λz j a b=>jn (bn .lss 3 b a λt=>
 ob (GV.asB t) λs=>jn (bC s (oX 0 [z] H) (oN [z,j,a,b] H)) λg f=>U4 g λk d l e=>jn (nB 1 (ix 256 d e λu=>
 ld 189 u f λv=>
 eH (M_ y 189 189 k v f) λw q=>
 oN [w,d,l,e] q)) λh r=>U4 h λm n o p=>bn .add 3 p (i 1) λx=>
 oN [m,n,o,x] r) (A 52)
def agp (c:CH) (e:QH) (g:List GV) (H:GH):RS:=U2 g λb h=>
 ln 128 b λf=>
 jn (nB 0 (e 53 [b,h,f,(i 0)] H)) λa d=>U0 a (oR [(.int .i64 (.negSucc 0))] d)
def L53 (c:CH) (F:QH) (G:List GV) (H:GH):RS:=U4 G λD E B C=>jn (bn .lss 3 C B λw=>
 ob (GV.asB w) λu=>jn (bC u (oX 0 [] H) (oN [D,E,B,C] H)) λf b=>U4 f λd e j a=>jn (nB 1 (ix 128 d a λx=>
 ld 9 x b λy=>
 bn .eql 9 e y λz=>
 ob (GV.asB z) λv=>jn (bC v (oN [d,e,j,a] b) (oR [a] b)) λg s=>U4 g λk l m n=>oN [k,l,m,n] s)) λh t=>U4 h λo p q r=>bn .add 3 r (i 1) λA=>
 oN [o,p,q,A] t) (F 53)
def agq (c:CH) (u:QH) (z:List GV) (H:GH):RS:=U2 z λs p=>
 bn .lss 3 p (i 0) λd=>
 eH (rG d false H (some (p,H))) λv q=>
 eH (rG d false q (some (s,q))) λw r=>
 eH (rG d false r (ob (PL y 189 w) λt=>some (t,r))) λx a=>
 eH (rG d false a (ob (rJ y .geq 3 v x) λj=>some (j,a))) λn b=>
 ob (kE d (.bool true) n) λo=>
 ob (GV.asB o) λm=>jn (bC m (oN [s,p] b) (oR [(.int .i64 (.negSucc 0))] b)) λe k=>U2 e λg h=>jn (nB 0 (u 54 [g,h,(i 1)] k)) λf l=>U0 f (oR [(.int .i64 (.negSucc 0))] l)
def L54 (c:CH) (S:QH) (T:List GV) (H:GH):RS:=U3 T λa b q=>jn (ln 189 a λG=>
 bn .lss 3 b G λI=>
 ob (GV.asB I) λD=>jn (bC D (oX 0 [] H) (oN [a,b,q] H)) λm g=>U3 m λd e r=>jn (nB 1 (ix 189 d e λJ=>
 fd 228 0 J λL=>
 ld 3 L g λM=>
 K c 246 [M] g λk h=>
 bn .lss 3 k (i 0) λN=>
 ob (GV.asB N) λE=>jn (bC E (oN [d,e,r,k] h) (oR [(.int .i64 (.negSucc 0))] h)) λn j=>U4 n λs f t u=>bn .sub 3 u (i 1) λO=>
 bn .add 3 t O λl=>
 bn .eql 3 l (i 0) λP=>
 ob (GV.asB P) λF=>jn (bC F (oN [s,f,l] j) (bn .add 3 f (i 1) λQ=>
 oR [Q] j)) λo B=>U3 o λv w x=>oN [v,w,x] B)) λp C=>U3 p λy z A=>bn .add 3 z (i 1) λR=>
 oN [y,R,A] C) (S 54)
def agr (c:CH) (ql:QH) (us:List GV) (H:GH):RS:=U2 us λx1 x2=>
 eH (EC x1 H) λo h=>
 fd 228 0 o λt5=>
 ld 3 t5 h λt6=>
 jn (nB 0 (bn .eql 3 t6 (i 1) λt7=>
 ob (GV.asB t7) λq8=>jn (bC q8 (bn .eql 3 t6 (i 5) λn=>
 ob (GV.asB n) λK=>jn (bC K (bn .eql 3 t6 (i 12) λR=>
 oN [x2,o,R] h) (oN [x2,o,n] h)) λp b=>U3 p λt e u=>ob (GV.asB u) λL=>jn (bC L (oN [e] b) (fd 228 1 e λS=>
 ld 3 S b λT=>
 bn .geq 3 T (i 0) λa=>
 eH (rG a true b (ob (HZ y 228 1 e) λC=>some (C,b))) λU g=>
 eH (rG a true g (ob (sR y 3 U g) λD=>some (D,g))) λV k=>
 eH (rG a true k (some (t,k))) λW l=>
 eH (rG a true l (ob (rJ y .lss 3 V W) λE=>some (E,l))) λX G=>
 ob (kE a X (.bool false)) λY=>
 oR [Y] G)) λq I=>U1 q λv=>oN [v] I) (fd 228 1 o λt9=>
 ld 3 t9 h λM=>
 bn .geq 3 M (i 0) λd=>
 eH (rG d true h (ob (HZ y 228 1 o) λz=>some (z,h))) λN f=>
 eH (rG d true f (ob (sR y 3 N f) λA=>some (A,f))) λO j=>
 eH (rG d true j (ob (rJ y .leq 3 O (i 1073741824)) λB=>some (B,j))) λP F=>
 ob (kE d P (.bool false)) λQ=>
 oR [Q] F)) λr J=>U1 r λw=>oN [w] J)) λs m=>U1 s λx=>fd 228 1 x λaa=>
 ld 3 aa m λab=>
 bn .eql 3 ab (i 0) λac=>
 oR [ac] m
def ags (c:CH) (g:QH) (e:List GV) (H:GH):RS:=U1 e λf=>
 K c 247 [f,(.fn 248 [] [])] H λa b=>
 ex 0 a λd=>
 ex 1 a λh=>
 oR [d] b
def agt (c:CH) (g:QH) (e:List GV) (H:GH):RS:=U1 e λf=>
 K c 247 [f,(.fn 249 [] [])] H λa b=>
 ex 0 a λd=>
 ex 1 a λh=>
 oR [d] b
def agu (c:CH) (ql:QH) (us:List GV) (H:GH):RS:=U3 us λx1 x2 x3=>
 eH (EC x1 H) λt4 L=>
 fd 248 0 t4 λt6=>
 ld 189 t6 L λt7=>
 ix 189 t7 x2 λt8=>
 ld 228 t8 L λt9=>
 eH (rH y 228 L) λa I=>
 eH (lQ y 228 a t9 I) λaq l=>
 bn .add 3 x2 (i 1) λj=>
 fd 228 0 a λR=>
 ld 3 R l λS=>
 K c 246 [S] l λT e=>
 bn .eql 3 T (i 0) λU=>
 ob (GV.asB U) λP=>jn (bC P (oN [x3,t4,j,a] e) (fd 228 0 a λV=>
 ld 3 V e λW=>
 K c 251 [W] e λk m=>
 eH (rG k true m (some (x3,m))) λX n=>
 eH (rG k true n (ob (UQ .not X) λE=>some (E,n))) λY o=>
 ob (kE k Y (.bool false)) λaa=>
 ob (GV.asB aa) λQ=>jn (bC Q (oN [t4,j,a] o) (oR [(i 0),j] o)) λs f=>U3 s λv w x=>ld 248 v f λab=>
 ld 228 x f λac=>
 K c 252 [ab,ac] f λad J=>
 oR [ad,w] J)) λt p=>U4 t λb z A d=>eH (rG b false p (ob (HZ y 228 0 d) λF=>some (F,p))) λae g=>
 eH (rG b false g (ob (sR y 3 ae g) λG=>some (G,g))) λaf q=>
 eH (rG b false q (eH (c 250 [af] q) FD)) λag M=>
 ob (kE b (.bool true) ag) λah=>
 eH (rH y 260 M) λai r=>
 fd 228 0 d λaj=>
 ld 3 aj r λak=>
 K c 246 [ak] r λal N=>
 jn (nB 0 (ql 55 [z,A,d,ah,ai,al,(i 0)] N)) λu h=>U3 u λB C D=>fd 228 0 C λam=>
 ld 3 am h λan=>
 ld 260 D h λao=>
 K c 253 [an,ao] h λap O=>
 oR [ap,B] O
def L55 (c:CH) (O:QH) (Q:List GV) (H:GH):RS:=U7 Q λx j k z l m n=>jn (bn .lss 3 n m λI=>
 ob (GV.asB I) λG=>jn (bC G (oX 0 [j,k,l] H) (oN [x,j,k,z,l,m,n] H)) λv s=>U7 v λo A B p q C r=>jn (nB 1 (ld 248 o s λJ=>
 K c 221 [J,A,p] s λu D=>
 ex 0 u λL=>
 ex 1 u λM=>
 ix 260 q r λN=>
 eH (lQ y 3 N L D) λP E=>
 oN [o,M,B,p,q,C,r] E)) λw F=>U7 w λa b d e f g h=>bn .add 3 h (i 1) λt=>
 oN [a,b,d,e,f,g,t] F) (O 55)
def agv (c:CH) (u:QH) (z:List GV) (H:GH):RS:=U2 z λs p=>
 bn .lss 3 p (i 0) λd=>
 eH (rG d false H (some (p,H))) λv q=>
 eH (rG d false q (some (s,q))) λw r=>
 eH (rG d false r (ob (PL y 189 w) λt=>some (t,r))) λx a=>
 eH (rG d false a (ob (rJ y .geq 3 v x) λj=>some (j,a))) λn b=>
 ob (kE d (.bool true) n) λo=>
 ob (GV.asB o) λm=>jn (bC m (oN [s,p] b) (oR [(.int .i64 (.negSucc 0))] b)) λe k=>U2 e λg h=>jn (nB 0 (u 56 [g,(i 1),h] k)) λf l=>U0 f (oR [(.int .i64 (.negSucc 0))] l)
def L56 (c:CH) (S:QH) (T:List GV) (H:GH):RS:=U3 T λa q b=>jn (ln 189 a λG=>
 bn .lss 3 b G λI=>
 ob (GV.asB I) λD=>jn (bC D (oX 0 [] H) (oN [a,q,b] H)) λm g=>U3 m λd r e=>jn (nB 1 (ix 189 d e λJ=>
 fd 228 0 J λL=>
 ld 3 L g λM=>
 K c 200 [M] g λk h=>
 bn .lss 3 k (i 0) λN=>
 ob (GV.asB N) λE=>jn (bC E (oN [d,r,e,k] h) (oR [(.int .i64 (.negSucc 0))] h)) λn j=>U4 n λs t f u=>bn .sub 3 u (i 1) λO=>
 bn .add 3 t O λl=>
 bn .eql 3 l (i 0) λP=>
 ob (GV.asB P) λF=>jn (bC F (oN [s,l,f] j) (bn .add 3 f (i 1) λQ=>
 oR [Q] j)) λo B=>U3 o λv w x=>oN [v,w,x] B)) λp C=>U3 p λy z A=>bn .add 3 A (i 1) λR=>
 oN [y,z,R] C) (S 56)
def YH:HB:=[(4,57),(14,58),(7,59),(17,60)]
def agw (c:CH) (f:QH) (h:List GV) (H:GH):RS:=U1 h λj=>
 eH (EC j H) λg d=>
 jn (nB 0 (f 64 [g,.snil,(i 0)] d)) λa e=>U1 a λb=>oR [b] e
def L64 (c:CH) (F:QH) (G:List GV) (H:GH):RS:=U3 G λC D E=>jn (fd 36 1 C λp=>
 ld 33 p H λq=>
 ln 33 q λr=>
 bn .lss 3 E r λs=>
 ob (GV.asB s) λo=>jn (bC o (oX 0 [D] H) (oN [C,D,E] H)) λe a=>U3 e λb g d=>jn (nB 1 (fd 36 1 b λt=>
 ld 33 t a λu=>
 ix 33 u d λv=>
 fd 82 1 v λw=>
 ld 3 w a λx=>
 eH (pW y 22 1 [(0,x)] a) λz l=>
 eH (M_ y 22 22 g z l) λA m=>
 oN [b,A,d] m)) λf n=>U3 f λh j k=>bn .add 3 k (i 1) λB=>
 oN [h,j,B] n) (F 64)
def agx (c:CH) (x:QH) (w:List GV) (H:GH):RS:=U2 w λr o=>
 ln 9 r λs=>
 ln 9 o λt=>
 bn .geq 3 s t λb=>
 eH (rG b true H (some (r,H))) λu p=>
 eH (rG b true p (some (o,p))) λv q=>
 eH (rG b true q (ob (PL y 9 v) λf=>some (f,q))) λj a=>
 eH (rG b true a (ob (Bj y 9 u none (some j) a) λg=>some (g,a))) λk d=>
 eH (rG b true d (some (o,d))) λl e=>
 eH (rG b true e (ob (rJ y .eql 9 k l) λh=>some (h,e))) λm i=>
 ob (kE b m (.bool false)) λn=>
 oR [n] i
def agy (c:CH) (g:QH) (d:List GV) (H:GH):RS:=U2 d λe f=>
 K c 265 [e,f] H λb a=>
 oR [b] a
def agz (c:CH) (J:QH) (I:List GV) (H:GH):RS:=U1 I λf=>
 jn (nB 0 (K c 187 [f,(.str 45 1)] H λD z=>
 ob (GV.asB D) λC=>jn (bC C (K c 187 [f,(.str 33 1)] z λt a=>
 ob (GV.asB t) λs=>jn (bC s (oN [f] a) (K c 242 [f] a λu l=>
 eH (pW y 256 1 [(0,u)] l) λv m=>
 K c 215 [(i 19),v] m λw n=>
 oR [w] n)) λb o=>U1 b λg=>oN [g] o) (K c 242 [f] z λE A=>
 eH (pW y 256 1 [(0,E)] A) λF B=>
 K c 215 [(i 18),F] B λG k=>
 oR [G] k)) λd p=>U1 d λh=>oN [h] p)) λe q=>U1 e λj=>K c 266 [j] q λx r=>
 oR [x] r
def agA (c:CH) (h:QH) (f:List GV) (H:GH):RS:=U1 f λg=>
 K c 268 [] H λd a=>
 K c 267 [g,(i 30),d] a λe b=>
 oR [e] b
def agB (c:CH) (ql:QH) (us:List GV) (H:GH):RS:=U1 us λa=>
 jn (nB 0 (bn .eql 3 a (i 43) λt2=>
 ob (GV.asB t2) λq3=>jn (bC q3 (bn .eql 3 a (i 42) λt4=>
 ob (GV.asB t4) λq5=>jn (bC q5 (bn .eql 3 a (i 41) λt6=>
 ob (GV.asB t6) λq7=>jn (bC q7 (bn .eql 3 a (i 35) λt8=>
 ob (GV.asB t8) λq9=>jn (bC q9 (bn .eql 3 a (i 36) λk=>
 ob (GV.asB k) λam=>jn (bC am (bn .eql 3 a (i 37) λl=>
 ob (GV.asB l) λan=>jn (bC an (bn .eql 3 a (i 38) λm=>
 ob (GV.asB m) λao=>jn (bC ao (bn .eql 3 a (i 39) λn=>
 ob (GV.asB n) λap=>jn (bC ap (bn .eql 3 a (i 40) λaA=>
 oN [a,aA] H) (oN [a,n] H)) λs Y=>U2 s λK L=>oN [K,L] Y) (oN [a,m] H)) λt aa=>U2 t λM N=>oN [M,N] aa) (oN [a,l] H)) λu ab=>U2 u λO P=>oN [O,P] ab) (oN [a,k] H)) λv ac=>U2 v λQ R=>oN [Q,R] ac) (oN [a,t8] H)) λw f=>U2 w λd S=>ob (GV.asB S) λaq=>jn (bC aq (bn .eql 3 d (i 33) λo=>
 ob (GV.asB o) λar=>jn (bC ar (bn .eql 3 d (i 34) λaB=>
 oN [d,aB] f) (oN [d,o] f)) λx e=>U2 x λb T=>ob (GV.asB T) λau=>jn (bC au (bn .eql 3 b (i 30) λp=>
 ob (GV.asB p) λav=>jn (bC av (bn .eql 3 b (i 31) λq=>
 ob (GV.asB q) λaw=>jn (bC aw (bn .eql 3 b (i 32) λaC=>
 oN [b,aC] e) (oN [b,q] e)) λy ad=>U2 y λU V=>oN [U,V] ad) (oN [b,p] e)) λz g=>U2 z λh W=>ob (GV.asB W) λax=>jn (bC ax (bn .eql 3 h (i 18) λr=>
 ob (GV.asB r) λay=>jn (bC ay (bn .eql 3 h (i 19) λaD=>
 oN [aD] g) (oN [r] g)) λA j=>U1 A λX=>ob (GV.asB X) λaz=>jn (bC az (oN [] j) (oR [(i 6)] j)) λB ae=>U0 B (oN [] ae)) (oR [(i 5)] g)) λC af=>U0 C (oN [] af)) (oR [(i 4)] e)) λD ag=>U0 D (oN [] ag)) (oR [(i 3)] f)) λE ah=>U0 E (oN [] ah)) (oR [(i 2)] H)) λF ai=>U0 F (oN [] ai)) (oR [(i 1)] H)) λG aj=>U0 G (oN [] aj)) (oR [(i 0)] H)) λI ak=>U0 I (oN [] ak))) λJ al=>U0 J (oR [(i 7)] al)
def agC (c:CH) (h:QH) (e:List GV) (H:GH):RS:=U2 e λf g=>
 bd 228 [(0,f),(1,g)] λb=>
 eH (pW y 189 1 [(0,b)] H) λd a=>
 oR [d] a
def agD (c:CH) (D:QH) (C:List GV) (H:GH):RS:=U1 C λh=>
 jn (nB 0 (bn .lss 3 h (i 1) λu=>
 eH (rG u false H (some (h,H))) λz v=>
 eH (rG u false v (ob (rJ y .gtr 3 z (i 43)) λw=>some (w,v))) λA a=>
 ob (kE u (.bool true) A) λB=>
 ob (GV.asB B) λx=>jn (bC x (bn .leq 3 h (i 17) λr=>
 ob (GV.asB r) λo=>jn (bC o (bn .leq 3 h (i 29) λs=>
 ob (GV.asB s) λp=>jn (bC p (bn .leq 3 h (i 42) λt=>
 ob (GV.asB t) λq=>jn (bC q (oN [] a) (oR [(i 2)] a)) λb j=>U0 b (oN [] j)) (oR [(i 1)] a)) λd k=>U0 d (oN [] k)) (oR [(i 0)] a)) λe l=>U0 e (oN [] l)) (oR [(.int .i64 (.negSucc 0))] a)) λf m=>U0 f (oN [] m))) λg n=>U0 g (oR [(i 3)] n)
def agE (c:CH) (q:QH) (u:List GV) (H:GH):RS:=U2 u λm v=>
 K c 217 [m,(i 0)] H λr n=>
 ln 189 m λs=>
 bn .neq 3 r s λt=>
 ob (GV.asB t) λp=>jn (bC p (oN [m,v] n) (oR [(i 0),(.bool false)] n)) λl o=>U2 l λa e=>ln 189 a λg=>
 bn .sub 3 g (i 1) λh=>
 jn (nB 0 (q 66 [a,e,.snil,h] o)) λd b=>U1 d λf=>ix 22 f (i 0) λj=>
 ld 3 j b λk=>
 oR [k,(.bool true)] b
def L66 (c:CH) (ql:QH) (us:List GV) (H:GH):RS:=U4 us λt u e f=>jn (bn .geq 3 f (i 0) λL=>
 ob (GV.asB L) λJ=>jn (bC J (oX 0 [e] H) (oN [t,u,e,f] H)) λq m=>U4 q λg v a h=>jn (nB 1 (ln 22 a λM=>
 ix 189 g h λN=>
 fd 228 0 N λO=>
 ld 3 O m λP=>
 K c 246 [P] m λQ n=>
 bn .sub 3 M Q λo=>
 ob (Bj y 22 a (some o) none n) λp=>
 ln 22 p λR=>
 jn (nB 2 (ql 67 [g,v,a,h,o,(i 0),p,R,(i 0)] n)) λr b=>U6 r λj k w l x z=>ob (Bj y 22 w none (some x) b) λS=>
 ix 189 j l λT=>
 fd 228 0 T λU=>
 ld 3 U b λV=>
 ob (GV.asF k) λd=>eH (c d.1 (d.2.1++[V,z]++d.2.2) b) λW E=>
 eH (pW y 22 1 [(0,W)] E) λX F=>
 eH (M_ y 22 22 S X F) λY G=>
 oN [j,k,Y,l] G)) λs I=>U4 s λA B C D=>bn .sub 3 D (i 1) λaa=>
 oN [A,B,C,aa] I) (ql 66)
def L67 (c:CH) (O:QH) (P:List GV) (H:GH):RS:=U9 P λd e f g h j s k l=>jn (bn .lss 3 l k λK=>
 ob (GV.asB K) λJ=>jn (bC J (oX 2 [d,e,f,g,h,j] H) (oN [d,e,f,g,h,j,s,k,l] H)) λq o=>U9 q λt u v w x y m z n=>jn (nB 3 (ix 22 m n λL=>
 ld 3 L o λM=>
 ob (PM y M) λN=>
 oN [t,u,v,w,x,N,m,z,n] o)) λr I=>U9 r λA B C D E F G a b=>bn .add 3 b (i 1) λp=>
 oN [A,B,C,D,E,F,G,a,p] I) (O 67)
def agF (c:CH) (e:QH) (b:List GV) (H:GH):RS:=U2 b λf d=>
 bn .add 3 d (i 1) λa=>
 oR [a] H
def agG (c:CH) (m:QH) (k:List GV) (H:GH):RS:=U2 k λl d=>
 K c 250 [l] H λh b=>
 ob (GV.asB h) λg=>jn (bC g (oN [d] b) (bn .add 3 d (i 1) λj=>
 oR [j] b)) λa f=>U1 a λe=>oR [e] f
def agH (c:CH) (l:QH) (k:List GV) (H:GH):RS:=U1 k λd=>
 bn .geq 3 d (i 20) λa=>
 eH (rG a true H (some (d,H))) λg b=>
 eH (rG a true b (ob (rJ y .leq 3 g (i 29)) λe=>some (e,b))) λh f=>
 ob (kE a h (.bool false)) λj=>
 oR [j] f
def agI (c:CH) (l:QH) (k:List GV) (H:GH):RS:=U1 k λd=>
 bn .geq 3 d (i 11) λa=>
 eH (rG a true H (some (d,H))) λg b=>
 eH (rG a true b (ob (rJ y .leq 3 g (i 17)) λe=>some (e,b))) λh f=>
 ob (kE a h (.bool false)) λj=>
 oR [j] f
def agJ (c:CH) (ql:QH) (us:List GV) (H:GH):RS:=U2 us λx1 x2=>
 eH (EC x1 H) λD h4=>
 eH (EC x2 h4) λr m=>
 fd 228 0 r λt7=>
 ld 3 t7 m λe=>
 jn (nB 0 (bn .eql 3 e (i 2) λt9=>
 ob (GV.asB t9) λae=>jn (bC ae (bn .eql 3 e (i 3) λn=>
 ob (GV.asB n) λaf=>jn (bC af (bn .eql 3 e (i 10) λo=>
 ob (GV.asB o) λag=>jn (bC ag (bn .eql 3 e (i 15) λan=>
 oN [D,r,e,an] m) (oN [D,r,e,o] m)) λt W=>U4 t λE F G I=>oN [E,F,G,I] W) (oN [D,r,e,n] m)) λu X=>U4 u λJ K L M=>oN [J,K,L,M] X) (oN [D,r,e,t9] m)) λv d=>U4 v λf g a N=>ob (GV.asB N) λah=>jn (bC ah (bn .eql 3 a (i 4) λp=>
 ob (GV.asB p) λai=>jn (bC ai (bn .eql 3 a (i 11) λq=>
 ob (GV.asB q) λaj=>jn (bC aj (bn .eql 3 a (i 17) λao=>
 oN [f,g,a,ao] d) (oN [f,g,a,q] d)) λw Y=>U4 w λO P Q R=>oN [O,P,Q,R] Y) (oN [f,g,a,p] d)) λx h=>U4 x λj k l S=>ob (GV.asB S) λak=>jn (bC ak (bn .eql 3 l (i 5) λs=>
 ob (GV.asB s) λal=>jn (bC al (bn .eql 3 l (i 12) λap=>
 oN [j,k,ap] h) (oN [j,k,s] h)) λy b=>U3 y λT U V=>ob (GV.asB V) λam=>jn (bC am (oN [] b) (fd 248 1 T λaq=>
 ld 22 aq b λar=>
 fd 228 1 U λau=>
 ld 3 au b λav=>
 ix 22 ar av λaw=>
 ld 3 aw b λax=>
 oR [ax] b)) λz aa=>U0 z (oN [] aa)) (oR [(i 3)] h)) λA ab=>U0 A (oN [] ab)) (oR [(i 2)] d)) λB ac=>U0 B (oN [] ac))) λC ad=>U0 C (oR [(i 1)] ad)
def agK (c:CH) (ql:QH) (us:List GV) (H:GH):RS:=U2 us λp x2=>
 eH (EC x2 H) λt3 D=>
 ix 260 t3 (i 0) λt5=>
 ld 3 t5 D λt6=>
 ix 260 t3 (i 1) λt7=>
 ld 3 t7 D λt8=>
 ix 260 t3 (i 2) λt9=>
 ld 3 t9 D λj=>
 jn (nB 0 (bn .eql 3 p (i 18) λcj=>
 ob (GV.asB cj) λdF=>jn (bC dF (bn .eql 3 p (i 24) λcl=>
 ob (GV.asB cl) λdG=>jn (bC dG (bn .eql 3 p (i 25) λcq=>
 ob (GV.asB cq) λdH=>jn (bC dH (bn .eql 3 p (i 26) λcw=>
 ob (GV.asB cw) λdI=>jn (bC dI (bn .eql 3 p (i 27) λcy=>
 ob (GV.asB cy) λdJ=>jn (bC dJ (bn .eql 3 p (i 28) λcD=>
 ob (GV.asB cD) λdK=>jn (bC dK (bn .eql 3 p (i 29) λdR=>
 oN [t6,t8,j,p,dR] D) (oN [t6,t8,j,p,cD] D)) λcQ dw=>U5 cQ λcY c0 c1 c2 c3=>oN [cY,c0,c1,c2,c3] dw) (oN [t6,t8,j,p,cy] D)) λcR dx=>U5 cR λc4 c5 c6 c7 c8=>oN [c4,c5,c6,c7,c8] dx) (oN [t6,t8,j,p,cw] D)) λcS dy=>U5 cS λc9 da db dc dd=>oN [c9,da,db,dc,dd] dy) (oN [t6,t8,j,p,cq] D)) λcT dz=>U5 cT λde df dg dh di=>oN [de,df,dg,dh,di] dz) (oN [t6,t8,j,p,cl] D)) λcU dA=>U5 cU λdj dk dl dm dn=>oN [dj,dk,dl,dm,dn] dA) (oN [t6,t8,j,p,cj] D)) λcV F=>U5 cV λE af ag q dp=>ob (GV.asB dp) λdL=>jn (bC dL (bn .eql 3 q (i 19) λcO=>
 ob (GV.asB cO) λdM=>jn (bC dM (bn .eql 3 q (i 20) λcP=>
 ob (GV.asB cP) λdN=>jn (bC dN (bn .eql 3 q (i 21) λdU=>
 oN [E,af,ag,q,dU] F) (oN [E,af,ag,q,cP] F)) λcW dC=>U5 cW λdq dr ds dt du=>oN [dq,dr,ds,dt,du] dC) (oN [E,af,ag,q,cO] F)) λcX h=>U5 cX λg v w b dv=>ob (GV.asB dv) λdO=>jn (bC dO (bn .eql 3 b (i 22) λdX=>
 ob (GV.asB dX) λdP=>jn (bC dP (bn .eql 3 b (i 23) λd1=>
 ob (GV.asB d1) λdQ=>jn (bC dQ (bn .eql 3 b (i 30) λV=>
 ob (GV.asB V) λb4=>jn (bC b4 (bn .eql 3 b (i 31) λW=>
 ob (GV.asB W) λb5=>jn (bC b5 (bn .eql 3 b (i 32) λX=>
 ob (GV.asB X) λb6=>jn (bC b6 (bn .eql 3 b (i 33) λY=>
 ob (GV.asB Y) λb7=>jn (bC b7 (bn .eql 3 b (i 34) λck=>
 oN [g,v,w,b,ck] h) (oN [g,v,w,b,Y] h)) λah bG=>U5 ah λaB aC aD aE aF=>oN [aB,aC,aD,aE,aF] bG) (oN [g,v,w,b,X] h)) λai bH=>U5 ai λaG aH aI aJ aK=>oN [aG,aH,aI,aJ,aK] bH) (oN [g,v,w,b,W] h)) λaj bI=>U5 aj λaL aM aN aO aP=>oN [aL,aM,aN,aO,aP] bI) (oN [g,v,w,b,V] h)) λak m=>U5 ak λr s G k aQ=>ob (GV.asB aQ) λb8=>jn (bC b8 (bn .eql 3 k (i 35) λaa=>
 ob (GV.asB aa) λb9=>jn (bC b9 (bn .eql 3 k (i 36) λcr=>
 oN [r,s,G,k,cr] m) (oN [r,s,G,k,aa] m)) λal e=>U5 al λd f l a aR=>ob (GV.asB aR) λca=>jn (bC ca (bn .eql 3 a (i 37) λab=>
 ob (GV.asB ab) λcb=>jn (bC cb (bn .eql 3 a (i 38) λac=>
 ob (GV.asB ac) λcc=>jn (bC cc (bn .eql 3 a (i 39) λad=>
 ob (GV.asB ad) λcd=>jn (bC cd (bn .eql 3 a (i 40) λcx=>
 oN [d,f,l,a,cx] e) (oN [d,f,l,a,ad] e)) λam bN=>U5 am λaS aT aU aV aW=>oN [aS,aT,aU,aV,aW] bN) (oN [d,f,l,a,ac] e)) λan bO=>U5 an λaX aY a0 a1 a2=>oN [aX,aY,a0,a1,a2] bO) (oN [d,f,l,a,ab] e)) λao n=>U5 ao λt u I J a3=>ob (GV.asB a3) λce=>jn (bC ce (bn .eql 3 J (i 41) λae=>
 ob (GV.asB ae) λcf=>jn (bC cf (bn .eql 3 J (i 42) λcE=>
 oN [t,u,I,cE] n) (oN [t,u,I,ae] n)) λap x=>U4 ap λL M a4 a5=>ob (GV.asB a5) λcg=>jn (bC cg (oN [L,M,a4] x) (bn .eql 3 L (i 2) λC=>
 eH (rG C true x (some (M,x))) λcF R=>
 eH (rG C true R (ob (rJ y .eql 3 cF (i 2)) λbD=>some (bD,R))) λcG bR=>
 ob (kE C cG (.bool false)) λcH=>
 K c 269 [cH,(i 2)] bR λcI bS=>
 oR [cI] bS)) λaq bT=>U3 aq λa6 a7 a8=>oN [a6,a7,a8] bT) (bn .eql 3 t (i 1) λB=>
 eH (rG B true n (some (u,n))) λcz Q=>
 eH (rG B true Q (ob (rJ y .eql 3 cz (i 1)) λbB=>some (bB,Q))) λcA bP=>
 ob (kE B cA (.bool false)) λcB=>
 K c 269 [cB,(i 2)] bP λcC bQ=>
 oR [cC] bQ)) λar bU=>U3 ar λa9 ba bb=>oN [a9,ba,bb] bU) (bn .eql 3 d f λA=>
 eH (rG A true e (some (d,e))) λcs P=>
 eH (rG A true P (ob (rJ y .neq 3 cs (i 0)) λbA=>some (bA,P))) λct bL=>
 ob (kE A ct (.bool false)) λcu=>
 K c 269 [cu,(i 2)] bL λcv bM=>
 oR [cv] bM)) λau bV=>U3 au λbc bd be=>oN [bc,bd,be] bV) (bn .eql 3 r (i 1) λz=>
 eH (rG z true m (some (s,m))) λcm O=>
 eH (rG z true O (ob (rJ y .eql 3 cm (i 1)) λbz=>some (bz,O))) λcn bJ=>
 ob (kE z cn (.bool false)) λco=>
 K c 269 [co,(i 1)] bJ λcp bK=>
 oR [cp] bK)) λav bW=>U3 av λbf bg bh=>oN [bf,bg,bh] bW) (bn .eql 3 g (i 2) λch=>
 K c 269 [ch,(i 3)] h λci bF=>
 oR [ci] bF)) λaw bX=>U3 aw λbi bj bk=>oN [bi,bj,bk] bX) (bn .eql 3 g (i 2) λdY=>
 K c 269 [dY,(i 1)] h λd0 dE=>
 oR [d0] dE)) λax bY=>U3 ax λbl bm bo=>oN [bl,bm,bo] bY) (bn .eql 3 g (i 2) λdV=>
 K c 269 [dV,(i 2)] h λdW dD=>
 oR [dW] dD)) λay b0=>U3 ay λbp bq br=>oN [bp,bq,br] b0) (bn .eql 3 E (i 1) λdS=>
 K c 269 [dS,(i 1)] F λdT dB=>
 oR [dT] dB)) λaz b1=>U3 az λbs bt bu=>oN [bs,bt,bu] b1)) λaA S=>U3 aA λbw N bx=>bn .eql 3 bw (i 2) λo=>
 eH (rG o true S (some (N,S))) λcJ T=>
 eH (rG o true T (some (bx,T))) λcK U=>
 eH (rG o true U (ob (rJ y .eql 3 cJ cK) λbE=>some (bE,U))) λcL b2=>
 ob (kE o cL (.bool false)) λcM=>
 K c 269 [cM,N] b2 λcN b3=>
 oR [cN] b3
def agL (c:CH) (J:QH) (N:List GV) (H:GH):RS:=U2 N λn O=>
 ln 189 n λK=>
 bn .gtr 3 K (i 200) λo=>
 eH (rG o false H (some (n,H))) λL F=>
 eH (rG o false F (eH (c 273 [L] F) FD)) λM G=>
 eH (rG o false G (ob (UQ .not M) λI=>some (I,G))) λw d=>
 ob (kE o (.bool true) w) λa=>
 eH (rG a false d (some (n,d))) λx e=>
 eH (rG a false e (eH (c 274 [x] e) FD)) λz f=>
 eH (rG a false f (ob (rJ y .gtr 3 z (i 24)) λr=>some (r,f))) λA g=>
 ob (kE a (.bool true) A) λb=>
 eH (rG b false g (some (n,g))) λB h=>
 eH (rG b false h (eH (c 275 [B] h) FD)) λC j=>
 eH (rG b false j (ob (rJ y .gtr 3 C (i 2)) λs=>some (s,j))) λD k=>
 ob (kE b (.bool true) D) λE=>
 ob (GV.asB E) λv=>jn (bC v (oN [n,O] k) (oR [(.bool false)] k)) λl t=>U2 l λp q=>jn (nB 0 (J 69 [p,q,(i 0)] t)) λm u=>U0 m (oR [(.bool true)] u)
def L69 (c:CH) (E:QH) (F:List GV) (H:GH):RS:=U3 F λa m b=>jn (ln 189 a λx=>
 bn .lss 3 b x λy=>
 ob (GV.asB y) λv=>jn (bC v (oX 0 [] H) (oN [a,m,b] H)) λj g=>U3 j λd e f=>jn (nB 1 (ix 189 d f λz=>
 ld 228 z g λA=>
 K c 276 [A,e] g λB h=>
 ob (UQ .not B) λC=>
 ob (GV.asB C) λw=>jn (bC w (oN [d,e,f] h) (oR [(.bool false)] h)) λk t=>U3 k λn o p=>oN [n,o,p] t)) λl u=>U3 l λq r s=>bn .add 3 s (i 1) λD=>
 oN [q,r,D] u) (E 69)
def agM (c:CH) (g:QH) (e:List GV) (H:GH):RS:=U1 e λf=>
 ob (GV.asB f) λd=>jn (bC d (oN [] H) (oR [(i 1)] H)) λa b=>U0 a (oR [(i 0)] b)
def adY:HB:=[(13,70),(24,71)]
def agN (c:CH) (f:QH) (d:List GV) (H:GH):RS:=U1 d λe=>
 ob (Zn e (i 1073741824)) λa=>
 ob (PM (.int .i64 (.negSucc 1073741823)) a) λb=>
 oR [b] H
def agO (c:CH) (ql:QH) (us:List GV) (H:GH):RS:=U1 us λs=>
 K c 188 [s] H λt2 h3=>
 K c 189 [s] h3 λt4 h5=>
 bn .eql 3 t4 (i 2) λt6=>
 ob (GV.asB t6) λq7=>jn (bC q7 (oN [s,t2] h5) (K c 191 [s] h5 λt8 h9=>
 pt 176 3 t8 λX=>
 K c 245 [(i 1),X] h9 λY x=>
 oR [Y] x)) λn z=>U2 n λb t=>K c 187 [b,(.str 40 1)] z λaa g=>
 ob (GV.asB aa) λT=>jn (bC T (oN [b,t] g) (K c 194 [b] g λab A=>
 K c 149 [b,(.str 41 1)] A λam B=>
 oR [ab] B)) λo C=>U2 o λd u=>K c 187 [d,(.str 113 1)] C λac h=>
 ob (GV.asB ac) λU=>jn (bC U (oN [d,u] h) (K c 285 [d] h λad D=>
 oR [ad] D)) λp E=>U2 p λe f=>K c 286 [f] E λl j=>
 bn .neq 3 l (i 0) λae=>
 ob (GV.asB ae) λV=>jn (bC V (oN [e,f] j) (K c 191 [e] j λan F=>
 K c 245 [l,(i 0)] F λaf G=>
 oR [af] G)) λq I=>U2 q λa v=>K c 287 [v] I λm k=>
 bn .neq 3 m (i 0) λag=>
 ob (GV.asB ag) λW=>jn (bC W (oN [a] k) (K c 191 [a] k λao J=>
 K c 149 [a,(.str 40 1)] J λap L=>
 K c 194 [a] L λah M=>
 K c 149 [a,(.str 41 1)] M λaq N=>
 eH (pW y 256 1 [(0,ah)] N) λai O=>
 K c 215 [m,ai] O λaj P=>
 oR [aj] P)) λr Q=>U1 r λw=>K c 195 [w] Q λak R=>
 K c 245 [(i 5),ak] R λal S=>
 oR [al] S
def agP (c:CH) (m:QH) (o:List GV) (H:GH):RS:=U3 o λg p q=>
 bn .eql 9 g (.str 0 0) λn=>
 ob (GV.asB n) λl=>jn (bC l (oN [g,p,q] H) (oR [(i 0)] H)) λf k=>U3 f λh j a=>ln 128 a λe=>
 jn (nB 0 (m 72 [h,j,a,e,(i 0)] k)) λb d=>U0 b (oR [(i 0)] d)
def L72 (c:CH) (L:QH) (M:List GV) (H:GH):RS:=U5 M λm n o d e=>jn (bn .lss 3 e d λE=>
 ob (GV.asB E) λC=>jn (bC C (oX 0 [] H) (oN [m,n,o,d,e] H)) λj b=>U5 j λf g h p a=>jn (nB 1 (ix 128 h a λF=>
 ld 9 F b λG=>
 bn .eql 9 G f λI=>
 ob (GV.asB I) λD=>jn (bC D (oN [f,g,h,p,a] b) (bn .add 3 g a λJ=>
 oR [J] b)) λk A=>U5 k λq r s t u=>oN [q,r,s,t,u] A)) λl B=>U5 l λv w x y z=>bn .add 3 z (i 1) λK=>
 oN [v,w,x,y,K] B) (L 72)
def agQ (c:CH) (e:QH) (d:List GV) (H:GH):RS:=U0 d (eH (pW y 128 13 [(0,(.str 42 1)),(1,(.str 47 1)),(2,(.str 37 1)),(3,(.str 43 1)),(4,(.str 45 1)),(5,(.str 15677 2)),(6,(.str 15649 2)),(7,(.str 60 1)),(8,(.str 15676 2)),(9,(.str 62 1)),(10,(.str 15678 2)),(11,(.str 9766 2)),(12,(.str 31868 2))] H) λb a=>
 oR [b] a)
def agS (c:CH) (h:QH) (e:List GV) (H:GH):RS:=U2 e λf g=>
 ob (GV.asB f) λd=>jn (bC d (oN [] H) (oR [g] H)) λa b=>U0 a (oR [(i 0)] b)
def agT (c:CH) (f:QH) (h:List GV) (H:GH):RS:=U1 h λb=>
 ln 22 b λg=>
 jn (nB 0 (f 73 [(i 0),b,g,(i 0)] H)) λa e=>U1 a λd=>oR [d] e
def L73 (c:CH) (G:QH) (I:List GV) (H:GH):RS:=U4 I λC F D E=>jn (bn .lss 3 E D λw=>
 ob (GV.asB w) λu=>jn (bC u (oX 0 [C] H) (oN [C,F,D,E] H)) λg d=>U4 g λe a f b=>jn (nB 1 (ix 22 a b λx=>
 ld 3 x d λy=>
 bn .neq 3 y (i 0) λz=>
 ob (GV.asB z) λv=>jn (bC v (oN [e,a,f,b] d) (bn .add 3 e (i 1) λA=>
 oN [A,a,f,b] d)) λh s=>U4 h λk l m n=>oN [k,l,m,n] s)) λj t=>U4 j λo p q r=>bn .add 3 r (i 1) λB=>
 oN [o,p,q,B] t) (G 73)
def agU (c:CH) (e:QH) (g:List GV) (H:GH):RS:=U2 g λb h=>
 ln 22 b λf=>
 jn (nB 0 (e 74 [b,h,f,(i 0)] H)) λa d=>U0 a (oR [(.int .i64 (.negSucc 0))] d)
def L74 (c:CH) (I:QH) (J:List GV) (H:GH):RS:=U4 J λF G D E=>jn (bn .lss 3 E D λy=>
 ob (GV.asB y) λw=>jn (bC w (oX 0 [] H) (oN [F,G,D,E] H)) λh f=>U4 h λd e l a=>jn (nB 1 (ix 22 d a λz=>
 ld 3 z f λA=>
 ob (GV.asF e) λb=>eH (c b.1 (b.2.1++[A]++b.2.2) f) λB g=>
 ob (GV.asB B) λx=>jn (bC x (oN [d,e,l,a] g) (oR [a] g)) λj u=>U4 j λm n o p=>oN [m,n,o,p] u)) λk v=>U4 k λq r s t=>bn .add 3 t (i 1) λC=>
 oN [q,r,s,C] v) (I 74)
def agV (c:CH) (e:QH) (b:List GV) (H:GH):RS:=U1 b λd=>
 bn .neq 3 d (i 0) λa=>
 oR [a] H
def agW (c:CH) (g:QH) (j:List GV) (H:GH):RS:=U1 j λb=>
 ln 22 b λh=>
 jn (nB 0 (g 75 [(.int .i64 (.negSucc 1073741823)),(.int .i64 (.negSucc 1073741823)),b,h,(i 0)] H)) λa f=>U2 a λd e=>oR [d,e] f
def L75 (c:CH) (L:QH) (M:List GV) (H:GH):RS:=U5 M λI J K g h=>jn (bn .lss 3 h g λC=>
 ob (GV.asB C) λA=>jn (bC A (oX 0 [I,J] H) (oN [I,J,K,g,h] H)) λk e=>U5 k λa n b j d=>jn (nB 1 (ix 22 b d λD=>
 ld 3 D e λf=>
 bn .gtr 3 f a λE=>
 ob (GV.asB E) λB=>jn (bC B (ob (PM n f) λF=>
 oN [a,F,b,j,d] e) (oN [f,a,b,j,d] e)) λl y=>U5 l λo p q r s=>oN [o,p,q,r,s] y)) λm z=>U5 m λt u v w x=>bn .add 3 x (i 1) λG=>
 oN [t,u,v,w,G] z) (L 75)
def agX (c:CH) (e:QH) (f:List GV) (H:GH):RS:=U1 f λg=>
 jn (nB 0 (e 76 [g,(i 0)] H)) λa d=>U1 a λb=>oR [b] d
def L76 (c:CH) (p:QH) (r:List GV) (H:GH):RS:=U2 r λm h=>jn (K c 290 [m,h] H λq n=>
 ob (GV.asB q) λo=>jn (bC o (oX 0 [h] n) (oN [m,h] n)) λa j=>U2 a λd e=>jn (nB 1 (bn .add 3 e (i 1) λl=>
 oN [d,l] j)) λb k=>U2 b λf g=>oN [f,g] k) (p 76)
def agY (c:CH) (h:QH) (f:List GV) (H:GH):RS:=U1 f λg=>
 K c 292 [] H λd a=>
 K c 267 [g,(i 2),d] a λe b=>
 oR [e] b
def agZ (c:CH) (h:QH) (f:List GV) (H:GH):RS:=U1 f λg=>
 K c 293 [] H λd a=>
 K c 267 [g,(i 20),d] a λe b=>
 oR [e] b
def ag_ (c:CH) (f:QH) (g:List GV) (H:GH):RS:=U1 g λh=>
 jn (nB 0 (f 77 [h,(i 0),(i 0),.snil,.snil,(i 0)] H)) λa e=>U2 a λb d=>oR [b,d] e
def L77 (c:CH) (ql:QH) (us:List GV) (H:GH):RS:=U6 us λa6 a7 a8 a9 u h=>jn (ln 189 a6 λad=>
 bn .lss 3 h ad λae=>
 ob (GV.asB ae) λac=>jn (bC ac (oX 0 [a7,a8] H) (oN [a6,a7,a8,a9,u,h] H)) λq b=>U6 q λe v w x z f=>jn (nB 1 (ix 189 e f λaf=>
 fd 228 0 af λn=>
 ld 3 n b λag=>
 ob (Option.casesOn (motive:=λ_=>Option (Option (Nat×Nat))) (ob (GV.asP n) λp=>some p.1) (some none) λm=>ob (GH.ver b m) λab=>some (some (m,ab))) λav=>
 K c 200 [ag] b λah k=>
 ob (some ()) λ_=>
 eH (pW y 22 1 [(0,ah)] k) λai l=>
 ob (some ()) λ_=>
 eH (M_ y 22 22 x ai l) λaj g=>
 ob (some ()) λ_=>
 ix 189 e f λak=>
 fd 228 0 ak λo=>
 ld 3 o g λal=>
 ob (Option.casesOn (motive:=λ_=>Option (Option (Nat×Nat))) (ob (GV.asP o) λp=>some p.1) (some none) λa=>ob (GH.ver g a) λd=>vck l a d (vck k a d (vck b a d (some (some (a,d)))))) λaw=>
 K c 202 [al] g λam U=>
 ob (some ()) λ_=>
 eH (pW y 272 1 [(0,am)] U) λan V=>
 ob (some ()) λ_=>
 eH (M_ y 272 272 z an V) λao W=>
 ob (some ()) λ_=>
 jn (nB 2 (ql 78 [e,v,w,aj,ao,f,(i 0),(i 0)] W)) λr X=>U7 r λA B C j D E F=>ln 22 j λap=>
 ob (PM B ap) λaq=>
 ob (PM C F) λar=>
 jn (nB 4 (ql 79 [A,aq,ar,j,D,E] X)) λs Y=>U6 s λG I J L M N=>oN [G,I,J,L,M,N] Y)) λt aa=>U6 t λO P Q R S T=>bn .add 3 T (i 1) λau=>
 oN [O,P,Q,R,S,au] aa) (ql 77)
def L78 (c:CH) (X:QH) (Y:List GV) (H:GH):RS:=U8 Y λy z A B a C D E=>jn (ln 272 a λT=>
 bn .lss 3 E T λU=>
 ob (GV.asB U) λR=>jn (bC R (oX 2 [y,z,A,B,a,C,D] H) (oN [y,z,A,B,a,C,D,E] H)) λQ e=>U8 Q λF G I J b K L d=>jn (nB 3 (ix 272 b d λV=>
 ld 4 V e λW=>
 ob (GV.asB W) λS=>jn (bC S (oN [F,G,I,J,b,K,L,d] e) (bn .add 3 L (i 1) λO=>
 oN [F,G,I,J,b,K,O,d] e)) λf M=>U8 f λh j k l m n o p=>oN [h,j,k,l,m,n,o,p] M)) λg N=>U8 g λq r s t u v w x=>bn .add 3 x (i 1) λP=>
 oN [q,r,s,t,u,v,w,P] N) (X 78)
def L79 (c:CH) (ql:QH) (us:List GV) (H:GH):RS:=U6 us λg h j d k l=>jn (ln 22 d λac=>
 bn .gtr 3 ac (i 0) λa=>
 eH (rG a true H (some (d,H))) λad s=>
 eH (rG a true s (some (d,s))) λae t=>
 eH (rG a true t (ob (PL y 22 ae) λR=>some (R,t))) λaf u=>
 eH (rG a true u (ob (rJ y .sub 3 af (i 1)) λS=>some (S,u))) λag v=>
 eH (rG a true v (ob (Ms y 22 ad ag) λT=>some (T,v))) λah f=>
 eH (rG a true f (ob (sR y 3 ah f) λU=>some (U,f))) λai w=>
 eH (rG a true w (ob (rJ y .eql 3 ai (i 0)) λV=>some (V,w))) λaj x=>
 ob (kE a aj (.bool false)) λak=>
 ob (GV.asB ak) λaa=>jn (bC aa (oX 4 [g,h,j,d,k,l] x) (oN [g,h,j,d,k,l] x)) λB e=>U6 B λm n o p q r=>jn (nB 5 (ln 22 p λal=>
 bn .sub 3 al (i 1) λam=>
 ob (Bj y 22 p none (some am) e) λb=>
 ln 272 q λan=>
 bn .sub 3 an (i 1) λao=>
 ob (Bj y 272 q none (some ao) e) λz=>
 ln 22 b λap=>
 bn .gtr 3 ap (i 0) λaq=>
 ob (GV.asB aq) λab=>jn (bC ab (oN [m,n,o,b,z,r] e) (ln 22 b λar=>
 bn .sub 3 ar (i 1) λA=>
 ix 22 b A λau=>
 ld 3 au e λav=>
 bn .sub 3 av (i 1) λaw=>
 ix 22 b A λax=>
 eH (lQ y 3 ax aw e) λay W=>
 oN [m,n,o,b,z,r] W)) λC X=>U6 C λE F G I J K=>oN [E,F,G,I,J,K] X)) λD Y=>U6 D λL M N O P Q=>oN [L,M,N,O,P,Q] Y) (ql 79)
def aha (c:CH) (h:QH) (e:List GV) (H:GH):RS:=U2 e λf g=>
 K c 178 [f,g] H λb a=>
 bn .geq 3 b (i 0) λd=>
 oR [d] a
def ahb (c:CH) (h:QH) (f:List GV) (H:GH):RS:=U1 f λg=>
 K c 294 [] H λd a=>
 K c 267 [g,(i 13),d] a λe b=>
 oR [e] b
def ahc (c:CH) (e:QH) (d:List GV) (H:GH):RS:=U0 d (eH (pW y 128 5 [(0,(.str 25705 2)),(1,(.str 6776164 3)),(2,(.str 1953460082 4)),(3,(.str 127991760381303 6)),(4,(.str 1801675106 4))] H) λb a=>
 oR [b] a)
def d0:(Code×Cx)×fV:=gD1 (cY Tryz.f18 [1,1,1,1,1,0,1,0,0],iB Tryz.f18 [(0,0)]) 1 0 1
def d1:(Code×Cx)×fV:=gD (cY Tryz.f18 [1,1,1,1,1,0,1,0,0,1,1,0,0,1,1,1,0,0],iB Tryz.f18 [(2,15762598695797892),(1,15762598695797892),(0,0)]) 1
def d2:(Code×Cx)×fV:=gD1 (cY Tryz.f22 [1,1,0,1,0,0],iB Tryz.f22 [(0,56)]) 1 2 3
def d3:(Code×Cx)×fV:=gD (cY Tryz.f22 [1,1,0,1,0,0,1,1,0,0,1,1,1,0,0],iB Tryz.f22 [(2,1835064),(1,1835064),(0,56)]) 3
def d4:(Code×Cx)×fV:=gD (cY Tryz.f26 [1,1,1,1,0,1,0,0],iB Tryz.f26 [(0,9216)]) 4
def d5:(Code×Cx)×fV:=gD1 (cY Tryz.f36 [1,1,1,1,0,1,0,0],iB Tryz.f36 [(0,1088)]) 1 5 6
def d6:(Code×Cx)×fV:=gD (cY Tryz.f36 [1,1,1,1,0,1,0,0,1,1,0,0,1,1,1,1,0,0],iB Tryz.f36 [(2,120259085380),(1,120259085380),(0,1088)]) 6
def d7:(Code×Cx)×fV:=((cY Tryz.f48 [1,1,0,1,0,0],iB Tryz.f48 [(0,32)]),L7)
def d8:(Code×Cx)×fV:=((cY Tryz.f48 [1,1,0,1,0,0,1,1,0,0,1,1,1,0,0],iB Tryz.f48 [(2,49196),(1,49196),(0,32)]),L8)
def d9:(Code×Cx)×fV:=gD (cY Tryz.f50 [1,1,0,1,0,0],iB Tryz.f50 [(0,0)]) 9
def d10:(Code×Cx)×fV:=gD (cY Tryz.f57 [1,1,0,1,0,0],iB Tryz.f57 [(0,8)]) 10
def d11:(Code×Cx)×fV:=gD (cY Tryz.f61 [1,1,0,1,0,0],iB Tryz.f61 [(0,0)]) 11
def d12:(Code×Cx)×fV:=((cY Tryz.f76 [1,1,0,1,0,0],iB Tryz.f76 [(0,8)]),L12)
def d13:(Code×Cx)×fV:=((cY Tryz.f93 [1,1,1,0,1,0,0],iB Tryz.f93 [(0,32)]),L13)
def d14:(Code×Cx)×fV:=Ui (cY Tryz.f96 [1,1,1,0,1,0,0],iB Tryz.f96 [(0,2)]) s96
def d15:(Code×Cx)×fV:=Ui (cY Tryz.f96 [1,1,1,1,0,1,0,0],iB Tryz.f96 [(2,2)]) s96
def d16:(Code×Cx)×fV:=Ui (cY Tryz.f96 [1,1,1,1,1,1,0,1,0,0],iB Tryz.f96 [(4,0)]) s96
def d17:(Code×Cx)×fV:=((cY Tryz.f97 [1,1,0,1,0,0],iB Tryz.f97 [(0,0)]),L17)
def d18:(Code×Cx)×fV:=((cY Tryz.f98 [1,0,1,0,0],iB Tryz.f98 [(0,0)]),L18)
def d19:(Code×Cx)×fV:=gD1 (cY Tryz.f101 [1,1,0,1,0,0],iB Tryz.f101 [(0,12)]) 1 19 20
def d20:(Code×Cx)×fV:=gD (cY Tryz.f101 [1,1,0,1,0,0,1,1,0,0,1,1,1,0,1,0,0],iB Tryz.f101 [(2,49198),(1,49166),(0,12)]) 20
def d21:(Code×Cx)×fV:=gD (cY Tryz.f102 [1,0,1,0,0],iB Tryz.f102 [(0,0)]) 21
def d22:(Code×Cx)×fV:=gD (cY Tryz.f103 [1,1,0,1,0,0],iB Tryz.f103 [(0,32)]) 22
def d23:(Code×Cx)×fV:=gD (cY Tryz.f107 [1,1,1,0,1,0,0],iB Tryz.f107 [(0,0)]) 23
def d24:(Code×Cx)×fV:=gD (cY Tryz.f110 [1,0,1,0,0],iB Tryz.f110 [(0,0)]) 24
def d25:(Code×Cx)×fV:=gD (cY Tryz.f119 [1,1,0,1,0,0],iB Tryz.f119 [(0,0)]) 25
def d26:(Code×Cx)×fV:=gD1 (cY Tryz.f120 [1,1,0,1,0,0],iB Tryz.f120 [(0,32)]) 1 26 27
def d27:(Code×Cx)×fV:=gD (cY Tryz.f120 [1,1,0,1,0,0,1,1,0,0,1,1,1,0,0],iB Tryz.f120 [(2,3670056),(1,3670056),(0,32)]) 27
def d28:(Code×Cx)×fV:=gD (cY Tryz.f123 [1,1,0,1,0,0],iB Tryz.f123 [(0,512)]) 28
def d29:(Code×Cx)×fV:=gD (cY Tryz.f128 [1,1,1,0,1,0,0],iB Tryz.f128 [(0,8)]) 29
def d30:(Code×Cx)×fV:=((cY Tryz.f145 [1,0,0,0],iB Tryz.f145 [(0,2)]),L30)
def d31:(Code×Cx)×fV:=((cY Tryz.f145 [1,0,0,0,1,0,1,0,1,1,1,0,0,0],iB Tryz.f145 [(3,3),(2,3),(1,3),(0,2)]),L31)
def d32:(Code×Cx)×fV:=gD (cY Tryz.f150 [1,1,1,0,1,0,0],iB Tryz.f150 [(0,33)]) 32
def d33:(Code×Cx)×fV:=((cY Tryz.f151 [1,0,0],iB Tryz.f151 [(0,0)]),L33)
def d34:(Code×Cx)×fV:=gD (cY Tryz.f153 [1,1,1,1,1,0,0,0],iB Tryz.f153 [(0,5)]) 34
def d35:(Code×Cx)×fV:=Ui (cY Tryz.f156 [1,1,1,0,1,0,0],iB Tryz.f156 [(0,2)]) adX
def d36:(Code×Cx)×fV:=Ui (cY Tryz.f156 [1,1,1,1,1,0,1,0,0],iB Tryz.f156 [(2,0)]) adX
def d37:(Code×Cx)×fV:=gD (cY Tryz.f158 [1,1,1,0,1,0,0],iB Tryz.f158 [(0,0)]) 37
def d38:(Code×Cx)×fV:=gD (cY Tryz.f159 [1,1,0,1,0,0],iB Tryz.f159 [(0,8)]) 38
def d39:(Code×Cx)×fV:=((cY Tryz.f160 [1,1,0,1,0,0],iB Tryz.f160 [(0,0)]),L39)
def d40:(Code×Cx)×fV:=((cY Tryz.f178 [1,0,1,0,0],iB Tryz.f178 [(0,0)]),L40)
def d41:(Code×Cx)×fV:=((cY Tryz.f181 [1,1,0,0,0],iB Tryz.f181 [(0,32)]),L41)
def d42:(Code×Cx)×fV:=gD (cY Tryz.f185 [1,1,1,0,1,0,0],iB Tryz.f185 [(0,16)]) 42
def d43:(Code×Cx)×fV:=((cY Tryz.f186 [1,0,1,0,0],iB Tryz.f186 [(0,1)]),L43)
def d44:(Code×Cx)×fV:=((cY Tryz.f190 [1,1,0,1,0,0],iB Tryz.f190 [(0,1)]),L44)
def d45:(Code×Cx)×fV:=((cY Tryz.f198 [1,1,0,1,0,0],iB Tryz.f198 [(0,1)]),L45)
def d46:(Code×Cx)×fV:=((cY Tryz.f199 [1,1,0,1,0,0],iB Tryz.f199 [(0,7)]),L46)
def d47:(Code×Cx)×fV:=((cY Tryz.f206 [1,1,1,0,1,0,0],iB Tryz.f206 [(0,128)]),L47)
def d48:(Code×Cx)×fV:=Ui (cY Tryz.f207 [1,1,1,0,1,0,0],iB Tryz.f207 [(0,2)]) abB
def d49:(Code×Cx)×fV:=Ui (cY Tryz.f207 [1,1,1,1,0,1,0,0],iB Tryz.f207 [(2,2)]) abB
def d50:(Code×Cx)×fV:=Ui (cY Tryz.f207 [1,1,1,1,1,0,1,0,0],iB Tryz.f207 [(4,0)]) abB
def d51:(Code×Cx)×fV:=((cY Tryz.f214 [1,1,1,0,0],iB Tryz.f214 [(0,16)]),L51)
def d52:(Code×Cx)×fV:=((cY Tryz.f215 [1,1,0,1,0,0],iB Tryz.f215 [(0,32)]),L52)
def d53:(Code×Cx)×fV:=((cY Tryz.f216 [1,0,1,0,0],iB Tryz.f216 [(0,0)]),L53)
def d54:(Code×Cx)×fV:=((cY Tryz.f217 [1,1,0,1,0,0],iB Tryz.f217 [(0,0)]),L54)
def d55:(Code×Cx)×fV:=((cY Tryz.f221 [1,1,1,1,1,1,0,1,0,0],iB Tryz.f221 [(0,1408)]),L55)
def d56:(Code×Cx)×fV:=((cY Tryz.f228 [1,1,1,0,1,0,0],iB Tryz.f228 [(0,0)]),L56)
def d57:(Code×Cx)×fV:=Ui (cY Tryz.f230 [1,1,0,1,0,0],iB Tryz.f230 [(0,2)]) YH
def d58:(Code×Cx)×fV:=Ui (cY Tryz.f230 [1,1,1,0,1,0,0],iB Tryz.f230 [(4,0)]) YH
def d59:(Code×Cx)×fV:=Ui (cY Tryz.f230 [1,1,0,1,0,0,1,0,0,0,1,0,0],iB Tryz.f230 [(2,10),(1,10),(0,2)]) YH
def d60:(Code×Cx)×fV:=Ui (cY Tryz.f230 [1,1,1,0,1,0,0,1,0,0,0,1,0,0],iB Tryz.f230 [(6,34),(5,34),(4,0)]) YH
def d61:(Code×Cx)×fV:=gD1 (cY Tryz.f232 [1,1,0,1,0,0],iB Tryz.f232 [(0,0)]) 1 61 62
def d62:(Code×Cx)×fV:=gD (cY Tryz.f232 [1,1,0,1,0,0,1,0,0,1,1,0,0],iB Tryz.f232 [(2,38),(1,38),(0,0)]) 62
def d63:(Code×Cx)×fV:=gD (cY Tryz.f233 [1,1,0,1,0,0],iB Tryz.f233 [(0,0)]) 63
def d64:(Code×Cx)×fV:=((cY Tryz.f234 [1,1,0,1,0,0],iB Tryz.f234 [(0,8)]),L64)
def d65:(Code×Cx)×fV:=gD (cY Tryz.f237 [1,1,1,0,1,0,0],iB Tryz.f237 [(0,903)]) 65
def d66:(Code×Cx)×fV:=((cY Tryz.f247 [1,1,1,0,1,0,0],iB Tryz.f247 [(0,64)]),L66)
def d67:(Code×Cx)×fV:=((cY Tryz.f247 [1,1,1,0,1,0,0,1,0,0,1,1,0,1,0,0],iB Tryz.f247 [(2,963),(1,195),(0,64)]),L67)
def d68:(Code×Cx)×fV:=gD (cY Tryz.f255 [1,1,0,1,0,0],iB Tryz.f255 [(0,1)]) 68
def d69:(Code×Cx)×fV:=((cY Tryz.f257 [1,1,0,1,0,0],iB Tryz.f257 [(0,0)]),L69)
def d70:(Code×Cx)×fV:=Ui (cY Tryz.f261 [1,0,1,0,1,1,1,1,1,1,1,1,1,0,1,0,1,0,0],iB Tryz.f261 [(1,32),(0,2)]) adY
def d71:(Code×Cx)×fV:=Ui (cY Tryz.f261 [1,0,1,0,1,1,1,1,1,1,1,1,1,1,1,1,1,0,1,0,1,0,0],iB Tryz.f261 [(3,1024),(0,2)]) adY
def d72:(Code×Cx)×fV:=((cY Tryz.f267 [1,1,0,1,0,0],iB Tryz.f267 [(0,0)]),L72)
def d73:(Code×Cx)×fV:=((cY Tryz.f280 [1,1,0,1,0,0],iB Tryz.f280 [(0,8)]),L73)
def d74:(Code×Cx)×fV:=((cY Tryz.f281 [1,0,1,0,0],iB Tryz.f281 [(0,0)]),L74)
def d75:(Code×Cx)×fV:=((cY Tryz.f283 [1,1,0,1,0,0],iB Tryz.f283 [(0,12)]),L75)
def d76:(Code×Cx)×fV:=((cY Tryz.f284 [1,1,0,0,0],iB Tryz.f284 [(0,8)]),L76)
def d77:(Code×Cx)×fV:=((cY Tryz.f289 [1,1,1,1,0,1,0,0],iB Tryz.f289 [(0,48)]),L77)
def d78:(Code×Cx)×fV:=((cY Tryz.f289 [1,1,1,1,0,1,0,0,1,0,0,1,1,0,1,0,0],iB Tryz.f289 [(2,1009),(1,497),(0,48)]),L78)
def d79:(Code×Cx)×fV:=((cY Tryz.f289 [1,1,1,1,0,1,0,0,1,0,0,1,1,1,1,0,0],iB Tryz.f289 [(4,497),(1,497),(0,48)]),L79)
def Uy (f:Nat):Option (Func×fV):=(tN f 198 (tN f 128 (tN f 67 (tN f 47 (tN f 20 (tN f 14 (tN f 10 (tL f 9 (Tryz.f9,(gB Tryz.f9))) (tL f 10 (Tryz.f10,(gB Tryz.f10)))) (tN f 16 (tL f 14 (Tryz.f14,(gB Tryz.f14))) (tN f 18 (tL f 16 (Tryz.f16,(gB Tryz.f16))) (tL f 18 (Tryz.f18,(Kt Tryz.f18 0)))))) (tN f 26 (tN f 22 (tL f 20 (Tryz.f20,(gB Tryz.f20))) (tL f 22 (Tryz.f22,(Kt Tryz.f22 2)))) (tN f 36 (tL f 26 (Tryz.f26,(Kt Tryz.f26 4))) (tN f 43 (tL f 36 (Tryz.f36,(Kt Tryz.f36 5))) (tL f 43 (Tryz.f43,(gB Tryz.f43))))))) (tN f 52 (tN f 49 (tN f 48 (tL f 47 (Tryz.f47,(gB Tryz.f47))) (tL f 48 (Tryz.f48,B48))) (tN f 50 (tL f 49 (Tryz.f49,B49)) (tN f 51 (tL f 50 (Tryz.f50,(Kt Tryz.f50 9))) (tL f 51 (Tryz.f51,B51))))) (tN f 60 (tN f 56 (tL f 52 (Tryz.f52,B52)) (tN f 57 (tL f 56 (Tryz.f56,(gB Tryz.f56))) (tL f 57 (Tryz.f57,(Kt Tryz.f57 10))))) (tN f 61 (tL f 60 (Tryz.f60,B60)) (tN f 66 (tL f 61 (Tryz.f61,(Kt Tryz.f61 11))) (tL f 66 (Tryz.f66,(gB Tryz.f66)))))))) (tN f 101 (tN f 93 (tN f 76 (tN f 75 (tL f 67 (Tryz.f67,(gB Tryz.f67))) (tL f 75 (Tryz.f75,(gB Tryz.f75)))) (tN f 77 (tL f 76 (Tryz.f76,B76)) (tN f 78 (tL f 77 (Tryz.f77,(gB Tryz.f77))) (tL f 78 (Tryz.f78,(gB Tryz.f78)))))) (tN f 96 (tN f 95 (tL f 93 (Tryz.f93,B93)) (tL f 95 (Tryz.f95,(gB Tryz.f95)))) (tN f 97 (tL f 96 (Tryz.f96,(gBs Tryz.f96 s96))) (tN f 98 (tL f 97 (Tryz.f97,B97)) (tL f 98 (Tryz.f98,B98)))))) (tN f 109 (tN f 103 (tN f 102 (tL f 101 (Tryz.f101,(Kt Tryz.f101 19))) (tL f 102 (Tryz.f102,(Kt Tryz.f102 21)))) (tN f 107 (tL f 103 (Tryz.f103,(Kt Tryz.f103 22))) (tN f 108 (tL f 107 (Tryz.f107,(Kt Tryz.f107 23))) (tL f 108 (Tryz.f108,(gB Tryz.f108)))))) (tN f 119 (tN f 110 (tL f 109 (Tryz.f109,(gB Tryz.f109))) (tN f 111 (tL f 110 (Tryz.f110,(Kt Tryz.f110 24))) (tL f 111 (Tryz.f111,(gB Tryz.f111))))) (tN f 120 (tL f 119 (Tryz.f119,(Kt Tryz.f119 25))) (tN f 123 (tL f 120 (Tryz.f120,(Kt Tryz.f120 26))) (tL f 123 (Tryz.f123,(Kt Tryz.f123 28))))))))) (tN f 169 (tN f 156 (tN f 151 (tN f 146 (tN f 145 (tL f 128 (Tryz.f128,(Kt Tryz.f128 29))) (tL f 145 (Tryz.f145,afK))) (tN f 149 (tL f 146 (Tryz.f146,afL)) (tN f 150 (tL f 149 (Tryz.f149,(gB Tryz.f149))) (tL f 150 (Tryz.f150,(Kt Tryz.f150 32)))))) (tN f 153 (tN f 152 (tL f 151 (Tryz.f151,afM)) (tL f 152 (Tryz.f152,(gB Tryz.f152)))) (tN f 154 (tL f 153 (Tryz.f153,(Kt Tryz.f153 34))) (tN f 155 (tL f 154 (Tryz.f154,afN)) (tL f 155 (Tryz.f155,(gB Tryz.f155))))))) (tN f 161 (tN f 158 (tN f 157 (tL f 156 (Tryz.f156,(gBs Tryz.f156 adX))) (tL f 157 (Tryz.f157,(gB Tryz.f157)))) (tN f 159 (tL f 158 (Tryz.f158,(Kt Tryz.f158 37))) (tN f 160 (tL f 159 (Tryz.f159,(Kt Tryz.f159 38))) (tL f 160 (Tryz.f160,afO))))) (tN f 165 (tN f 162 (tL f 161 (Tryz.f161,(gB Tryz.f161))) (tN f 163 (tL f 162 (Tryz.f162,afP)) (tL f 163 (Tryz.f163,(gB Tryz.f163))))) (tN f 166 (tL f 165 (Tryz.f165,(gB Tryz.f165))) (tN f 168 (tL f 166 (Tryz.f166,(gB Tryz.f166))) (tL f 168 (Tryz.f168,afQ))))))) (tN f 187 (tN f 182 (tN f 173 (tN f 172 (tL f 169 (Tryz.f169,afR)) (tL f 172 (Tryz.f172,(gB Tryz.f172)))) (tN f 178 (tL f 173 (Tryz.f173,(gB Tryz.f173))) (tN f 181 (tL f 178 (Tryz.f178,afS)) (tL f 181 (Tryz.f181,afT))))) (tN f 184 (tN f 183 (tL f 182 (Tryz.f182,afU)) (tL f 183 (Tryz.f183,afV))) (tN f 185 (tL f 184 (Tryz.f184,afW)) (tN f 186 (tL f 185 (Tryz.f185,(Kt Tryz.f185 42))) (tL f 186 (Tryz.f186,afX)))))) (tN f 192 (tN f 189 (tN f 188 (tL f 187 (Tryz.f187,afY)) (tL f 188 (Tryz.f188,afZ))) (tN f 190 (tL f 189 (Tryz.f189,af_)) (tN f 191 (tL f 190 (Tryz.f190,aga)) (tL f 191 (Tryz.f191,agb))))) (tN f 195 (tN f 193 (tL f 192 (Tryz.f192,(gB Tryz.f192))) (tN f 194 (tL f 193 (Tryz.f193,(gB Tryz.f193))) (tL f 194 (Tryz.f194,(gB Tryz.f194))))) (tN f 196 (tL f 195 (Tryz.f195,(gB Tryz.f195))) (tN f 197 (tL f 196 (Tryz.f196,agc)) (tL f 197 (Tryz.f197,agd))))))))) (tN f 251 (tN f 230 (tN f 213 (tN f 207 (tN f 200 (tN f 199 (tL f 198 (Tryz.f198,age)) (tL f 199 (Tryz.f199,agf))) (tN f 202 (tL f 200 (Tryz.f200,agh)) (tN f 206 (tL f 202 (Tryz.f202,agi)) (tL f 206 (Tryz.f206,agj))))) (tN f 210 (tN f 209 (tL f 207 (Tryz.f207,(gBs Tryz.f207 abB))) (tL f 209 (Tryz.f209,agk))) (tN f 211 (tL f 210 (Tryz.f210,agl)) (tN f 212 (tL f 211 (Tryz.f211,agm)) (tL f 212 (Tryz.f212,(gB Tryz.f212))))))) (tN f 218 (tN f 215 (tN f 214 (tL f 213 (Tryz.f213,(gB Tryz.f213))) (tL f 214 (Tryz.f214,agn))) (tN f 216 (tL f 215 (Tryz.f215,ago)) (tN f 217 (tL f 216 (Tryz.f216,agp)) (tL f 217 (Tryz.f217,agq))))) (tN f 221 (tN f 219 (tL f 218 (Tryz.f218,agr)) (tN f 220 (tL f 219 (Tryz.f219,ags)) (tL f 220 (Tryz.f220,agt)))) (tN f 228 (tL f 221 (Tryz.f221,agu)) (tN f 229 (tL f 228 (Tryz.f228,agv)) (tL f 229 (Tryz.f229,(gB Tryz.f229)))))))) (tN f 240 (tN f 235 (tN f 232 (tN f 231 (tL f 230 (Tryz.f230,(gBs Tryz.f230 YH))) (tL f 231 (Tryz.f231,(gB Tryz.f231)))) (tN f 233 (tL f 232 (Tryz.f232,(Kt Tryz.f232 61))) (tN f 234 (tL f 233 (Tryz.f233,(Kt Tryz.f233 63))) (tL f 234 (Tryz.f234,agw))))) (tN f 237 (tN f 236 (tL f 235 (Tryz.f235,(gB Tryz.f235))) (tL f 236 (Tryz.f236,(gB Tryz.f236)))) (tN f 238 (tL f 237 (Tryz.f237,(Kt Tryz.f237 65))) (tN f 239 (tL f 238 (Tryz.f238,(gB Tryz.f238))) (tL f 239 (Tryz.f239,agx)))))) (tN f 245 (tN f 242 (tN f 241 (tL f 240 (Tryz.f240,agy)) (tL f 241 (Tryz.f241,(gB Tryz.f241)))) (tN f 243 (tL f 242 (Tryz.f242,agz)) (tN f 244 (tL f 243 (Tryz.f243,agA)) (tL f 244 (Tryz.f244,agB))))) (tN f 248 (tN f 246 (tL f 245 (Tryz.f245,agC)) (tN f 247 (tL f 246 (Tryz.f246,agD)) (tL f 247 (Tryz.f247,agE)))) (tN f 249 (tL f 248 (Tryz.f248,agF)) (tN f 250 (tL f 249 (Tryz.f249,agG)) (tL f 250 (Tryz.f250,agH)))))))) (tN f 274 (tN f 262 (tN f 257 (tN f 253 (tN f 252 (tL f 251 (Tryz.f251,agI)) (tL f 252 (Tryz.f252,agJ))) (tN f 255 (tL f 253 (Tryz.f253,agK)) (tN f 256 (tL f 255 (Tryz.f255,(Kt Tryz.f255 68))) (tL f 256 (Tryz.f256,(gB Tryz.f256)))))) (tN f 259 (tN f 258 (tL f 257 (Tryz.f257,agL)) (tL f 258 (Tryz.f258,(gB Tryz.f258)))) (tN f 260 (tL f 259 (Tryz.f259,(gB Tryz.f259))) (tN f 261 (tL f 260 (Tryz.f260,agM)) (tL f 261 (Tryz.f261,(gBs Tryz.f261 adY))))))) (tN f 268 (tN f 264 (tN f 263 (tL f 262 (Tryz.f262,agN)) (tL f 263 (Tryz.f263,(gB Tryz.f263)))) (tN f 266 (tL f 264 (Tryz.f264,(gB Tryz.f264))) (tN f 267 (tL f 266 (Tryz.f266,agO)) (tL f 267 (Tryz.f267,agP))))) (tN f 271 (tN f 269 (tL f 268 (Tryz.f268,agQ)) (tN f 270 (tL f 269 (Tryz.f269,agS)) (tL f 270 (Tryz.f270,(gB Tryz.f270))))) (tN f 272 (tL f 271 (Tryz.f271,(gB Tryz.f271))) (tN f 273 (tL f 272 (Tryz.f272,(gB Tryz.f272))) (tL f 273 (Tryz.f273,(gB Tryz.f273)))))))) (tN f 284 (tN f 279 (tN f 276 (tN f 275 (tL f 274 (Tryz.f274,(gB Tryz.f274))) (tL f 275 (Tryz.f275,(gB Tryz.f275)))) (tN f 277 (tL f 276 (Tryz.f276,(gB Tryz.f276))) (tN f 278 (tL f 277 (Tryz.f277,(gB Tryz.f277))) (tL f 278 (Tryz.f278,(gB Tryz.f278)))))) (tN f 281 (tN f 280 (tL f 279 (Tryz.f279,(gB Tryz.f279))) (tL f 280 (Tryz.f280,agT))) (tN f 282 (tL f 281 (Tryz.f281,agU)) (tN f 283 (tL f 282 (Tryz.f282,agV)) (tL f 283 (Tryz.f283,agW)))))) (tN f 289 (tN f 286 (tN f 285 (tL f 284 (Tryz.f284,agX)) (tL f 285 (Tryz.f285,(gB Tryz.f285)))) (tN f 287 (tL f 286 (Tryz.f286,agY)) (tN f 288 (tL f 287 (Tryz.f287,agZ)) (tL f 288 (Tryz.f288,(gB Tryz.f288)))))) (tN f 292 (tN f 290 (tL f 289 (Tryz.f289,ag_)) (tN f 291 (tL f 290 (Tryz.f290,aha)) (tL f 291 (Tryz.f291,ahb)))) (tN f 293 (tL f 292 (Tryz.f292,(gB Tryz.f292))) (tN f 294 (tL f 293 (Tryz.f293,(gB Tryz.f293))) (tL f 294 (Tryz.f294,ahc))))))))))
def aci (f:Nat):Option ((Code×Cx)×fV):=(tN f 40 (tN f 20 (tN f 10 (tN f 5 (tN f 2 (tN f 1 (tL f 0 d0) (tL f 1 d1)) (tN f 3 (tL f 2 d2) (tN f 4 (tL f 3 d3) (tL f 4 d4)))) (tN f 7 (tN f 6 (tL f 5 d5) (tL f 6 d6)) (tN f 8 (tL f 7 d7) (tN f 9 (tL f 8 d8) (tL f 9 d9))))) (tN f 15 (tN f 12 (tN f 11 (tL f 10 d10) (tL f 11 d11)) (tN f 13 (tL f 12 d12) (tN f 14 (tL f 13 d13) (tL f 14 d14)))) (tN f 17 (tN f 16 (tL f 15 d15) (tL f 16 d16)) (tN f 18 (tL f 17 d17) (tN f 19 (tL f 18 d18) (tL f 19 d19)))))) (tN f 30 (tN f 25 (tN f 22 (tN f 21 (tL f 20 d20) (tL f 21 d21)) (tN f 23 (tL f 22 d22) (tN f 24 (tL f 23 d23) (tL f 24 d24)))) (tN f 27 (tN f 26 (tL f 25 d25) (tL f 26 d26)) (tN f 28 (tL f 27 d27) (tN f 29 (tL f 28 d28) (tL f 29 d29))))) (tN f 35 (tN f 32 (tN f 31 (tL f 30 d30) (tL f 31 d31)) (tN f 33 (tL f 32 d32) (tN f 34 (tL f 33 d33) (tL f 34 d34)))) (tN f 37 (tN f 36 (tL f 35 d35) (tL f 36 d36)) (tN f 38 (tL f 37 d37) (tN f 39 (tL f 38 d38) (tL f 39 d39))))))) (tN f 60 (tN f 50 (tN f 45 (tN f 42 (tN f 41 (tL f 40 d40) (tL f 41 d41)) (tN f 43 (tL f 42 d42) (tN f 44 (tL f 43 d43) (tL f 44 d44)))) (tN f 47 (tN f 46 (tL f 45 d45) (tL f 46 d46)) (tN f 48 (tL f 47 d47) (tN f 49 (tL f 48 d48) (tL f 49 d49))))) (tN f 55 (tN f 52 (tN f 51 (tL f 50 d50) (tL f 51 d51)) (tN f 53 (tL f 52 d52) (tN f 54 (tL f 53 d53) (tL f 54 d54)))) (tN f 57 (tN f 56 (tL f 55 d55) (tL f 56 d56)) (tN f 58 (tL f 57 d57) (tN f 59 (tL f 58 d58) (tL f 59 d59)))))) (tN f 70 (tN f 65 (tN f 62 (tN f 61 (tL f 60 d60) (tL f 61 d61)) (tN f 63 (tL f 62 d62) (tN f 64 (tL f 63 d63) (tL f 64 d64)))) (tN f 67 (tN f 66 (tL f 65 d65) (tL f 66 d66)) (tN f 68 (tL f 67 d67) (tN f 69 (tL f 68 d68) (tL f 69 d69))))) (tN f 75 (tN f 72 (tN f 71 (tL f 70 d70) (tL f 71 d71)) (tN f 73 (tL f 72 d72) (tN f 74 (tL f 73 d73) (tL f 74 d74)))) (tN f 77 (tN f 76 (tL f 75 d75) (tL f 76 d76)) (tN f 78 (tL f 77 d77) (tN f 79 (tL f 78 d78) (tL f 79 d79))))))))
def Ha:If:=⟨Uy,aci⟩
def FO (f:Nat) (e:Func×fV):Prop:=(∀(c:CH) (a:LH) us H,e.2 c (Ha.loop a) us H=Wd xG c a e.1 us H)/\Tryz.prog.funcs[f]? = some e.1/\bB Tryz.prog f/\okF y e.1=true
def LO (e:(Code×Cx)×fV):Prop:=∀(c:CH) (a:LH) us H,e.2 c (Ha.loop a) us H=evL xG c a e.1.1 e.1.2 us H
theorem rF {f n:Nat} {x e:Func×fV} (h:FO n x):tL f n x=some e->FO f e:=rL h
theorem rK {f n:Nat} {x e:(Code×Cx)×fV} (h:LO x):tL f n x=some e->LO e:=rL (R:=λ_=>LO) h
theorem NQ {f:Nat} {e:Func×fV}:Uy f=some e->FO f e:=(rN (rN (rN (rN (rN (rN (rN (rF ⟨λ_ _ _ _=>by kernel_rfl,Tryz.func9,Tryz.call9,by kernel_rfl⟩) (rF ⟨λ_ _ _ _=>by kernel_rfl,Tryz.func10,Tryz.call10,by kernel_rfl⟩)) (rN (rF ⟨λ_ _ _ _=>by kernel_rfl,Tryz.func14,Tryz.call14,by kernel_rfl⟩) (rN (rF ⟨λ_ _ _ _=>by kernel_rfl,Tryz.func16,Tryz.call16,by kernel_rfl⟩) (rF ⟨λ_ _ _ _=>by kernel_rfl,Tryz.func18,Tryz.call18,by kernel_rfl⟩)))) (rN (rN (rF ⟨λ_ _ _ _=>by kernel_rfl,Tryz.func20,Tryz.call20,by kernel_rfl⟩) (rF ⟨λ_ _ _ _=>by kernel_rfl,Tryz.func22,Tryz.call22,by kernel_rfl⟩)) (rN (rF ⟨λ_ _ _ _=>by kernel_rfl,Tryz.func26,Tryz.call26,by kernel_rfl⟩) (rN (rF ⟨λ_ _ _ _=>by kernel_rfl,Tryz.func36,Tryz.call36,by kernel_rfl⟩) (rF ⟨λ_ _ _ _=>by kernel_rfl,Tryz.func43,Tryz.call43,by kernel_rfl⟩))))) (rN (rN (rN (rF ⟨λ_ _ _ _=>by kernel_rfl,Tryz.func47,Tryz.call47,by kernel_rfl⟩) (rF ⟨λ_ _ _ _=>by kernel_rfl,Tryz.func48,Tryz.call48,by kernel_rfl⟩)) (rN (rF ⟨λ_ _ _ _=>by kernel_rfl,Tryz.func49,Tryz.call49,by kernel_rfl⟩) (rN (rF ⟨λ_ _ _ _=>by kernel_rfl,Tryz.func50,Tryz.call50,by kernel_rfl⟩) (rF ⟨λ_ _ _ _=>by kernel_rfl,Tryz.func51,Tryz.call51,by kernel_rfl⟩)))) (rN (rN (rF ⟨λ_ _ _ _=>by kernel_rfl,Tryz.func52,Tryz.call52,by kernel_rfl⟩) (rN (rF ⟨λ_ _ _ _=>by kernel_rfl,Tryz.func56,Tryz.call56,by kernel_rfl⟩) (rF ⟨λ_ _ _ _=>by kernel_rfl,Tryz.func57,Tryz.call57,by kernel_rfl⟩))) (rN (rF ⟨λ_ _ _ _=>by kernel_rfl,Tryz.func60,Tryz.call60,by kernel_rfl⟩) (rN (rF ⟨λ_ _ _ _=>by kernel_rfl,Tryz.func61,Tryz.call61,by kernel_rfl⟩) (rF ⟨λ_ _ _ _=>by kernel_rfl,Tryz.func66,Tryz.call66,by kernel_rfl⟩)))))) (rN (rN (rN (rN (rF ⟨λ_ _ _ _=>by kernel_rfl,Tryz.func67,Tryz.call67,by kernel_rfl⟩) (rF ⟨λ_ _ _ _=>by kernel_rfl,Tryz.func75,Tryz.call75,by kernel_rfl⟩)) (rN (rF ⟨λ_ _ _ _=>by kernel_rfl,Tryz.func76,Tryz.call76,by kernel_rfl⟩) (rN (rF ⟨λ_ _ _ _=>by kernel_rfl,Tryz.func77,Tryz.call77,by kernel_rfl⟩) (rF ⟨λ_ _ _ _=>by kernel_rfl,Tryz.func78,Tryz.call78,by kernel_rfl⟩)))) (rN (rN (rF ⟨λ_ _ _ _=>by kernel_rfl,Tryz.func93,Tryz.call93,by kernel_rfl⟩) (rF ⟨λ_ _ _ _=>by kernel_rfl,Tryz.func95,Tryz.call95,by kernel_rfl⟩)) (rN (rF ⟨λ_ _ _ _=>by kernel_rfl,Tryz.func96,Tryz.call96,by kernel_rfl⟩) (rN (rF ⟨λ_ _ _ _=>by kernel_rfl,Tryz.func97,Tryz.call97,by kernel_rfl⟩) (rF ⟨λ_ _ _ _=>by kernel_rfl,Tryz.func98,Tryz.call98,by kernel_rfl⟩))))) (rN (rN (rN (rF ⟨λ_ _ _ _=>by kernel_rfl,Tryz.func101,Tryz.call101,by kernel_rfl⟩) (rF ⟨λ_ _ _ _=>by kernel_rfl,Tryz.func102,Tryz.call102,by kernel_rfl⟩)) (rN (rF ⟨λ_ _ _ _=>by kernel_rfl,Tryz.func103,Tryz.call103,by kernel_rfl⟩) (rN (rF ⟨λ_ _ _ _=>by kernel_rfl,Tryz.func107,Tryz.call107,by kernel_rfl⟩) (rF ⟨λ_ _ _ _=>by kernel_rfl,Tryz.func108,Tryz.call108,by kernel_rfl⟩)))) (rN (rN (rF ⟨λ_ _ _ _=>by kernel_rfl,Tryz.func109,Tryz.call109,by kernel_rfl⟩) (rN (rF ⟨λ_ _ _ _=>by kernel_rfl,Tryz.func110,Tryz.call110,by kernel_rfl⟩) (rF ⟨λ_ _ _ _=>by kernel_rfl,Tryz.func111,Tryz.call111,by kernel_rfl⟩))) (rN (rF ⟨λ_ _ _ _=>by kernel_rfl,Tryz.func119,Tryz.call119,by kernel_rfl⟩) (rN (rF ⟨λ_ _ _ _=>by kernel_rfl,Tryz.func120,Tryz.call120,by kernel_rfl⟩) (rF ⟨λ_ _ _ _=>by kernel_rfl,Tryz.func123,Tryz.call123,by kernel_rfl⟩))))))) (rN (rN (rN (rN (rN (rF ⟨λ_ _ _ _=>by kernel_rfl,Tryz.func128,Tryz.call128,by kernel_rfl⟩) (rF ⟨λ_ _ _ _=>by kernel_rfl,Tryz.func145,Tryz.call145,by kernel_rfl⟩)) (rN (rF ⟨λ_ _ _ _=>by kernel_rfl,Tryz.func146,Tryz.call146,by kernel_rfl⟩) (rN (rF ⟨λ_ _ _ _=>by kernel_rfl,Tryz.func149,Tryz.call149,by kernel_rfl⟩) (rF ⟨λ_ _ _ _=>by kernel_rfl,Tryz.func150,Tryz.call150,by kernel_rfl⟩)))) (rN (rN (rF ⟨λ_ _ _ _=>by kernel_rfl,Tryz.func151,Tryz.call151,by kernel_rfl⟩) (rF ⟨λ_ _ _ _=>by kernel_rfl,Tryz.func152,Tryz.call152,by kernel_rfl⟩)) (rN (rF ⟨λ_ _ _ _=>by kernel_rfl,Tryz.func153,Tryz.call153,by kernel_rfl⟩) (rN (rF ⟨λ_ _ _ _=>by kernel_rfl,Tryz.func154,Tryz.call154,by kernel_rfl⟩) (rF ⟨λ_ _ _ _=>by kernel_rfl,Tryz.func155,Tryz.call155,by kernel_rfl⟩))))) (rN (rN (rN (rF ⟨λ_ _ _ _=>by kernel_rfl,Tryz.func156,Tryz.call156,by kernel_rfl⟩) (rF ⟨λ_ _ _ _=>by kernel_rfl,Tryz.func157,Tryz.call157,by kernel_rfl⟩)) (rN (rF ⟨λ_ _ _ _=>by kernel_rfl,Tryz.func158,Tryz.call158,by kernel_rfl⟩) (rN (rF ⟨λ_ _ _ _=>by kernel_rfl,Tryz.func159,Tryz.call159,by kernel_rfl⟩) (rF ⟨λ_ _ _ _=>by kernel_rfl,Tryz.func160,Tryz.call160,by kernel_rfl⟩)))) (rN (rN (rF ⟨λ_ _ _ _=>by kernel_rfl,Tryz.func161,Tryz.call161,by kernel_rfl⟩) (rN (rF ⟨λ_ _ _ _=>by kernel_rfl,Tryz.func162,Tryz.call162,by kernel_rfl⟩) (rF ⟨λ_ _ _ _=>by kernel_rfl,Tryz.func163,Tryz.call163,by kernel_rfl⟩))) (rN (rF ⟨λ_ _ _ _=>by kernel_rfl,Tryz.func165,Tryz.call165,by kernel_rfl⟩) (rN (rF ⟨λ_ _ _ _=>by kernel_rfl,Tryz.func166,Tryz.call166,by kernel_rfl⟩) (rF ⟨λ_ _ _ _=>by kernel_rfl,Tryz.func168,Tryz.call168,by kernel_rfl⟩)))))) (rN (rN (rN (rN (rF ⟨λ_ _ _ _=>by kernel_rfl,Tryz.func169,Tryz.call169,by kernel_rfl⟩) (rF ⟨λ_ _ _ _=>by kernel_rfl,Tryz.func172,Tryz.call172,by kernel_rfl⟩)) (rN (rF ⟨λ_ _ _ _=>by kernel_rfl,Tryz.func173,Tryz.call173,by kernel_rfl⟩) (rN (rF ⟨λ_ _ _ _=>by kernel_rfl,Tryz.func178,Tryz.call178,by kernel_rfl⟩) (rF ⟨λ_ _ _ _=>by kernel_rfl,Tryz.func181,Tryz.call181,by kernel_rfl⟩)))) (rN (rN (rF ⟨λ_ _ _ _=>by kernel_rfl,Tryz.func182,Tryz.call182,by kernel_rfl⟩) (rF ⟨λ_ _ _ _=>by kernel_rfl,Tryz.func183,Tryz.call183,by kernel_rfl⟩)) (rN (rF ⟨λ_ _ _ _=>by kernel_rfl,Tryz.func184,Tryz.call184,by kernel_rfl⟩) (rN (rF ⟨λ_ _ _ _=>by kernel_rfl,Tryz.func185,Tryz.call185,by kernel_rfl⟩) (rF ⟨λ_ _ _ _=>by kernel_rfl,Tryz.func186,Tryz.call186,by kernel_rfl⟩))))) (rN (rN (rN (rF ⟨λ_ _ _ _=>by kernel_rfl,Tryz.func187,Tryz.call187,by kernel_rfl⟩) (rF ⟨λ_ _ _ _=>by kernel_rfl,Tryz.func188,Tryz.call188,by kernel_rfl⟩)) (rN (rF ⟨λ_ _ _ _=>by kernel_rfl,Tryz.func189,Tryz.call189,by kernel_rfl⟩) (rN (rF ⟨λ_ _ _ _=>by kernel_rfl,Tryz.func190,Tryz.call190,by kernel_rfl⟩) (rF ⟨λ_ _ _ _=>by kernel_rfl,Tryz.func191,Tryz.call191,by kernel_rfl⟩)))) (rN (rN (rF ⟨λ_ _ _ _=>by kernel_rfl,Tryz.func192,Tryz.call192,by kernel_rfl⟩) (rN (rF ⟨λ_ _ _ _=>by kernel_rfl,Tryz.func193,Tryz.call193,by kernel_rfl⟩) (rF ⟨λ_ _ _ _=>by kernel_rfl,Tryz.func194,Tryz.call194,by kernel_rfl⟩))) (rN (rF ⟨λ_ _ _ _=>by kernel_rfl,Tryz.func195,Tryz.call195,by kernel_rfl⟩) (rN (rF ⟨λ_ _ _ _=>by kernel_rfl,Tryz.func196,Tryz.call196,by kernel_rfl⟩) (rF ⟨λ_ _ _ _=>by kernel_rfl,Tryz.func197,Tryz.call197,by kernel_rfl⟩)))))))) (rN (rN (rN (rN (rN (rN (rF ⟨λ_ _ _ _=>by kernel_rfl,Tryz.func198,Tryz.call198,by kernel_rfl⟩) (rF ⟨λ_ _ _ _=>by kernel_rfl,Tryz.func199,Tryz.call199,by kernel_rfl⟩)) (rN (rF ⟨λ_ _ _ _=>by kernel_rfl,Tryz.func200,Tryz.call200,by kernel_rfl⟩) (rN (rF ⟨λ_ _ _ _=>by kernel_rfl,Tryz.func202,Tryz.call202,by kernel_rfl⟩) (rF ⟨λ_ _ _ _=>by kernel_rfl,Tryz.func206,Tryz.call206,by kernel_rfl⟩)))) (rN (rN (rF ⟨λ_ _ _ _=>by kernel_rfl,Tryz.func207,Tryz.call207,by kernel_rfl⟩) (rF ⟨λ_ _ _ _=>by kernel_rfl,Tryz.func209,Tryz.call209,by kernel_rfl⟩)) (rN (rF ⟨λ_ _ _ _=>by kernel_rfl,Tryz.func210,Tryz.call210,by kernel_rfl⟩) (rN (rF ⟨λ_ _ _ _=>by kernel_rfl,Tryz.func211,Tryz.call211,by kernel_rfl⟩) (rF ⟨λ_ _ _ _=>by kernel_rfl,Tryz.func212,Tryz.call212,by kernel_rfl⟩))))) (rN (rN (rN (rF ⟨λ_ _ _ _=>by kernel_rfl,Tryz.func213,Tryz.call213,by kernel_rfl⟩) (rF ⟨λ_ _ _ _=>by kernel_rfl,Tryz.func214,Tryz.call214,by kernel_rfl⟩)) (rN (rF ⟨λ_ _ _ _=>by kernel_rfl,Tryz.func215,Tryz.call215,by kernel_rfl⟩) (rN (rF ⟨λ_ _ _ _=>by kernel_rfl,Tryz.func216,Tryz.call216,by kernel_rfl⟩) (rF ⟨λ_ _ _ _=>by kernel_rfl,Tryz.func217,Tryz.call217,by kernel_rfl⟩)))) (rN (rN (rF ⟨λ_ _ _ _=>by kernel_rfl,Tryz.func218,Tryz.call218,by kernel_rfl⟩) (rN (rF ⟨λ_ _ _ _=>by kernel_rfl,Tryz.func219,Tryz.call219,by kernel_rfl⟩) (rF ⟨λ_ _ _ _=>by kernel_rfl,Tryz.func220,Tryz.call220,by kernel_rfl⟩))) (rN (rF ⟨λ_ _ _ _=>by kernel_rfl,Tryz.func221,Tryz.call221,by kernel_rfl⟩) (rN (rF ⟨λ_ _ _ _=>by kernel_rfl,Tryz.func228,Tryz.call228,by kernel_rfl⟩) (rF ⟨λ_ _ _ _=>by kernel_rfl,Tryz.func229,Tryz.call229,by kernel_rfl⟩)))))) (rN (rN (rN (rN (rF ⟨λ_ _ _ _=>by kernel_rfl,Tryz.func230,Tryz.call230,by kernel_rfl⟩) (rF ⟨λ_ _ _ _=>by kernel_rfl,Tryz.func231,Tryz.call231,by kernel_rfl⟩)) (rN (rF ⟨λ_ _ _ _=>by kernel_rfl,Tryz.func232,Tryz.call232,by kernel_rfl⟩) (rN (rF ⟨λ_ _ _ _=>by kernel_rfl,Tryz.func233,Tryz.call233,by kernel_rfl⟩) (rF ⟨λ_ _ _ _=>by kernel_rfl,Tryz.func234,Tryz.call234,by kernel_rfl⟩)))) (rN (rN (rF ⟨λ_ _ _ _=>by kernel_rfl,Tryz.func235,Tryz.call235,by kernel_rfl⟩) (rF ⟨λ_ _ _ _=>by kernel_rfl,Tryz.func236,Tryz.call236,by kernel_rfl⟩)) (rN (rF ⟨λ_ _ _ _=>by kernel_rfl,Tryz.func237,Tryz.call237,by kernel_rfl⟩) (rN (rF ⟨λ_ _ _ _=>by kernel_rfl,Tryz.func238,Tryz.call238,by kernel_rfl⟩) (rF ⟨λ_ _ _ _=>by kernel_rfl,Tryz.func239,Tryz.call239,by kernel_rfl⟩))))) (rN (rN (rN (rF ⟨λ_ _ _ _=>by kernel_rfl,Tryz.func240,Tryz.call240,by kernel_rfl⟩) (rF ⟨λ_ _ _ _=>by kernel_rfl,Tryz.func241,Tryz.call241,by kernel_rfl⟩)) (rN (rF ⟨λ_ _ _ _=>by kernel_rfl,Tryz.func242,Tryz.call242,by kernel_rfl⟩) (rN (rF ⟨λ_ _ _ _=>by kernel_rfl,Tryz.func243,Tryz.call243,by kernel_rfl⟩) (rF ⟨λ_ _ _ _=>by kernel_rfl,Tryz.func244,Tryz.call244,by kernel_rfl⟩)))) (rN (rN (rF ⟨λ_ _ _ _=>by kernel_rfl,Tryz.func245,Tryz.call245,by kernel_rfl⟩) (rN (rF ⟨λ_ _ _ _=>by kernel_rfl,Tryz.func246,Tryz.call246,by kernel_rfl⟩) (rF ⟨λ_ _ _ _=>by kernel_rfl,Tryz.func247,Tryz.call247,by kernel_rfl⟩))) (rN (rF ⟨λ_ _ _ _=>by kernel_rfl,Tryz.func248,Tryz.call248,by kernel_rfl⟩) (rN (rF ⟨λ_ _ _ _=>by kernel_rfl,Tryz.func249,Tryz.call249,by kernel_rfl⟩) (rF ⟨λ_ _ _ _=>by kernel_rfl,Tryz.func250,Tryz.call250,by kernel_rfl⟩))))))) (rN (rN (rN (rN (rN (rF ⟨λ_ _ _ _=>by kernel_rfl,Tryz.func251,Tryz.call251,by kernel_rfl⟩) (rF ⟨λ_ _ _ _=>by kernel_rfl,Tryz.func252,Tryz.call252,by kernel_rfl⟩)) (rN (rF ⟨λ_ _ _ _=>by kernel_rfl,Tryz.func253,Tryz.call253,by kernel_rfl⟩) (rN (rF ⟨λ_ _ _ _=>by kernel_rfl,Tryz.func255,Tryz.call255,by kernel_rfl⟩) (rF ⟨λ_ _ _ _=>by kernel_rfl,Tryz.func256,Tryz.call256,by kernel_rfl⟩)))) (rN (rN (rF ⟨λ_ _ _ _=>by kernel_rfl,Tryz.func257,Tryz.call257,by kernel_rfl⟩) (rF ⟨λ_ _ _ _=>by kernel_rfl,Tryz.func258,Tryz.call258,by kernel_rfl⟩)) (rN (rF ⟨λ_ _ _ _=>by kernel_rfl,Tryz.func259,Tryz.call259,by kernel_rfl⟩) (rN (rF ⟨λ_ _ _ _=>by kernel_rfl,Tryz.func260,Tryz.call260,by kernel_rfl⟩) (rF ⟨λ_ _ _ _=>by kernel_rfl,Tryz.func261,Tryz.call261,by kernel_rfl⟩))))) (rN (rN (rN (rF ⟨λ_ _ _ _=>by kernel_rfl,Tryz.func262,Tryz.call262,by kernel_rfl⟩) (rF ⟨λ_ _ _ _=>by kernel_rfl,Tryz.func263,Tryz.call263,by kernel_rfl⟩)) (rN (rF ⟨λ_ _ _ _=>by kernel_rfl,Tryz.func264,Tryz.call264,by kernel_rfl⟩) (rN (rF ⟨λ_ _ _ _=>by kernel_rfl,Tryz.func266,Tryz.call266,by kernel_rfl⟩) (rF ⟨λ_ _ _ _=>by kernel_rfl,Tryz.func267,Tryz.call267,by kernel_rfl⟩)))) (rN (rN (rF ⟨λ_ _ _ _=>by kernel_rfl,Tryz.func268,Tryz.call268,by kernel_rfl⟩) (rN (rF ⟨λ_ _ _ _=>by kernel_rfl,Tryz.func269,Tryz.call269,by kernel_rfl⟩) (rF ⟨λ_ _ _ _=>by kernel_rfl,Tryz.func270,Tryz.call270,by kernel_rfl⟩))) (rN (rF ⟨λ_ _ _ _=>by kernel_rfl,Tryz.func271,Tryz.call271,by kernel_rfl⟩) (rN (rF ⟨λ_ _ _ _=>by kernel_rfl,Tryz.func272,Tryz.call272,by kernel_rfl⟩) (rF ⟨λ_ _ _ _=>by kernel_rfl,Tryz.func273,Tryz.call273,by kernel_rfl⟩)))))) (rN (rN (rN (rN (rF ⟨λ_ _ _ _=>by kernel_rfl,Tryz.func274,Tryz.call274,by kernel_rfl⟩) (rF ⟨λ_ _ _ _=>by kernel_rfl,Tryz.func275,Tryz.call275,by kernel_rfl⟩)) (rN (rF ⟨λ_ _ _ _=>by kernel_rfl,Tryz.func276,Tryz.call276,by kernel_rfl⟩) (rN (rF ⟨λ_ _ _ _=>by kernel_rfl,Tryz.func277,Tryz.call277,by kernel_rfl⟩) (rF ⟨λ_ _ _ _=>by kernel_rfl,Tryz.func278,Tryz.call278,by kernel_rfl⟩)))) (rN (rN (rF ⟨λ_ _ _ _=>by kernel_rfl,Tryz.func279,Tryz.call279,by kernel_rfl⟩) (rF ⟨λ_ _ _ _=>by kernel_rfl,Tryz.func280,Tryz.call280,by kernel_rfl⟩)) (rN (rF ⟨λ_ _ _ _=>by kernel_rfl,Tryz.func281,Tryz.call281,by kernel_rfl⟩) (rN (rF ⟨λ_ _ _ _=>by kernel_rfl,Tryz.func282,Tryz.call282,by kernel_rfl⟩) (rF ⟨λ_ _ _ _=>by kernel_rfl,Tryz.func283,Tryz.call283,by kernel_rfl⟩))))) (rN (rN (rN (rF ⟨λ_ _ _ _=>by kernel_rfl,Tryz.func284,Tryz.call284,by kernel_rfl⟩) (rF ⟨λ_ _ _ _=>by kernel_rfl,Tryz.func285,Tryz.call285,by kernel_rfl⟩)) (rN (rF ⟨λ_ _ _ _=>by kernel_rfl,Tryz.func286,Tryz.call286,by kernel_rfl⟩) (rN (rF ⟨λ_ _ _ _=>by kernel_rfl,Tryz.func287,Tryz.call287,by kernel_rfl⟩) (rF ⟨λ_ _ _ _=>by kernel_rfl,Tryz.func288,Tryz.call288,by kernel_rfl⟩)))) (rN (rN (rF ⟨λ_ _ _ _=>by kernel_rfl,Tryz.func289,Tryz.call289,by kernel_rfl⟩) (rN (rF ⟨λ_ _ _ _=>by kernel_rfl,Tryz.func290,Tryz.call290,by kernel_rfl⟩) (rF ⟨λ_ _ _ _=>by kernel_rfl,Tryz.func291,Tryz.call291,by kernel_rfl⟩))) (rN (rF ⟨λ_ _ _ _=>by kernel_rfl,Tryz.func292,Tryz.call292,by kernel_rfl⟩) (rN (rF ⟨λ_ _ _ _=>by kernel_rfl,Tryz.func293,Tryz.call293,by kernel_rfl⟩) (rF ⟨λ_ _ _ _=>by kernel_rfl,Tryz.func294,Tryz.call294,by kernel_rfl⟩)))))))))
theorem YC {f:Nat} {e:(Code×Cx)×fV}:aci f=some e->LO e:=(rN (rN (rN (rN (rN (rN (rK λ_ _ _ _=>by kernel_rfl) (rK λ_ _ _ _=>by kernel_rfl)) (rN (rK λ_ _ _ _=>by kernel_rfl) (rN (rK λ_ _ _ _=>by kernel_rfl) (rK λ_ _ _ _=>by kernel_rfl)))) (rN (rN (rK λ_ _ _ _=>by kernel_rfl) (rK λ_ _ _ _=>by kernel_rfl)) (rN (rK λ_ _ _ _=>by kernel_rfl) (rN (rK λ_ _ _ _=>by kernel_rfl) (rK λ_ _ _ _=>by kernel_rfl))))) (rN (rN (rN (rK λ_ _ _ _=>by kernel_rfl) (rK λ_ _ _ _=>by kernel_rfl)) (rN (rK λ_ _ _ _=>by kernel_rfl) (rN (rK λ_ _ _ _=>by kernel_rfl) (rK λ_ _ _ _=>by kernel_rfl)))) (rN (rN (rK λ_ _ _ _=>by kernel_rfl) (rK λ_ _ _ _=>by kernel_rfl)) (rN (rK λ_ _ _ _=>by kernel_rfl) (rN (rK λ_ _ _ _=>by kernel_rfl) (rK λ_ _ _ _=>by kernel_rfl)))))) (rN (rN (rN (rN (rK λ_ _ _ _=>by kernel_rfl) (rK λ_ _ _ _=>by kernel_rfl)) (rN (rK λ_ _ _ _=>by kernel_rfl) (rN (rK λ_ _ _ _=>by kernel_rfl) (rK λ_ _ _ _=>by kernel_rfl)))) (rN (rN (rK λ_ _ _ _=>by kernel_rfl) (rK λ_ _ _ _=>by kernel_rfl)) (rN (rK λ_ _ _ _=>by kernel_rfl) (rN (rK λ_ _ _ _=>by kernel_rfl) (rK λ_ _ _ _=>by kernel_rfl))))) (rN (rN (rN (rK λ_ _ _ _=>by kernel_rfl) (rK λ_ _ _ _=>by kernel_rfl)) (rN (rK λ_ _ _ _=>by kernel_rfl) (rN (rK λ_ _ _ _=>by kernel_rfl) (rK λ_ _ _ _=>by kernel_rfl)))) (rN (rN (rK λ_ _ _ _=>by kernel_rfl) (rK λ_ _ _ _=>by kernel_rfl)) (rN (rK λ_ _ _ _=>by kernel_rfl) (rN (rK λ_ _ _ _=>by kernel_rfl) (rK λ_ _ _ _=>by kernel_rfl))))))) (rN (rN (rN (rN (rN (rK λ_ _ _ _=>by kernel_rfl) (rK λ_ _ _ _=>by kernel_rfl)) (rN (rK λ_ _ _ _=>by kernel_rfl) (rN (rK λ_ _ _ _=>by kernel_rfl) (rK λ_ _ _ _=>by kernel_rfl)))) (rN (rN (rK λ_ _ _ _=>by kernel_rfl) (rK λ_ _ _ _=>by kernel_rfl)) (rN (rK λ_ _ _ _=>by kernel_rfl) (rN (rK λ_ _ _ _=>by kernel_rfl) (rK λ_ _ _ _=>by kernel_rfl))))) (rN (rN (rN (rK λ_ _ _ _=>by kernel_rfl) (rK λ_ _ _ _=>by kernel_rfl)) (rN (rK λ_ _ _ _=>by kernel_rfl) (rN (rK λ_ _ _ _=>by kernel_rfl) (rK λ_ _ _ _=>by kernel_rfl)))) (rN (rN (rK λ_ _ _ _=>by kernel_rfl) (rK λ_ _ _ _=>by kernel_rfl)) (rN (rK λ_ _ _ _=>by kernel_rfl) (rN (rK λ_ _ _ _=>by kernel_rfl) (rK λ_ _ _ _=>by kernel_rfl)))))) (rN (rN (rN (rN (rK λ_ _ _ _=>by kernel_rfl) (rK λ_ _ _ _=>by kernel_rfl)) (rN (rK λ_ _ _ _=>by kernel_rfl) (rN (rK λ_ _ _ _=>by kernel_rfl) (rK λ_ _ _ _=>by kernel_rfl)))) (rN (rN (rK λ_ _ _ _=>by kernel_rfl) (rK λ_ _ _ _=>by kernel_rfl)) (rN (rK λ_ _ _ _=>by kernel_rfl) (rN (rK λ_ _ _ _=>by kernel_rfl) (rK λ_ _ _ _=>by kernel_rfl))))) (rN (rN (rN (rK λ_ _ _ _=>by kernel_rfl) (rK λ_ _ _ _=>by kernel_rfl)) (rN (rK λ_ _ _ _=>by kernel_rfl) (rN (rK λ_ _ _ _=>by kernel_rfl) (rK λ_ _ _ _=>by kernel_rfl)))) (rN (rN (rK λ_ _ _ _=>by kernel_rfl) (rK λ_ _ _ _=>by kernel_rfl)) (rN (rK λ_ _ _ _=>by kernel_rfl) (rN (rK λ_ _ _ _=>by kernel_rfl) (rK λ_ _ _ _=>by kernel_rfl))))))))
theorem Fb:Lj Ha xG:=⟨λh=>(NQ h).1,YC⟩
theorem YA {f:Nat} {e:Func×fV} (h:Uy f=some e):Tryz.prog.funcs[f]? = some e.1/\bB Tryz.prog f/\okF y e.1=true:=(NQ h).2
end
end Go.Gx
end
