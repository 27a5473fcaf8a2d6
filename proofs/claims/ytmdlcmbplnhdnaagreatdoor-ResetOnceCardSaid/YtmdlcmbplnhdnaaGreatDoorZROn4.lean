/- Models and proofs. Conditions: none. -/
import Derived.Test.YtmdlcmbplnhdnaaGreatDoorZROn3
import Derived.Test.YtmdlcmbplnhdnaaGreatDoorZROn1
import Derived.RecoverIn
import Derived.DefersIn
import Derived.Lib.Bytealg
import Derived.Test.YtmdlcmbplnhdnaaGreatDoorZROn2
set_option linter.unusedVariables false
set_option linter.unusedSimpArgs false
set_option maxHeartbeats 4000000
set_option maxRecDepth 20000
namespace Go.Gx
open Go Go.Sx Go.RowKit
section
variable {R α:Type}
theorem xF (r:OR) (k:GV->GH->Option R):eH r k=eH (eH r Fc) k:=by
 cases r with
 |none=>rfl
 |some p=>rfl
theorem cW (x:Option α) {f:α->Option R} {g:α->OR} {k:GV->GH->Option R} (h:∀a,f a=eH (g a) k):ob x f=eH (ob x g) k:=by
 cases x with
 |none=>rfl
 |some a=>exact h a
theorem ZY {n:TB} {s:CH} {d:GF} {H:GH} (o:Op) (k:GV->GH->Option R):Nc n s o d H k=eH (Nc n s o d H Fc) k:=by
 have e:∀x (f:GV->Option GV),k1 x f d H k=eH (k1 x f d H Fc) k:=λx f=>cW _ λx=>cW _ λv=>cW _ λg=>rfl;have j:∀x y (f:GV->GV->Option GV),k2 x y f d H k=eH (k2 x y f d H Fc) k:=λx y f=>cW _ λx=>cW _ λv=>cW _ λu=>cW _ λg=>rfl;have B:∀x y z (f:GV->GV->GV->Option GV),k3 x y z f d H k=eH (k3 x y z f d H Fc) k:=λx y z f=>cW _ λx=>cW _ λv=>cW _ λu=>cW _ λt=>cW _ λg=>rfl;cases o with
 |move x=>exact cW _ λv=>rfl
 |assign x=>exact cW _ λv=>rfl
 |pick c x y=>exact B _ _ _ _
 |alloc T=>exact xF _ _
 |box T x=>exact cW _ λv=>xF _ _
 |build T G=>exact cW _ λJ=>cW _ λg=>rfl
 |buildSlice T m G=>exact cW _ λx=>xF _ _
 |load T x=>exact cW _ λv=>cW _ λg=>rfl
 |store T x y=>exact cW _ λv=>cW _ λu=>xF _ _
 |nilCheck x=>exact e _ _
 |binOp F T x y A=>exact j _ _ _
 |unOp F T x=>exact e _ _
 |convert S D x=>exact e _ _
 |makeFunc C first r=>
  cases C with
  |func f=>exact cW _ λI=>cW _ λJ=>rfl
  |_=>rfl
 |makeMap T q=>
  cases q with
  |none=>exact xF _ _
  |some x=>rfl
 |makeSlice T x y=>exact cW _ λv=>cW _ λu=>xF _ _
 |slice T x L K E=>
  cases E with
  |none=>exact cW _ λv=>cW _ λl=>cW _ λh=>cW _ λg=>rfl
  |some y=>rfl
 |fieldAddr T x f=>exact e _ _
 |field T x f=>exact e _ _
 |indexAddr T x y=>exact j _ _ _
 |index T x y=>exact j _ _ _
 |lookup T x y M=>exact cW _ λv=>cW _ λu=>cW _ λg=>rfl
 |mapUpdate T x y z=>exact cW _ λv=>cW _ λu=>cW _ λt=>xF _ _
 |extract x i=>exact e _ _
 | call c =>
  obtain⟨p,a,w⟩:=c;cases p with
  |value f=>exact cW _ λv=>cW _ λg=>cW _ λI=>xF _ _
  |invoke x m=>rfl
  | builtin b =>
   show QN n a w b d H k=eH (QN n a w b d H Fc) k;obtain⟨a⟩:=a;cases b with
   |len=>
    match a with
    | []=>rfl
    | [x]=>exact cW _ λT=>cW _ λv=>cW _ λg=>rfl
    |_::_::_=>rfl
   |max=>
    match a with
    | []=>rfl
    | [x]=>rfl
    | [x,y]=>exact j _ _ _
    |_::_::_::_=>rfl
   |min=>
    match a with
    | []=>rfl
    | [x]=>rfl
    | [x,y]=>exact j _ _ _
    |_::_::_::_=>rfl
   |append=>
    match a with
    | []=>rfl
    | [x]=>rfl
    | [x,y]=>exact cW _ λT=>cW _ λA=>cW _ λv=>cW _ λu=>xF _ _
    |_::_::_::_=>rfl
   |copy=>
    match a with
    | []=>rfl
    | [x]=>rfl
    | [x,y]=>exact cW _ λT=>cW _ λv=>cW _ λu=>xF _ _
    |_::_::_::_=>rfl
   |cap=>
    match a with
    | []=>rfl
    | [x]=>exact cW _ λT=>cW _ λv=>cW _ λg=>rfl
    |_::_::_=>rfl
   |_=>rfl
 |_=>rfl
theorem BQ {b a:GF}:∀{xs:List Operand},(∀x∈xs,jY b x=jY a x)->EO b xs=EO a xs
 | [],_=>rfl
 |x::xs,h=>by
  show ob (jY b x) (λv=>ob (EO b xs) λc=>some (v::c))=ob (jY a x) (λv=>ob (EO a xs) λc=>some (v::c));rw[h x List.mem_cons_self,BQ λy d=>h y (List.mem_cons_of_mem _ d)]
theorem BR {b a:GF}:∀{xs:List (Nat×Operand)},(∀x∈xs,jY b x.2=jY a x.2)->sO b xs=sO a xs
 | [],_=>rfl
 |x::xs,h=>by
  show ob (jY b x.2) (λv=>ob (sO b xs) λc=>some ((x.1,v)::c))=ob (jY a x.2) (λv=>ob (sO a xs) λc=>some ((x.1,v)::c));rw[h x List.mem_cons_self,BR λy d=>h y (List.mem_cons_of_mem _ d)]
theorem Jq {b a:GF} {o:Option Operand} (h:∀x∈o.toArray,jY b x=jY a x):GI b o=GI a o:=by
 cases o with
 |none=>rfl
 |some x=>
  show ob (jY b x) (λv=>some (some v))=ob (jY a x) (λv=>some (some v));rw[h x (by simp)]
theorem TZ {n:TB} {G:CH} {j a:GF} {H:GH} {o:Op} {k:GV->GH->Option R} (h:∀x∈o.operands,jY j x=jY a x):Nc n G o j H k=Nc n G o a H k:=by
 have s:∀x (f:GV->Option GV),jY j x=jY a x->k1 x f j H k=k1 x f a H k:=λx f e=>by simp only[k1,ob,e]
 have t:∀x y (f:GV->GV->Option GV),jY j x=jY a x->jY j y=jY a y->k2 x y f j H k=k2 x y f a H k:=λx y f e w=>by simp only[k2,ob,e,w]
 have J:∀x y z (f:GV->GV->GV->Option GV),jY j x=jY a x->jY j y=jY a y->jY j z=jY a z->k3 x y z f j H k=k3 x y z f a H k:=λx y z f e w A=>by simp only[k3,ob,e,w,A]
 cases o with
 |move x=>show Hu x j H k=Hu x a H k;simp only[Hu,ob,h x (by simp[Op.operands])]
 |assign x=>show Hu x j H k=Hu x a H k;simp only[Hu,ob,h x (by simp[Op.operands])]
 |pick c x y=>exact J _ _ _ _ (h _ (by simp[Op.operands])) (h _ (by simp[Op.operands])) (h _ (by simp[Op.operands]))
 |alloc T=>rfl
 |box T x=>show aag x j H k=aag x a H k;simp only[aag,ob,h x (by simp[Op.operands])]
 | build T ps =>
  show ob (sO j ps.toList) _=ob (sO a ps.toList) _;rw[BR λx d=>h x.2 (by
   have:x∈ps:=by simpa using d
   simp only[Op.operands,List.mem_toArray,List.mem_map];exact⟨x,d,rfl⟩)]
 | buildSlice T m ps =>
  show ob (sO j ps.toList) _=ob (sO a ps.toList) _;rw[BR λx d=>h x.2 (by
   simp only[Op.operands,List.mem_toArray,List.mem_map];exact⟨x,d,rfl⟩)]
 |load T x=>show Ss n T x j H k=Ss n T x a H k;simp only[Ss,ob,h x (by simp[Op.operands])]
 |store T x y=>show Mu n T x y j H k=Mu n T x y a H k;simp only[Mu,ob,h x (by simp[Op.operands]),h y (by simp[Op.operands])]
 |nilCheck x=>exact s _ _ (h _ (by simp[Op.operands]))
 |binOp L T x y M=>exact t _ _ _ (h _ (by simp[Op.operands])) (h _ (by simp[Op.operands]))
 |unOp L T x=>exact s _ _ (h _ (by simp[Op.operands]))
 |convert S D x=>exact s _ _ (h _ (by simp[Op.operands]))
 | makeFunc fn first caps =>
  cases fn with
  | func f =>
   show ob (EO j first.toList) _=ob (EO a first.toList) _;rw[BQ λx d=>h x (by simp only[Op.operands,Array.mem_append];exact .inl (by simpa using d)),
    BQ (xs:=caps.toList) λx d=>h x (by simp only[Op.operands,Array.mem_append];exact .inr (by simpa using d))]
  |_=>rfl
 |makeMap T q=>
  cases q with
  |none=>rfl
  |some x=>rfl
 |makeSlice T x y=>show Sv n T x y j H k=Sv n T x y a H k;simp only[Sv,ob,h x (by simp[Op.operands]),h y (by simp[Op.operands])]
 | slice T x lo hi mx =>
  cases mx with
  |none=>
   show ob (some x) (λx=>ob (jY j x) λv=>ob (GI j lo) λl=>ob (GI j hi) λh=>ob (As n T v l h H) λg=>k g H)=ob (some x) (λx=>ob (jY a x) λv=>ob (GI a lo) λl=>ob (GI a hi) λh=>ob (As n T v l h H) λg=>k g H);have C:GI j lo=GI a lo:=Jq λy F=>h y (by simp only[Op.operands,Array.mem_append];exact .inl (.inl (.inr F)));have B:GI j hi=GI a hi:=Jq λy F=>h y (by simp only[Op.operands,Array.mem_append];exact .inl (.inr F));have d:jY j x=jY a x:=h x (by simp only[Op.operands,Array.mem_append];exact .inl (.inl (.inl (by simp))));simp only[ob,C,B,d]
  |some y=>rfl
 |fieldAddr T x f=>exact s _ _ (h _ (by simp[Op.operands]))
 |field T x f=>exact s _ _ (h _ (by simp[Op.operands]))
 |indexAddr T x y=>exact t _ _ _ (h _ (by simp[Op.operands])) (h _ (by simp[Op.operands]))
 |index T x y=>exact t _ _ _ (h _ (by simp[Op.operands])) (h _ (by simp[Op.operands]))
 |lookup T x y I=>show Su n T x y I j H k=Su n T x y I a H k;simp only[Su,ob,h x (by simp[Op.operands]),h y (by simp[Op.operands])]
 |mapUpdate T x y z=>show Mt n T x y z j H k=Mt n T x y z a H k;simp only[Mt,ob,h x (by simp[Op.operands]),h y (by simp[Op.operands]),h z (by simp[Op.operands])]
 |extract x i=>exact s _ _ (h _ (by simp[Op.operands]))
 | call c =>
  obtain⟨u,p,r⟩:=c;cases u with
  |value f=>
   have K:jY j f=jY a f:=h f (by simp[Op.operands,Call.operands]);have E:EO j p.toList=EO a p.toList:=BQ λx d=>h x (by simp[Op.operands,Call.operands];exact .inr (by simpa using d));show ob (jY j f) _=ob (jY a f) _;simp only[ob,K,E]
  |invoke x m=>rfl
  | builtin b =>
   show QN n p r b j H k=QN n p r b a H k;have d:∀x∈p,jY j x=jY a x:=λx d=>h x (by simp[Op.operands,Call.operands];exact d);obtain⟨p⟩:=p;cases b with
   |len=>
    match p,d with
    | [],_=>rfl
    | [x],d=>show Ue n r.toList x j H k=Ue n r.toList x a H k;simp only[Ue,ob,d x (by simp)]
    |_::_::_,_=>rfl
   |max=>
    match p,d with
    | [],_=>rfl
    | [x],_=>rfl
    | [x,y],d=>exact t _ _ _ (d _ (by simp)) (d _ (by simp))
    |_::_::_::_,_=>rfl
   |min=>
    match p,d with
    | [],_=>rfl
    | [x],_=>rfl
    | [x,y],d=>exact t _ _ _ (d _ (by simp)) (d _ (by simp))
    |_::_::_::_,_=>rfl
   |append=>
    match p,d with
    | [],_=>rfl
    | [x],_=>rfl
    | [x,y],d=>show WR n r.toList x y j H k=WR n r.toList x y a H k;simp only[WR,ob,d x (by simp),d y (by simp)]
    |_::_::_::_,_=>rfl
   |copy=>
    match p,d with
    | [],_=>rfl
    | [x],_=>rfl
    | [x,y],d=>show Oe n r.toList x y j H k=Oe n r.toList x y a H k;simp only[Oe,ob,d x (by simp),d y (by simp)]
    |_::_::_::_,_=>rfl
   |cap=>
    match p,d with
    | [],_=>rfl
    | [x],d=>show Ud n r.toList x j H k=Ud n r.toList x a H k;simp only[Ud,ob,d x (by simp)]
    |_::_::_,_=>rfl
   |_=>rfl
 |_=>rfl
end
noncomputable def Eg (c:TB) (b:CH) (all:List Oper) (o:Oper) (a:GF) (H:GH):OR:=Option.casesOn (motive:=λ_=>OR) o.guard (Nc c b o.op a H Fc) λg=>ob (Gm all g.1) λe=>ob e.dst λd=>ob (Eh a d) λv=>evG c b o ⟨a,H⟩ g.2 v
theorem ZR {b:TB} {a:CH} {all:List Oper} {o:Oper} {k:GS->RS} {s:GS}:Jk b a all o k s=eH (Eg b a all o s.σ s.H) (opK o.dst s k):=by
 unfold Jk Eg;cases o.guard with
 |none=>exact ZY _ _
 |some g=>exact cW _ λd=>cW _ λc=>cW _ λv=>rfl
theorem DW {d:TB} {c:CH} {all:List Oper} {o:Oper} {k:GS->RS} {s:GS} {a:Nu} (h:Jk d c all o k s=some a):∃g b,Eg d c all o s.σ s.H=some (g,b)∧k ⟨putD o.dst g s.σ,b⟩=some a:=by
 rw[ZR]at h;obtain⟨g,b,e,f⟩:=mC h;exact⟨g,b,e,f⟩
theorem QA {c:TB} {b:CH} {all:List Oper} {o:Oper} {d a:GF} {H:GH} (h:∀t∈o.looksAt all.toArray,Eh d t=Eh a t):Eg c b all o d H=Eg c b all o a H:=by
 have e:Nc c b o.op d H Fc=Nc c b o.op a H Fc:=TZ λx l=>by
  cases x with
  |tmp t=>exact h t (List.mem_append_left _ (List.mem_filterMap.2 ⟨.tmp t,by simpa using l,rfl⟩))
  |_=>rfl
 unfold Eg;cases j:o.guard with
 |none=>exact e
 | some g =>
  show ob (Gm all g.1) _=ob (Gm all g.1) _;cases f:Gm all g.1 with
  |none=>rfl
  | some oj =>
   show ob oj.dst _=ob oj.dst _;cases i:oj.dst with
   |none=>rfl
   | some dj =>
    have k:dj∈o.looksAt all.toArray:=by
     rw[sP]at f;simp[Oper.looksAt,j,f,i]
    show ob (Eh d dj) (λv=>evG c b o ⟨d,H⟩ g.2 v)=ob (Eh a dj) (λv=>evG c b o ⟨a,H⟩ g.2 v);rw[h dj k];cases Eh a dj with
    |none=>rfl
    | some v =>
     show evG c b o ⟨d,H⟩ g.2 v=evG c b o ⟨a,H⟩ g.2 v;cases v with
     |bool q=>
      show Bool.casesOn (motive:=λ_=>OR) (Sg q g.2) (some (.un,H)) (Nc c b o.op d H Fc)=Bool.casesOn (motive:=λ_=>OR) (Sg q g.2) (some (.un,H)) (Nc c b o.op a H Fc);rw[e]
     |_=>rfl
section
variable {P:Program} {tb:TB} {gs:xR} {w0:d_ gs}
theorem DV {u:CH} {all:List Oper} {n:Nat} {o:Oper} {r:GF} {H k:GH} {g:GV} {ρ:dG} {a:Act} (F:kQ ρ n r a) (h:Eg tb u all o r H=some (g,k)):
  (Region.wanted o (yielded all.toArray a.tmps)=true∧Nc tb u o.op r H Fc=some (g,k))∨(Region.wanted o (yielded all.toArray a.tmps)=false∧g = .un∧k=H):=by
 unfold Eg at h;cases l:o.guard with
 |none=>
  rw[l]at h;exact .inl ⟨by simp[Region.wanted,l],h⟩
 | some gd =>
  rw[l]at h;obtain⟨A,m,h⟩:=aB.1 (show ob (Gm all gd.1) _=some (g,k)from h);obtain⟨i,s,h⟩:=aB.1 h;obtain⟨v,y,j⟩:=aB.1 h;have e:=F.slot i v y;rw[sP]at m;have t:yielded all.toArray a.tmps gd.1=(match a.tmps[i]? with|some (.bool b)=>some b|_=>none):=by
   unfold yielded;have:(all.toArray[gd.1]?).bind (·.dst)=some i:=by simp[m,s]
   rw[this];rfl
  cases v with
  | bool q =>
   have d:=e.bool_inv;have x:a.tmps[i]? = some (.bool q):=by
    simp only[Act.eval,Array.getD_eq_getD_getElem?]at d;cases p:a.tmps[i]? with
    |none=>rw[p]at d;cases d
    |some z=>rw[p]at d;simp at d;rw[d]
   rw[x]at t;have c:Bool.casesOn (motive:=λ_=>OR) (Sg q gd.2) (some (.un,H)) (Nc tb u o.op r H Fc)=some (g,k):=j;rw[EK]at c;have w:Region.wanted o (yielded all.toArray a.tmps)=(q==gd.2):=by
    simp only[Region.wanted,l];rw[t];cases q<;>cases gd.2<;>rfl
   cases f:(q==gd.2)with
   |true=>rw[f]at c;exact .inl ⟨by rw[w,f],c⟩
   |false=>rw[f]at c;cases c;exact .inr ⟨by rw[w,f],rfl,rfl⟩
  | un =>
   have d:=e.un_inv;cases j;refine .inr ⟨?_,rfl,rfl⟩;simp only[Region.wanted,l];rw[t];have:(match a.tmps[i]? with|some (.bool b)=>some b|_=>none)=(none:Option Bool):=by
    simp only[Act.eval,Array.getD_eq_getD_getElem?]at d;cases p:a.tmps[i]? with
    |none=>rfl
    |some z=>rw[p]at d;simp at d;rw[d];rfl
   rw[this];rfl
  |_=>cases j
theorem Ii {f:CH} (k:eI P tb) (c:qP P w0 f) {all:List Oper} {n:Nat} {o:Oper} {e:GF} {H b:GH} {g:GV} {d:dG} {a:Act} {w:World} (p:GU n o=true) (F:kQ d n e a) (R:eQ w0 d H w) (h:Eg tb f all o e H=some (g,b)):
  (Region.wanted o (yielded all.toArray a.tmps)=true∧Bi P w0 d e a w o g H b)∨(Region.wanted o (yielded all.toArray a.tmps)=false∧g = .un∧b=H):=by
 obtain⟨_,_,j⟩:=r_ p;rcases DV F h with⟨r,l⟩|h
 ·obtain⟨s,i,m,q⟩:=QF k c F R j l;cases m;exact .inl ⟨r,q⟩
 ·exact .inr h
def XN (tb:TB) (T:TypeId):Bool:=match tb T with
 |some t=>(match t.desc with|.array .. => false|_=>true)
 |none=>false
def pureOp (tb:TB):Op->Bool
 | .move _ | .assign _ | .pick .. | .build .. | .nilCheck _ | .binOp .. | .unOp .. | .convert .. | .makeFunc .. | .fieldAddr .. | .field .. | .indexAddr .. | .index .. | .extract .. => true
 | .slice T _ _ _ _=>XN tb T
 | .call ⟨.builtin .len,_,_⟩ | .call ⟨.builtin .max,_,_⟩ | .call ⟨.builtin .min,_,_⟩=>true
 |_=>false
def isFloat:Op->Bool
 | .buildSlice .. | .alloc .. | .box .. => true
 |_=>false
theorem fX {b:dG} {g:GV} {s:Sem Value} {a:Act} {o:Oper} (h:Bw P b s g) (c:∀w v,s.run P w = .ok v w->(execOp a.eval o).run P w = .ok (.value v) w):∃v,Rl b g v∧∀w,(execOp a.eval o).run P w = .ok (.value v) w:=
 let ⟨v,hv,hr⟩:=h;⟨v,hv,λw=>c w v (hr w)⟩
theorem WB {ih:CH} (E:eI P tb) {ρ:dG} {n:Nat} {s:GF} {a:Act} (F:kQ ρ n s a) {o:Oper} {H r:GH} {g:GV} (R:pureOp tb o.op=true) (aa:JJ o.op=true) (h:Nc tb ih o.op s H Fc=some (g,r)):
  r=H∧∃v,Rl ρ g v∧∀w,(execOp a.eval o).run P w = .ok (.value v) w:=by
 obtain⟨d,W,J,ad,ac,gd⟩:=o;cases W with
 |move x=>
  obtain⟨v,q,h⟩:=aB.1 (show ob (jY s x) _=some (g,r)from h);cases h;exact⟨rfl,_,cB F q,λw=>by simp[execOp]⟩
 |assign x=>
  obtain⟨v,q,h⟩:=aB.1 (show ob (jY s x) _=some (g,r)from h);cases h;exact⟨rfl,_,cB F q,λw=>by simp[execOp]⟩
 |pick c x y=>
  obtain⟨v,q,h⟩:=aB.1 (show ob (jY s c) _=some (g,r)from h);obtain⟨u,C,h⟩:=aB.1 h;obtain⟨t,ht,h⟩:=aB.1 h;obtain⟨z,k,h⟩:=aB.1 h;cases h;obtain⟨b,hb,k⟩:=aB.1 (show ob v.asB _=some g from k);have Y:=cB F q;rw[AU hb]at Y;cases b with
  |true=>cases k;exact⟨rfl,_,cB F C,λw=>by simp[execOp,Y.bool_inv,asBool]⟩
  |false=>cases k;exact⟨rfl,_,cB F ht,λw=>by simp[execOp,Y.bool_inv,asBool]⟩
 | build T ps =>
  obtain⟨vs,N,h⟩:=aB.1 (show ob (sO s ps.toList) _=some (g,r)from h);obtain⟨z,k,h⟩:=aB.1 h;cases h;exact⟨rfl,fX (Ln E (Bo F N) k) (λw v j=>by
   have e:(ps.toList.map λp=>(p.1,a.eval p.2)).toArray=ps.map λp=>(p.1,a.eval p.2):=by apply Array.toList_inj.1;simp
   rw[e]at j;simp[execOp,j])⟩
 |nilCheck x=>
  obtain⟨v,q,h⟩:=aB.1 (show ob (jY s x) _=some (g,r)from h);obtain⟨z,k,h⟩:=aB.1 h;cases h;obtain⟨rfl,j⟩:=Ov (P:=P) (cB F q) k;exact⟨rfl,_,cB F q,λw=>j _ x a.eval Z Z w⟩
 | binOp W T x y T' =>
  obtain⟨v,q,h⟩:=aB.1 (show ob (jY s x) _=some (g,r)from h);obtain⟨u,C,h⟩:=aB.1 h;obtain⟨z,k,h⟩:=aB.1 h;cases h;exact⟨rfl,fX (Tb E x y (cB F q) (cB F C) k) (λw v j=>by
   simp only[execOp];simp at j ⊢;cases V:Sem.run P (eqGuard W T x y (a.eval x) (a.eval y)) w with
   |ok u w1=>rw[V]at j;simp at j;simp[j]
   |halt h1 w1=>rw[V]at j;cases j)⟩
 |unOp W T x=>
  obtain⟨v,q,h⟩:=aB.1 (show ob (jY s x) _=some (g,r)from h);obtain⟨z,k,h⟩:=aB.1 h;cases h;exact⟨rfl,fX (Yo (cB F q) k) (λw v j=>by simp[execOp,j])⟩
 |convert S D x=>
  obtain⟨v,q,h⟩:=aB.1 (show ob (jY s x) _=some (g,r)from h);obtain⟨z,k,h⟩:=aB.1 h;cases h;exact⟨rfl,fX (Ps E (cB F q) k) (λw v j=>by simp[execOp,j])⟩
 | makeFunc fn first caps =>
  cases fn with
  |func f=>
   obtain⟨us,ab,h⟩:=aB.1 (show ob (EO s first.toList) _=some (g,r)from h);obtain⟨vs,N,h⟩:=aB.1 h;cases h;refine⟨rfl,_,Rl.fn' (DX F ab) (DX F N),λw=> ?_⟩
   have e1:(first.toList.map a.eval).toArray=first.map a.eval:=by apply Array.toList_inj.1;simp
   have e2:(caps.toList.map a.eval).toArray=caps.map a.eval:=by apply Array.toList_inj.1;simp
   rw[e1,e2];simp[execOp,Instr.makeFunc]
  |_=>cases h
 |fieldAddr T x f=>
  obtain⟨v,q,h⟩:=aB.1 (show ob (jY s x) _=some (g,r)from h);obtain⟨z,k,h⟩:=aB.1 h;cases h;exact⟨rfl,fX (Lo E (cB F q) k) (λw v j=>by simp[execOp,j])⟩
 |field T x f=>
  obtain⟨v,q,h⟩:=aB.1 (show ob (jY s x) _=some (g,r)from h);obtain⟨z,k,h⟩:=aB.1 h;cases h;exact⟨rfl,fX (Px E (cB F q) k) (λw v j=>by simp[execOp,j])⟩
 |indexAddr T x y=>
  obtain⟨v,q,h⟩:=aB.1 (show ob (jY s x) _=some (g,r)from h);obtain⟨u,C,h⟩:=aB.1 h;obtain⟨z,k,h⟩:=aB.1 h;cases h;exact⟨rfl,fX (Lq E (cB F q) (cB F C) k) (λw v j=>by simp[execOp,j])⟩
 |index T x y=>
  obtain⟨v,q,h⟩:=aB.1 (show ob (jY s x) _=some (g,r)from h);obtain⟨u,C,h⟩:=aB.1 h;obtain⟨z,k,h⟩:=aB.1 h;cases h;exact⟨rfl,fX (Ye E (cB F q) (cB F C) k) (λw v j=>by simp[execOp,j])⟩
 | slice T x lo hi mx =>
  cases mx with
  | none =>
   obtain⟨v,q,h⟩:=aB.1 (show ob (jY s x) _=some (g,r)from h);obtain⟨l,hl,h⟩:=aB.1 h;obtain⟨e,he,h⟩:=aB.1 h;obtain⟨z,k,h⟩:=aB.1 h;cases h;have hA:∀t,tb T=some t->tdA t.desc=none:=λt ht=>by
    have U:XN tb T=true:=R;unfold XN at U;rw[ht]at U;simp only at U;cases V:t.desc<;>rw[V]at U<;>first|rfl|cases U
   exact⟨rfl,fX (Lr (gs:=noG) E (.inr hA) (cB F q) (Im F hl) (Im F he) k) (λw v j=>by simp[execOp,j])⟩
  |some y=>cases h
 |extract x i=>
  obtain⟨v,q,h⟩:=aB.1 (show ob (jY s x) _=some (g,r)from h);obtain⟨z,k,h⟩:=aB.1 h;cases h;exact⟨rfl,fX (Td (cB F q) k) (λw v j=>by simp[execOp,j])⟩
 | call c =>
  obtain⟨X,Q,B⟩:=c;cases X with
  |value f=>cases R
  |invoke x m=>cases R
  | builtin b =>
   have A:B.size=Q.size:=Nat.eq_of_beq_eq_true aa;have h:QN tb Q B b s H Fc=some (g,r):=h;cases b with
   | len =>
    obtain⟨x,O,h⟩:=BV (show Jw Q.toList (Ue tb B.toList) s H Fc=some (g,r)from h);obtain⟨T,M,h⟩:=aB.1 (show ob (Gm B.toList 0) _=some (g,r)from h);obtain⟨v,q,h⟩:=aB.1 h;obtain⟨z,k,h⟩:=aB.1 h;cases h;have L:=Iy O;subst L;have K:B = #[T]:=by
     rw[sP]at M;obtain⟨l⟩:=B
     match l,A with
     | [t],_=>simp at M;subst M;rfl
    subst K;exact⟨rfl,fX (Te E (ty:=J) (cB F q) k) (λw v j=>by simp[execOp,resolve,invoke,builtin,j])⟩
   | cap =>
    obtain⟨x,O,h⟩:=BV (show Jw Q.toList (Ud tb B.toList) s H Fc=some (g,r)from h);obtain⟨T,M,h⟩:=aB.1 (show ob (Gm B.toList 0) _=some (g,r)from h);obtain⟨v,q,h⟩:=aB.1 h;obtain⟨z,k,h⟩:=aB.1 h;cases h;have L:=Iy O;subst L;have K:B = #[T]:=by
     rw[sP]at M;obtain⟨l⟩:=B
     match l,A with
     | [t],_=>simp at M;subst M;rfl
    subst K;exact⟨rfl,fX (Tc E (ty:=J) (cB F q) k) (λw v j=>by simp[execOp,resolve,invoke,builtin,j])⟩
   | max =>
    obtain⟨x,y,O,h⟩:=wX (show De Q.toList (λx y=>k2 x y Yl) s H Fc=some (g,r)from h);obtain⟨v,q,h⟩:=aB.1 (show ob (jY s x) _=some (g,r)from h);obtain⟨u,C,h⟩:=aB.1 h;obtain⟨z,k,h⟩:=aB.1 h;cases h;have L:=Ef O;subst L;obtain⟨G,I,K⟩:∃G I,B = #[G,I]:=by
     obtain⟨l⟩:=B
     match l,A with
     | [t,t'],_=>exact⟨t,t',rfl⟩
    subst K;exact⟨rfl,fX (Tg (t1:=G) (t2:=I) (ty:=J) (cB F q) (cB F C) k) (λw v j=>by simp[execOp,resolve,invoke,builtin,j])⟩
   | min =>
    obtain⟨x,y,O,h⟩:=wX (show De Q.toList (λx y=>k2 x y Ym) s H Fc=some (g,r)from h);obtain⟨v,q,h⟩:=aB.1 (show ob (jY s x) _=some (g,r)from h);obtain⟨u,C,h⟩:=aB.1 h;obtain⟨z,k,h⟩:=aB.1 h;cases h;have L:=Ef O;subst L;obtain⟨G,I,K⟩:∃G I,B = #[G,I]:=by
     obtain⟨l⟩:=B
     match l,A with
     | [t,t'],_=>exact⟨t,t',rfl⟩
    subst K;exact⟨rfl,fX (Ti (t1:=G) (t2:=I) (ty:=J) (cB F q) (cB F C) k) (λw v j=>by simp[execOp,resolve,invoke,builtin,j])⟩
   |_=>cases R
 |_=>cases R
theorem Pr (hG:eI P tb) {T:TypeId} {n:Nat} {l:List (Nat×GV)} {parts:List (Nat×Value)} {ρ:dG} {H H':GH} {g:GV} (hp:RlP ρ l parts) (h:xQ tb T n l H=some (g,H')):
  ∃cs a' T' len sz,H'=H.new (.cells cs)∧g = .sl H.n 0 len sz∧Tw ρ cs a'∧cs.length=a'.size∧∀w:World,∃V,(Instr.buildSlice T n parts.toArray).run P w = .ok V (w.alloc (.cells a' T'))∧∀ρ':dG,ρ' H.n=some ⟨w.heap.size,0,a'.size,.cells a' T',.cells cs⟩->Rl ρ' g V:=by
 obtain⟨te,hte,h⟩:=aB.1 (show ob (zP tb T) _=some (g,H')from h);obtain⟨zc,hz,h⟩:=aB.1 h;obtain⟨hlen,h⟩:=bL.1 h;obtain⟨hbig,h⟩:=bL.1 h;obtain⟨h0,h⟩:=kI.1 h;obtain⟨cs,hfill,h⟩:=aB.1 h;rw[iM]at h;cases h;obtain⟨⟨d,hd,hde⟩,hE,htab⟩:=wU hG hte;obtain⟨dz,hdz,_,hC⟩:=uX (ρ:=ρ) hG hz;rw[htab]at hdz;cases hdz;have hlen:zc.length=te.2.size:=Nat.eq_of_beq_eq_true hlen;have h0:te.2.size≠0:=λe=>by rw[e]at h0;cases h0
 have hbig:n*te.2.size<16777216:=by simpa [Nat.blt_eq]using hbig
 have hrep:=Iv hC (by omega) n;rw[hlen]at hrep;obtain⟨a',f1,f2⟩:=DY hp hrep hfill;have hsz0:cs.length=a'.size:=by have:=f2.r.len;simpa using this
 have hsz:a'.size=n*te.2.size:=by
  have e1:=f2.r.len;have:cs.length=(PN zc n).length:=EP hfill;rw[this,FQ,hlen]at e1;simp at e1;omega
 refine⟨cs,a',te.1,n,te.2.size,rfl,rfl,f2,hsz0,λw=>⟨.slice (some ⟨w.heap.size,0,none⟩) n n,?_,λρ' hρ=> .sl (l:=⟨w.heap.size,0,a'.size,.cells a' te.1,.cells cs⟩) hρ (Nat.le_refl _) (.inr ⟨rfl,by simp[hsz]⟩)⟩⟩
 have hu:=hd.run_und w;rw[hde]at hu;by_cases hn:n*te.2.size=0
 ·have hz0:n=0:=by rcases Nat.mul_eq_zero.1 hn with h|h;exact h;exact absurd h h0
  subst hz0;have e0:(Array.range (0*te.2.size)).map (te.2.zero.cells[· % te.2.zero.cells.size]!)=(#[]:Array Value):=by simp
  rw[e0]at f1;have e1:(Array.range 0).map (λ_=>(default:Value)) = #[]:=by simp
  simp[Instr.buildSlice,hu,hE.run_size w,newRow];simp[e1,f1]
 ·simp[Instr.buildSlice,hu,hE.run_size w,hE.run_zero w,hn,f1,newRow,show¬(16777216<n*te.2.size) by omega]
theorem Rl.cut {t u w:dG} (x:∀h A l,t h=some A->u h=some l->w h=some l) {g:GV} {v:Value} (C:Rl u g v):∀{r:Value},Rl t g r->Rl w g v:=by
 induction C with
 |int k n=>exact λ_=> .int k n
 |bool b=>exact λ_=> .bool b
 |str s=>exact λ_=> .str s
 |ptr y q=>exact λj=>by cases j with|ptr _ m=>exact .ptr y (x _ _ _ m q)
 |pnil=>exact λ_=> .pnil
 |sl q E D=>exact λj=>by cases j with|sl m _ _=>exact .sl (x _ _ _ m q) E D
 |snil=>exact λ_=> .snil
 |map q=>exact λj=>by cases j with|map m=>exact .map (x _ _ _ m q)
 | fn f a b c d ihb ihd =>
   intro r j;cases j with
   | fn _ z p B d0 =>
    refine .fn f a (λi g v e o=> ?_) c (λi g v e o=> ?_)
    ·have:=a_ e;exact ihb i g v e o (p i g _ e (List.getElem?_eq_getElem (by omega)))
    ·have:=a_ e;exact ihd i g v e o (d0 i g _ e (List.getElem?_eq_getElem (by omega)))
 |fnil=>exact λ_=> .fnil
 |inil=>exact λ_=> .inil
 | agg a b c ihb =>
   intro r j;cases j with
   |agg z p B=>
    refine .agg a (λi g v e o=> ?_) c;have:=a_ e;exact ihb i g v e o (p i g _ e (List.getElem?_eq_getElem (by omega)))
 | tup a b ihb =>
   intro r j;cases j with
   |tup z p=>
    refine .tup a (λi g v e o=> ?_);have:=a_ e;exact ihb i g v e o (p i g _ e (List.getElem?_eq_getElem (by omega)))
 |un=>exact λ_=> .un
 |bad v=>exact λ_=> .bad v
 | opn v h hx =>
   intro r j;obtain⟨A,a,_⟩:=j.opn_inv;exact .opn v (x _ _ _ a h) hx
structure Trc (tb:TB) (ih:CH) (all l:List Oper) (S:Nat->GF) (HH:Nat->GH) (gg:Nat->GV):Prop where
 st:∀i o,l[i]? = some o->Eg tb ih all o (S i) (HH i)=some (gg i,HH (i+1))
 up:∀i o,l[i]? = some o->S (i+1)=putD o.dst (gg i) (S i)
theorem KL {d:CH} {all:List Oper} {k:GS->RS} {b:Nu}:∀(l:List Oper) (s:GS),Es tb d all k l s=some b->∃S c e,S 0=s.σ∧c 0=s.H∧Trc tb d all l S c e∧k ⟨S l.length,c l.length⟩=some b
 | [],s,h=>⟨λ_=>s.σ,λ_=>s.H,λ_=> .un,rfl,rfl,⟨λi o a=>by simp at a,λi o a=>by simp at a⟩,h⟩
 | o :: l, s, h => by
  obtain⟨g,t,p,q⟩:=DW (show Jk tb d all o (Es tb d all k l) s=some b from h);obtain⟨S,c,e,m,n,j,r⟩:=KL l _ q;refine⟨λi=>Nat.casesOn i s.σ S,λi=>Nat.casesOn i s.H c,λi=>Nat.casesOn i g e,rfl,rfl,⟨λi f a=> ?_,λi f a=> ?_⟩,r⟩
  ·cases i with
   |zero=>simp at a;subst a;show Eg tb d all o s.σ s.H=some (g,c 0);rw[p,n]
   |succ i=>exact j.st i f (by simpa using a)
  ·cases i with
   |zero=>simp at a;subst a;exact m
   |succ i=>exact j.up i f (by simpa using a)
theorem wY {o:Op} (h:lP o=true):dO o=false:=by
 cases o<;>first|rfl|cases h
structure Vrs (all l:List Oper) (m:List Nat) (i:Nat) (S:Nat->GF) (HH:Nat->GH) (pr:List (Nat×Option (Nat×Nat))) (hs:List (Nat×GH)):Prop where
 pr:∀q h v,(q,some (h,v))∈pr->∀j oj,l[j]? = some oj->dO oj.op=true->before m (i+j) q=false->(HH (j+1)).ver h=some v
 hs:∀k ok h,l[k]? = some ok->lP ok.op=true->ldH (S k) ok.op=some h->∃v,(HH k).ver h=some v∧∀q Hq,(q,Hq)∈hs->before m (i+k) q=false->Hq.ver h=some v
 lo:∀k ok h v,l[k]? = some ok->lP ok.op=true->ldH (S k) ok.op=some h->(HH k).ver h=some v->
  (∀j oj,j<k->l[j]? = some oj->dO oj.op=true->before m (i+k) (i+j)=false->(HH j).ver h=some v)∧(∀j oj,k<j->l[j]? = some oj->dO oj.op=true->before m (i+j) (i+k)=false->(HH (j+1)).ver h=some v)
theorem Vrs.cons {all l:List Oper} {m:List Nat} {i:Nat} {S:Nat->GF} {B:Nat->GH} {G x:List (Nat×Option (Nat×Nat))} {F u:List (Nat×GH)} {o:Oper} {L:GF} {H:GH} (V:Vrs all l m (i+1) S B x u)
  (E:∀p∈G,p∈x) (C:∀p∈F,p∈u) (I:dO o.op=true->(i,H)∈u∧∀p∈G,before m i p.1=false->∀d,p.2=some d->(B 0).ver d.1=some d.2)
  (J:lP o.op=true->∀h,ldH L o.op=some h->∃v,H.ver h=some v∧(i,some (h,v))∈x∧∀q y,(q,y)∈F->before m i q=false->y.ver h=some v):
  Vrs all (o::l) m i (λj=>Nat.casesOn j L S) (λj=>Nat.casesOn j H B) G F:=by
 have e:∀j,i+(j+1)=i+1+j:=λj=>by omega
 refine⟨λq h v z j w g s f=> ?_,λk A h n s t=> ?_,λk A h v n s t d=>⟨λj w D g r f=> ?_,λj w D g r f=> ?_⟩⟩
 ·cases j with
  |zero=>simp at g;subst g;exact(I s).2 _ z (by simpa using f) _ Z
  |succ j=>exact V.pr q h v (E _ z) j w (by simpa using g) s (by rw[<-e];exact f)
 ·cases k with
  |zero=>
   simp at n;subst n;obtain⟨v,a,_,c⟩:=J s h t;exact⟨v,a,λq y z f=>c q y z (by simpa using f)⟩
  |succ k=>
   obtain⟨v,a,b⟩:=V.hs k A h (by simpa using n) s t;exact⟨v,a,λq y z f=>b q y (C _ z) (by rw[<-e];exact f)⟩
 ·cases k with
  |zero=>omega
  | succ k =>
   have n:l[k]? = some A:=by simpa using n
   cases j with
   |zero=>
    simp at g;subst g;obtain⟨K,a,b⟩:=V.hs k A h n s t;have a:(B k).ver h=some K:=a;have d:(B k).ver h=some v:=d;rw[a]at d;cases d;exact b i H (I r).1 (by rw[<-e];simpa using f)
   |succ j=>exact(V.lo k A h v n s t d).1 j w (by omega) (by simpa using g) r (by rw[<-e,<-e];exact f)
 ·cases j with
  |zero=>omega
  | succ j =>
   have g:l[j]? = some w:=by simpa using g
   cases k with
   |zero=>
    simp at n;subst n;obtain⟨K,a,b,_⟩:=J s h t;have d:H.ver h=some v:=d;rw[a]at d;cases d;exact V.pr i h v b j w g r (by rw[<-e];simpa using f)
   |succ k=>exact(V.lo k A h v (by simpa using n) s t d).2 j w (by omega) g r (by rw[<-e,<-e];exact f)
theorem Ij {x:CH} {all:List Oper} {m:List Nat} {k:GS->RS} {A:Nu}:∀(l:List Oper) (i:Nat) (J:List (Nat×Option (Nat×Nat))) (D:List (Nat×GH)) (s:GS),evW tb x all m k l i J D s=some A->
  ∃S a r,S 0=s.σ∧a 0=s.H∧Trc tb x all l S a r∧Vrs all l m i S a J D∧k ⟨S l.length,a l.length⟩=some A
 | [],i,J,D,s,h=>⟨λ_=>s.σ,λ_=>s.H,λ_=> .un,rfl,rfl,⟨λi o d=>by simp at d,λi o d=>by simp at d⟩,⟨λ_ _ _ _ j Y V=>by simp at V,λk X h f=>by simp at f,λk X h v f=>by simp at f⟩,h⟩
 | o :: l, i, J, D, s, h => by
  have t:Wn tb x all m o (evW tb x all m k l) i J D s=some A:=h;have B:∀{g:GV} {C:GH} {S:Nat->GF} {a:Nat->GH} {r:Nat->GV},Eg tb x all o s.σ s.H=some (g,C)->S 0=putD o.dst g s.σ->a 0=C->Trc tb x all l S a r->Trc tb x all (o::l) (λj=>Nat.casesOn j s.σ S) (λj=>Nat.casesOn j s.H a) (λj=>Nat.casesOn j g r):=λ{g C S a r} z y n w=>⟨λi O d=>by
    cases i with
    |zero=>simp at d;subst d;show Eg tb x all o s.σ s.H=some (g,a 0);rw[z,n]
    |succ i=>exact w.st i O (by simpa using d),λi O d=>by
    cases i with
    |zero=>simp at d;subst d;exact y
    |succ i=>exact w.up i O (by simpa using d)⟩
  unfold Wn at t;cases b:dO o.op with
  |true=>
   rw[b]at t;obtain⟨g,C,z,E⟩:=DW t;obtain⟨_,u,K⟩:=aB.1 E;have u:=CZ u;obtain⟨S,a,r,y,n,w,I,f⟩:=Ij l _ _ _ _ K;refine⟨_,_,_,rfl,rfl,B z y n w,I.cons (λ_ h=>h) (λp G=>List.mem_cons_of_mem _ G) (λ_=>⟨List.mem_cons_self,λp G L M U=>by rw[n];exact u p G L M U⟩) (λc=>by rw[wY c]at b;cases b),f⟩
  | false =>
   rw[b]at t;cases c:lP o.op with
   |true=>
    simp only[c]at t;obtain⟨g,C,z,E⟩:=DW t;obtain⟨e,u,K⟩:=aB.1 E;obtain⟨S,a,r,y,n,w,I,f⟩:=Ij l _ _ _ _ K;refine⟨_,_,_,rfl,rfl,B z y n w,I.cons (λp G=>List.mem_cons_of_mem _ G) (λ_ h=>h) (λh=>by rw[b]at h;cases h) (λ_ Q F=> ?_),f⟩
    rw[F]at u;obtain⟨v,N,u⟩:=aB.1 (show ob (s.H.ver Q) (λv=>Ja m i Q v D)=some e from u);obtain⟨rfl,T⟩:=C_ u;exact⟨v,N,List.mem_cons_self,λq R W L=>T (q,R) W L⟩
   |false=>
    simp only[c]at t;obtain⟨g,C,z,E⟩:=DW t;obtain⟨S,a,r,y,n,w,I,f⟩:=Ij l _ _ _ _ E;exact⟨_,_,_,rfl,rfl,B z y n w,I.cons (λ_ h=>h) (λ_ h=>h) (λh=>by rw[b]at h;cases h) (λh=>by rw[c]at h;cases h),f⟩
theorem Wm {s:CH} (t:eI P tb) (p:qP P w0 s) {all:List Oper} {n:Nat} {o:Oper} {q:GF} {H k:GH} {g:GV} {d:dG} {a:Act} {w:World} (r:GU n o=true) (F:kQ d n q a) (R:eQ w0 d H w) (h:Eg tb s all o q H=some (g,k)):
  ∃b i e,d.le b∧eQ w0 b k e∧kQ b n (putD o.dst g q) i:=by
 obtain⟨_,c,_⟩:=r_ r;rcases Ii t p r F R h with⟨_,x⟩|⟨_,rfl,rfl⟩
 ·rcases x with⟨_,_,_,rfl,v,f,_⟩|⟨_,_,rfl,v,_,_,_,_,_,f,_⟩|⟨_,_,rfl,v,f,_⟩|⟨_,u⟩
  ·exact⟨d,_,w,dG.le_refl _,R,F.putD c f⟩
  ·exact⟨d,_,w,dG.le_refl _,R,F.putD c f⟩
  ·exact⟨d,_,w,dG.le_refl _,R,F.putD c f⟩
  ·obtain⟨i,e,b,v,j,l,m,rfl⟩:=Ox (u (λi e=>∃b v,d.le b∧eQ w0 b k e∧Rl b g v∧i=a.put o.dst v) λb e v j l m=>⟨b,v,j,l,m,rfl⟩);exact⟨b,_,e,j,l,(F.le j).putD c m⟩
 ·exact⟨d,_,w,dG.le_refl _,R,F.putD c .un⟩
theorem Lj {q:CH} (p:eI P tb) (f:qP P w0 q) {all:List Oper} {n:Nat} (c:all.all (GU n)=true) {S:Nat->GF} {g:Nat->GH} {u:Nat->GV} (T:Trc tb q all all S g u) {k:dG} {a:Act} {w:World} (F:kQ k n (S 0) a) (R:eQ w0 k (g 0) w):
    ∀m,m<=all.length->∃b:Nat->dG,(∀i,i<=m->∃a w,eQ w0 (b i) (g i) w∧kQ (b i) n (S i) a)∧∀i,i<m->(b i).le (b (i+1))
  | 0, _ => ⟨λ_ => k, λi h => by
      have : i = 0 := by omega
      subst this;exact⟨a,w,R,F⟩,λi h=>by omega⟩
  | m + 1, hm => by
    obtain⟨b,o,v⟩:=Lj p f c T F R m (by omega);obtain⟨A,B,s,r⟩:=o m (Nat.le_refl _);have d:all[m]? = some all[m]:=List.getElem?_eq_getElem (by omega);obtain⟨l,t,z,j,x,y⟩:=Wm p f (List.all_eq_true.1 c _ (List.getElem_mem (by omega))) r s (T.st m _ d);refine⟨λi=>if i<=m then b i else l,λi h=> ?_,λi h=> ?_⟩
    · by_cases e:i<=m
      · simp only[e,if_true];exact o i e
      · have:i=m+1:=by omega
        subst this;simp only[e,if_false];exact⟨t,z,x,by rw[T.up m _ d];exact y⟩
    · by_cases e:i+1<=m
      · simp only[e,show i<=m by omega,if_true];exact v i (by omega)
      · have:i=m:=by omega
        subst this;simp only[e,Nat.le_refl,if_true,if_false];exact j
theorem Po {a:Nat->GH} {m:Nat} (b:∀i,i<m->(a i).n<=(a (i+1)).n) {i:Nat}:∀{j:Nat},i<=j->j<=m->(a i).n<=(a j).n
  | 0, h, _ => by
      have : i = 0 := by omega
      subst this;exact Nat.le_refl _
  | j + 1, h, hj => by
    by_cases e:i=j+1
    · subst e;exact Nat.le_refl _
    · exact Nat.le_trans (Po b (by omega) (by omega)) (b j (by omega))
theorem J_ {w:CH} {all:List Oper} {S:Nat->GF} {u:Nat->GH} {n:Nat->GV} (T:Trc tb w all all S u n) {t:Nat} {g:GV}:∀k,k<=all.length->Eh (S k) t=some g->
  (∃i o,i<k∧all[i]? = some o∧o.dst=some t∧n i=g∧∀j a,i<j->j<k->all[j]? = some a->a.dst≠some t)∨((∀j a,j<k->all[j]? = some a->a.dst≠some t)∧Eh (S 0) t=some g)
 |0,_,h=> .inr ⟨λj a s=>by omega,h⟩
 | k + 1, hk, h => by
  have c:all[k]? = some all[k]:=List.getElem?_eq_getElem (by omega);rw[T.up k _ c]at h;have m:all[k].dst≠some t->Eh (S k) t=some g->_:=λl h=>
   match J_ T k (by omega) h with
   | .inl ⟨i, o, q, p, h3, h4, h5⟩ => (.inl ⟨i, o, by omega, p, h3, h4, λj a r s b => by
     by_cases e:j=k
     ·subst e;rw[c]at b;cases b;exact l
     ·exact h5 j a r (by omega) b⟩:(∃i o,i<k+1∧all[i]? = some o∧o.dst=some t∧n i=g∧∀j a,i<j->j<k+1->all[j]? = some a->a.dst≠some t)∨((∀j a,j<k+1->all[j]? = some a->a.dst≠some t)∧Eh (S 0) t=some g))
   | .inr ⟨q, p⟩ => .inr ⟨λj a s b => by
     by_cases e:j=k
     ·subst e;rw[c]at b;cases b;exact l
     ·exact q j a (by omega) b,p⟩
  cases f:all[k].dst with
  |none=>
   rw[f]at h;exact m (by rw[f];simp) h
  | some d =>
   rw[f]at h;have h:Eh ((d,n k)::S k) t=some g:=h;rw[zQ]at h;by_cases e:t=d
   ·subst e;rw[if_pos Z]at h;cases h;exact .inl ⟨k,_,by omega,c,f,rfl,λj a q p=>by omega⟩
   ·rw[if_neg e]at h;exact m (by rw[f];intro v;cases v;exact e Z) h
def mG (o:Op):Bool:=dO o && !isFloat o
def Hx (tb:TB) (x o:Op):Bool:=pureOp tb x||pureOp tb o||isFloat o||(!dO x && !dO o)||(lP x&&dO o)||(mG x&&lP o)
def chkF (tb:TB) (l:List Oper) (m:List Nat):Bool:=
 (List.range l.length).all λi=>match l[i]? with
  |none=>false
  |some o=>
   (sG o).all (λe=>Nat.blt e i&&before m i e&&(List.range i).all (λk=> !before m e k||before m i k)) &&
   (List.range l.length).all (λk=> !before m i k||(Nat.blt k i&&(sG o).any (λe=>Nat.beq e k||before m e k))) &&
   !Bp o.op &&
   (List.range i).all (λx=>before m i x||(match l[x]? with|none=>false|some a=>a.apart l.toArray o&&Hx tb a.op o.op))
structure UI (tb:TB) (l:List Oper) (m:List Nat):Prop where
 edge:∀(i:Nat) (o:Oper),l[i]? = some o->∀e∈sG o,e<i∧before m i e=true
 trans:∀(i:Nat) (o:Oper),l[i]? = some o->∀k,before m i k=true->k<l.length->k<i∧∃e∈sG o,e=k∨before m e k=true
 ind:∀(i x:Nat) (oi ox:Oper),l[i]? = some oi->l[x]? = some ox->x<i->before m i x=false->ox.apart l.toArray oi=true∧Hx tb ox.op oi.op=true
theorem GA {l:List Oper} {m:List Nat} (h:chkF tb l m=true):UI tb l m:=by
 have b:∀(i:Nat) (o:Oper),l[i]? = some o->
   ((sG o).all (λe=>Nat.blt e i&&before m i e&&(List.range i).all (λk=> !before m e k||before m i k))=true)∧
   ((List.range l.length).all (λk=> !before m i k||(Nat.blt k i&&(sG o).any (λe=>Nat.beq e k||before m e k)))=true)∧Bp o.op=false∧
   ((List.range i).all (λx=>before m i x||(match l[x]? with|none=>false|some g=>g.apart l.toArray o&&Hx tb g.op o.op))=true):=by
  intro i o c;have:=List.all_eq_true.1 h i (List.mem_range.2 (a_ c));simp only[c,Bool.and_eq_true,Bool.not_eq_true']at this;exact⟨this.1.1.1,this.1.1.2,this.1.2,this.2⟩
 refine⟨?_,?_,?_⟩
 ·intro i o c e f;have:=List.all_eq_true.1 (b i o c).1 e f;simp only[Bool.and_eq_true,Nat.blt_eq]at this;exact⟨this.1.1,this.1.2⟩
 ·intro i o c k q a;have:=List.all_eq_true.1 (b i o c).2.1 k (List.mem_range.2 a);simp only[q,Bool.not_true,Bool.false_or,Bool.and_eq_true,Nat.blt_eq,List.any_eq_true,Bool.or_eq_true]at this;obtain⟨j,e,f,d⟩:=this;refine⟨j,e,f,?_⟩
  rcases d with d|d
  ·exact .inl (Nat.eq_of_beq_eq_true d)
  ·exact .inr d
 ·intro i x s g p r a n;have:=(b i s p).2.2.2;have:=List.all_eq_true.1 this x (List.mem_range.2 a);simp only[n,Bool.false_or,r,Bool.and_eq_true]at this;exact this
theorem KP {X:CH} (I:eI P tb) {all:List Oper} {n:Nat} {o:Oper} {z:GF} {H f:GH} {g:GV} {y:dG} {a:Act} (S:isFloat o.op=true) (F:kQ y n z a) (h:Eg tb X all o z H=some (g,f)):
  (Region.wanted o (yielded all.toArray a.tmps)=false∧g = .un∧f=H)∨
  (Region.wanted o (yielded all.toArray a.tmps)=true∧∃k i u,f=H.new (.cells k)∧Tw y k i∧k.length=i.size∧∀w:World,∃V,(execOp a.eval o).run P w = .ok (.value V) (w.alloc (.cells i u))∧∀c:dG,c H.n=some ⟨w.heap.size,0,i.size,.cells i u,.cells k⟩->Rl c g V):=by
 rcases DV F h with⟨U,b⟩|h
 ·refine .inr ⟨U,?_⟩;obtain⟨d,op,ty,aa,L,gd⟩:=o;cases op with
  |buildSlice T m D=>
   obtain⟨vs,C,b⟩:=aB.1 (show ob (sO z D.toList) _=some (g,f)from b);obtain⟨E,q,b,s⟩:=mC b;cases s;obtain⟨k,i,u,Y,sz,A,h2,M,N,O⟩:=Pr (P:=P) I (Bo F C) b;refine⟨k,i,u,A,M,N,λw=> ?_⟩
   obtain⟨V,t,B⟩:=O w;refine⟨V,?_,B⟩
   have e:(D.toList.map λp=>(p.1,a.eval p.2)).toArray=D.map λp=>(p.1,a.eval p.2):=by apply Array.toList_inj.1;simp
   rw[e]at t;simp[execOp,t]
  |alloc T=>
   obtain⟨E,q,b,s⟩:=mC (show eH (mQ tb T H) Fc=some (g,f)from b);cases s;obtain⟨K,W,b⟩:=aB.1 (show ob (Be tb T) _=some (g,f)from b);rw[iM]at b;cases b;obtain⟨d,hd,Q,G⟩:=uX (ρ:=y) I W;refine⟨K,d.zero.cells,T,rfl,G,by have:=G.r.len;simpa using this,λw=>⟨_,?_,λc j=> .ptr (l:=⟨w.heap.size,0,d.zero.cells.size,.cells d.zero.cells T,.cells K⟩) 0 j⟩⟩
   simp[execOp,Hc w Q]
  |box T x=>
   obtain⟨v,B,b⟩:=aB.1 (show ob (jY z x) (λv=>eH (MY v H) Fc)=some (g,f)from b);obtain⟨E,q,b,s⟩:=mC b;cases s;obtain⟨J,R,b⟩:=aB.1 (show ob v.cells _=some (g,f)from b);rw[iM]at b;cases b;obtain⟨vs,e,t,A⟩:=(cB F B).cells R;refine⟨J,(a.eval x).cells,T,rfl,by rw[e];exact⟨t,A⟩,by rw[e];have:=t.len;simpa using this,λw=>⟨_,?_,λc j=> .ptr (l:=⟨w.heap.size,0,(a.eval x).cells.size,.cells (a.eval x).cells T,.cells J⟩) 0 j⟩⟩
   simp[execOp,Instr.box,newVar,newRow]
  |_=>cases S
 ·exact .inl h
end
def Fb (b a:dG):dG:=λh=>match b h with
 |some l=>some l
 |none=>a h
theorem vK {a b:dG} {h:Nat} {l:Kx} (e:a h=some l):Fb a b h=some l:=by simp[Fb,e]
theorem vJ {b a:dG} {h:Nat} (e:b h=none):Fb b a h=a h:=by simp[Fb,e]
theorem FH {a b:dG}:a.le (Fb a b):=λ_ _ e=>vK e
def SlD (all:List Oper) (b:GF) (c:Nat->GV) (D:Nat->Bool) (t:Nat) (g:GV):Prop:=
 (∃i o,D i=true∧all[i]? = some o∧o.dst=some t∧c i=g∧∀j a,D j=true->all[j]? = some a->a.dst=some t->j<=i)∨((∀j a,D j=true->all[j]? = some a->a.dst≠some t)∧Eh b t=some g)
def ins (D:Nat->Bool) (k:Nat):Nat->Bool:=λj=>j==k||D j
theorem zS (D:Nat->Bool) (k:Nat):ins D k k=true:=by simp[ins]
theorem yH {D:Nat->Bool} {k j:Nat} (h:j≠k):ins D k j=D j:=by simp[ins,h]
theorem zR {D:Nat->Bool} {k j:Nat} (h:D j=true):ins D k j=true:=by simp[ins,h]
noncomputable def Cu (σ:GF) (L:pF):GF:=L.filterMap λt=>(Eh σ t).map λg=>(t,g)
theorem Bn {σ:GF} {t:Nat}:∀{L:pF},Eh (Cu σ L) t=if t∈L then Eh σ t else none
 | []=>rfl
 | x :: L => by
  have c:=Bn (σ:=σ) (t:=t) (L:=L);cases b:Eh σ x with
  |none=>
   have e:Cu σ (x::L)=Cu σ L:=by simp[Cu,b]
   rw[e,c];by_cases a:t=x
   ·subst a;simp[b]
   ·simp[a]
  |some g=>
   have e:Cu σ (x::L)=(x,g)::Cu σ L:=by simp[Cu,b]
   rw[e,zQ,c];by_cases a:t=x
   ·subst a;simp[b]
   ·simp[a]
section
variable {P:Program} {tb:TB} {gs:xR} {w0:d_ gs} {ih:CH} {all:List Oper} {n:Nat} {S:Nat->GF} {HH:Nat->GH} {gg:Nat->GV}
structure uB (P:Program) (tb:TB) {gs:xR} (w0:d_ gs) (ih:CH) (all:List Oper) (n:Nat) (S:Nat->GF) (HH:Nat->GH) (gg:Nat->GV):Prop where
 tab:eI P tb
 call:∀w0:d_ gs,qP P w0 ih
 ops:all.all (GU n)=true
 chk:UI tb all (nY all)
 trc:Trc tb ih all all S HH gg
 vrs:∀k ok h v,all[k]? = some ok->lP ok.op=true->ldH (S k) ok.op=some h->(HH k).ver h=some v->
  (∀j oj,j<k->all[j]? = some oj->dO oj.op=true->before (nY all) k j=false->(HH j).ver h=some v)∧(∀j oj,k<j->all[j]? = some oj->dO oj.op=true->before (nY all) j k=false->(HH (j+1)).ver h=some v)
 chain:∃ρs:Nat->dG,(∀i,i<=all.length->∃a w,eQ w0 (ρs i) (HH i) w∧kQ (ρs i) n (S i) a)∧∀i,i<all.length->(ρs i).le (ρs (i+1))
theorem uB.ghost (E:uB P tb w0 ih all n S HH gg) (i:Nat) (c:i<=all.length):∃b a w,eQ w0 b (HH i) w∧kQ b n (S i) a:=
 let ⟨ρs,h,_⟩:=E.chain
 ⟨ρs i,h i c⟩
theorem uB.mono (E:uB P tb w0 ih all n S HH gg) (i:Nat) (a:i<all.length):(HH i).n<=(HH (i+1)).n:=by
 obtain⟨e,h,b⟩:=E.chain;obtain⟨_,_,c,_⟩:=h i (Nat.le_of_lt a);obtain⟨_,_,d,_⟩:=h (i+1) a;exact c.mono d (b i a)
theorem NV {a:Nat->dG} {m:Nat} (h:∀i,i<m->(a i).le (a (i+1))) {i:Nat}:∀{j:Nat},i<=j->j<=m->(a i).le (a j)
  | 0, h1, _ => by
      have : i = 0 := by omega
      subst this;exact dG.le_refl _
  | j + 1, h1, hj => by
    by_cases e:i=j+1
    · subst e;exact dG.le_refl _
    · exact dG.le_trans (NV h (by omega) (by omega)) (h j (by omega))
theorem uB.same (E:uB P tb w0 ih all n S HH gg) {i j:Nat} (b:i<=j) (u:j<=all.length) {h v:Nat} (q:(HH i).ver h=some v) (r:(HH j).ver h=some v):(HH i).get h=(HH j).get h:=by
 obtain⟨J,s,e⟩:=E.chain;have A:=NV e b u;obtain⟨_,K,l,_⟩:=s i (by omega);obtain⟨_,L,m,_⟩:=s j u;have a:∀{k:Nat},(HH k).ver h=some v->∃o,(HH k).get h=some o:=λ{k} hv=>by
  obtain⟨p,B,_⟩:=aB.1 (show ob ((HH k).t.get h) _=some v from hv);exact⟨p.2,by unfold GH.get;rw[B];rfl⟩
 obtain⟨H,f⟩:=a q;obtain⟨I,g⟩:=a r;obtain⟨C,c,_⟩:=l.live h H f;obtain⟨D,d,_⟩:=m.live h I g;obtain⟨F,w,_,y⟩:=l.vers h v C q c;obtain⟨G,x,_,z⟩:=m.vers h v D r d;have:=A _ _ w;rw[x]at this;cases this;rw[y,z]
theorem uB.op (E:uB P tb w0 ih all n S HH gg) {k:Nat} {o:Oper} (a:all[k]? = some o):GU n o=true:=List.all_eq_true.1 E.ops o (List.mem_of_getElem? a)
theorem uB.quiet (E:uB P tb w0 ih all n S HH gg) {k:Nat} {o:Oper} (b:all[k]? = some o) (c:dO o.op=false):HH (k+1)=HH k:=by
 obtain⟨e,a,w,R,F⟩:=E.ghost k (Nat.le_of_lt (a_ b));rcases Ii E.tab (E.call w0) (E.op b) F R (E.trc.st k o b)with⟨_,d⟩|⟨_,_,h⟩
 ·rcases d with⟨_,_,_,h,_⟩|⟨_,_,h,_⟩|⟨_,_,h,_⟩|⟨h,_⟩
  ·exact h
  ·exact h
  ·exact h
  ·rw[c]at h;cases h
 ·exact h
theorem uB.floats (E:uB P tb w0 ih all n S HH gg) {k:Nat} {o:Oper} (c:all[k]? = some o) (d:isFloat o.op=true):HH (k+1)=HH k∨∃b,HH (k+1)=(HH k).new (.cells b):=by
 obtain⟨e,a,w,R,F⟩:=E.ghost k (Nat.le_of_lt (a_ c));rcases KP (P:=P) E.tab d F (E.trc.st k o c)with⟨_,_,h⟩|⟨_,b,_,_,h,_⟩
 ·exact .inl h
 ·exact .inr ⟨b,h⟩
theorem Xl {H:GH} {o:GO} (h:H=H.new o):False:=by
 have:H.n=H.n+1:=congrArg GH.n h;omega
theorem Uk {H:GH} {c a:List GV} (h:H.new (.cells c)=H.new (.cells a)):c=a:=by
 have b:=pJ H (.cells c) H.n;have d:=pJ H (.cells a) H.n;rw[if_pos Z]at b d;rw[h,d]at b;cases b;rfl
theorem uB.mono' (E:uB P tb w0 ih all n S HH gg) {i j:Nat} (h:i<=j) (a:j<=all.length):(HH i).n<=(HH j).n:=Po E.mono h a
theorem uB.apart (E:uB P tb w0 ih all n S HH gg) {i j:Nat} {b c:List GV} (k:i<all.length) (l:j<all.length) (d:HH (i+1)=(HH i).new (.cells b)) (f:HH (j+1)=(HH j).new (.cells c)) (h:(HH i).n=(HH j).n):i=j:=by
 have e:(HH (i+1)).n=(HH i).n+1:=by rw[d];rfl
 have g:(HH (j+1)).n=(HH j).n+1:=by rw[f];rfl
 rcases Nat.lt_trichotomy i j with a|a|a
 ·have:=E.mono' (i:=i+1) (j:=j) (by omega) (by omega);omega
 ·exact a
 ·have:=E.mono' (i:=j+1) (j:=i) (by omega) (by omega);omega
structure uY {gs:xR} (w0:d_ gs) (ρb:dG) (n:Nat) (all:List Oper) (S0:GF) (HH:Nat->GH) (gg:Nat->GV) (D:Nat->Bool) (a:Act) (w:World) (t:Nat) (ρ pm:dG):Prop where
 tm:t<=all.length
 lou:∀j o,all[j]? = some o->mG o.op=true->(D j=true↔j<t)
 flo:∀j o,all[j]? = some o->isFloat o.op=true->j<t->D j=true
 rel:eQ w0 ρ (HH t) w
 up:ρb.le ρ
 defers:a.defers=[]
 size:a.tmps.size=n
 slot:∀s g,SlD all S0 gg D s g->Rl (Fb ρ pm) g (a.eval (.tmp s))
 pend:∀i o cs,all[i]? = some o->isFloat o.op=true->HH (i+1)=(HH i).new (.cells cs)->t<=i->D i=true->∃l,pm (HH i).n=some l∧w0.mine l.b∧¬UK ρ (HH t) l.b∧w.heap[l.b]? = some l.x∧wH (Fb ρ pm) w l (.cells cs)∧l.o = .cells cs
 only:∀h l,pm h=some l->∃i o cs,all[i]? = some o∧isFloat o.op=true∧HH (i+1)=(HH i).new (.cells cs)∧t<=i∧D i=true∧h=(HH i).n
 inj:∀h h' l l',pm h=some l->pm h'=some l'->l.b=l'.b->h=h'
variable {D:Nat->Bool} {a:Act} {w:World} {t:Nat} {ρ pm ρb:dG}
theorem uY.low (E:uB P tb w0 ih all n S HH gg) (I:uY w0 ρb n all (S 0) HH gg D a w t ρ pm) {h:Nat} {l:Kx} (d:pm h=some l):(HH t).n<=h:=by
 obtain⟨i,o,e,b,_,_,c,_,rfl⟩:=I.only h l d;exact E.mono' c (Nat.le_of_lt (a_ b))
theorem uY.adopt (E:uB P tb w0 ih all n S HH gg) (I:uY w0 ρb n all (S 0) HH gg D a w t ρ pm) {o:Oper} (Y:all[t]? = some o) (hl:mG o.op=false) (hf:isFloat o.op=true->D t=true):
  ∃c b,uY w0 ρb n all (S 0) HH gg D a w (t+1) c b∧Fb c b=Fb ρ pm:=by
 have ht:=a_ Y;have G:∀j o,all[j]? = some o->mG o.op=true->(D j=true↔j<t+1):=λj oj N Q=>by
  have q:j≠t:=λe=>by subst e;rw[Y]at N;cases N;rw[hl]at Q;cases Q
  rw[I.lou j oj N Q];omega
 have C:∀j o,all[j]? = some o->isFloat o.op=true->j<t+1->D j=true:=λj oj N ab ah=>by
  by_cases e:j=t
  ·subst e;rw[Y]at N;cases N;exact hf ab
  ·exact I.flo j oj N ab (by omega)
 -- nothing is taken up
 have H:HH (t+1)=HH t->∃c b,uY w0 ρb n all (S 0) HH gg D a w (t+1) c b∧Fb c b=Fb ρ pm:=λe=>
  ⟨ρ,pm,⟨ht,G,C,by rw[e];exact I.rel,I.up,I.defers,I.size,I.slot,λi W B f r y h4 K=>by rw[e];exact I.pend i W B f r y (by omega) K,λh l hp=>by
   obtain⟨i,W,B,f,r,y,h4,K,h6⟩:=I.only h l hp;refine⟨i,W,B,f,r,y,?_,K,h6⟩
   by_cases e':i=t
   ·subst e';rw[e]at y;exact(Xl y).elim
   ·omega,I.inj⟩,rfl⟩
 cases z:isFloat o.op with
 |false=>exact H (E.quiet Y (by simpa [mG,z]using hl))
 | true =>
  rcases E.floats Y z with e|⟨B,e⟩
  ·exact H e
  obtain⟨l,hp,U,M,hx,ad,ag⟩:=I.pend t o B Y z e (Nat.le_refl _) (hf z);have m:ρ (HH t).n=none:=I.rel.fresh _ (Nat.le_refl _);let c:=ρ.upd (HH t).n l;let b:dG:=λh=>if h=(HH t).n then none else pm h;have k:c (HH t).n=some l:=by simp[c,dG.upd]
  have u:∀h,h≠(HH t).n->c h=ρ h:=λh hh=>by simp[c,dG.upd,hh]
  have O:Fb c b=Fb ρ pm:=by
   funext h;by_cases d:h=(HH t).n
   ·subst d;rw[vK k,vJ m,hp]
   ·unfold Fb;rw[u h d];simp[b,d]
  have hn:(HH (t+1)).n=(HH t).n+1:=by rw[e];rfl
  -- what the object holds is older
  have aa:∀{g:GV} {v v0:Value} {x:dG},(∀h l,x h=some l->h<(HH (t+1)).n)->Rl (Fb ρ pm) g v->Rl x g v0->Rl c g v:=λ{g v v0 x} hlow f h0=>by
   refine Rl.cut (λh l0 l1 e0 X=> ?_) f h0;have ah:=hlow h l0 e0;by_cases d:h=(HH t).n
   ·subst d;rw[vJ m,hp]at X;rw[k];exact X
   ·rw[u h d];cases hr:ρ h with
    |some l2=>rw[vK hr]at X;exact X
    |none=>
     rw[vJ hr]at X;have:=I.low E X;omega
  obtain⟨x,a0,wg,R0,F0⟩:=E.ghost (t+1) ht;have R:∀h l,x h=some l->h<(HH (t+1)).n:=λh l hl=>by
   rcases Nat.lt_or_ge h (HH (t+1)).n with J|J
   ·exact J
   ·rw[R0.fresh h J]at hl;cases hl
  have L:(HH (t+1)).get (HH t).n=some (.cells B):=by rw[e,pJ,if_pos Z]
  obtain⟨l0,_,_,ac⟩:=R0.live _ _ L;obtain⟨ai,T0,q1,q2,q3,q4⟩:=ac;have V:wH c w l (.cells B):=by
   obtain⟨ae,T,p1,p2,p3,p4⟩:=ad;refine⟨ae,T,p1,p2,p3,λi g F=> ?_⟩
   obtain⟨v,r1,r2,r3⟩:=p4 i g F;obtain⟨v0,_,s2,_⟩:=q4 i g F;exact⟨v,r1,aa R r2 s2,r3⟩
  obtain⟨af,R'⟩:=I.rel.new (o:= .cells B) (l:=l) I.rel.ext (λh o' l' F p=>⟨rfl,λeb=>M ⟨h,o',l',F,p,eb⟩⟩) U V hx ag;rw[<-e]at R';refine⟨c,b,⟨ht,G,C,R',dG.le_trans I.up af,I.defers,I.size,λs g hs=>by rw[O];exact I.slot s g hs,λi W ci f r y h4 K=> ?_,λh l1 A=> ?_,λh J l1 l2 f r hb=> ?_⟩,O⟩
  ·obtain⟨li,a1,a2,a3,a4,a5,a6⟩:=I.pend i W ci f r y (by omega) K;have q:(HH i).n≠(HH t).n:=λd=>by
    have:=E.apart (a_ f) ht y e d;omega
   refine⟨li,by simp[b,q,a1],a2,?_,a4,by rw[O];exact a5,a6⟩
   rintro⟨h,o',l',F,p,eb⟩;rw[e,pJ]at F;by_cases d:h=(HH t).n
   ·subst d;rw[k]at p;cases p;exact q (I.inj _ _ _ _ a1 hp eb.symm)
   ·rw[if_neg d]at F;rw[u h d]at p;exact a3 ⟨h,o',l',F,p,eb⟩
  ·have q:h≠(HH t).n:=λd=>by subst d;simp[b]at A
   have A:pm h=some l1:=by simpa [b,q]using A
   obtain⟨i,W,ci,f,r,y,h4,K,h6⟩:=I.only h l1 A;refine⟨i,W,ci,f,r,y,?_,K,h6⟩
   by_cases e':i=t
   ·subst e';exact absurd h6 q
   ·omega
  ·have f:pm h=some l1:=by
    by_cases d:h=(HH t).n
    ·simp[b,d]at f
    ·simpa [b,d]using f
   have r:pm J=some l2:=by
    by_cases d:J=(HH t).n
    ·simp[b,d]at r
    ·simpa [b,d]using r
   exact I.inj h J l1 l2 f r hb
theorem uY.adoptTo (E:uB P tb w0 ih all n S HH gg):∀(d t k:Nat) (ρ pm:dG),uY w0 ρb n all (S 0) HH gg D a w t ρ pm->t+d=k->k<=all.length->(∀j o,t<=j->j<k->all[j]? = some o->mG o.op=false∧(isFloat o.op=true->D j=true))->
  ∃c b,uY w0 ρb n all (S 0) HH gg D a w k c b∧Fb c b=Fb ρ pm
 |0,t,k,ρ,pm,I,hd,hk,_=>by
  have:t=k:=by omega
  subst this;exact⟨ρ,pm,I,rfl⟩
 |d+1,t,k,ρ,pm,I,hd,hk,h=>by
  have p:all[t]? = some all[t]:=List.getElem?_eq_getElem (by omega);obtain⟨m,e⟩:=h t _ (Nat.le_refl _) (by omega) p;obtain⟨i,f,q,s⟩:=I.adopt E p m e;obtain⟨l,g,r,u⟩:=uY.adoptTo E d (t+1) k i f q (by omega) hk (λj o m e=>h j o (by omega) e);exact⟨l,g,r,by rw[u,s]⟩
def Cl (all:List Oper) (D:Nat->Bool):Prop:=∀j k,D j=true->before (nY all) j k=true->k<all.length->D k=true
structure Qb (all:List Oper) (D:Nat->Bool) (k:Nat) (o:Oper):Prop where
 get:all[k]? = some o
 undone:D k=false
 past:∀j,before (nY all) k j=true->j<all.length->D j=true
theorem Qb.behind (C:UI tb all (nY all)) (c:Cl all D) {k:Nat} {o:Oper} (e:Qb all D k o) {j:Nat} {b:Oper} (h:all[j]? = some b) (g:D j=true) (d:k<j):o.apart all.toArray b=true∧Hx tb o.op b.op=true:=by
 cases f:before (nY all) j k with
 |false=>exact C.ind j k b o h e.get d f
 |true=>
  have:=c j k g f (a_ e.get);rw[e.undone]at this;cases this
theorem Qb.ahead (C:UI tb all (nY all)) {k:Nat} {o:Oper} (f:Qb all D k o) {j:Nat} {b:Oper} (e:all[j]? = some b) (c:j<k):D j=true∨b.apart all.toArray o=true∧Hx tb b.op o.op=true:=by
 cases d:before (nY all) k j with
 |true=>exact .inl (f.past j d (a_ e))
 |false=>exact .inr (C.ind k j o b f.get e c d)
theorem Qb.look (E:uB P tb w0 ih all n S HH gg) (q:Cl all D) {k:Nat} {o:Oper} (p:Qb all D k o) {s:Nat} {g:GV} (u:s∈o.looksAt all.toArray) (y:Eh (S k) s=some g):SlD all (S 0) gg D s g:=by
 have b:∀j c,D j=true->all[j]? = some c->c.dst=some s->j<k:=λj c d f e=>by
  rcases Nat.lt_trichotomy j k with h|h|h
  ·exact h
  ·subst h;rw[p.undone]at d;cases d
  ·obtain⟨l,_⟩:=p.behind E.chk q f d h;exact absurd u ((Oper.apart_spec l).2.2 s e)
 rcases J_ E.trc k (Nat.le_of_lt (a_ p.get)) y with⟨i,z,l,m,r,v,x⟩|⟨l,m⟩
 ·refine .inl ⟨i,z,?_,m,r,v,λj c d f e=> ?_⟩
  ·rcases p.ahead E.chk m l with h|⟨h,_⟩
   ·exact h
   ·exact absurd u ((Oper.apart_spec h).1 s r)
  ·have:=b j c d f e;rcases Nat.lt_or_ge i j with h|h
   ·exact absurd e (x j c h this f)
   ·exact h
 ·exact .inr ⟨λj c d f e=>l j c (b j c d f e) f e,m⟩
theorem Qb.slot (C:UI tb all (nY all)) (F:Cl all D) {K:GF} {k:Nat} {o:Oper} (y:Qb all D k o) (x:∀d,o.dst=some d->d<n) (I:a.tmps.size=n) {z u:dG} (G:z.le u) (q:∀s g,SlD all K gg D s g->Rl z g (a.eval (.tmp s))) {v:Value} (Q:Rl u (gg k) v):
  ∀s g,SlD all K gg (ins D k) s g->Rl u g ((a.put o.dst v).eval (.tmp s)):=λs g L=>by
 have c:∀j r,D j=true->all[j]? = some r->o.dst=some s->r.dst=some s->j<k:=λj r m O f p=>by
  rcases Nat.lt_trichotomy j k with h|h|h
  ·exact h
  ·subst h;rw[y.undone]at m;cases m
  ·obtain⟨b,_⟩:=y.behind C F O m h;exact absurd p ((Oper.apart_spec b).2.1 s f)
 by_cases f:o.dst=some s
 ·have N:gg k=g:=by
   rcases L with⟨i,J,b,l,A,B,E⟩|⟨b,_⟩
   ·have R:=E k o (zS D k) y.get f;by_cases e:i=k
    ·subst e;exact B
    ·rw[yH e]at b;have:=c i J b l f A;omega
   ·exact absurd f (b k o (zS D k) y.get)
  rw[f,<-N];have H:=x s f;have:(a.put (some s) v).eval (.tmp s)=v:=by simp[Act.put,Act.eval,I,H]
  rw[this];exact Q
 ·have M:(a.put o.dst v).eval (.tmp s)=a.eval (.tmp s):=Act.eval_put λd p e=>by cases e;exact f p
  rw[M];refine(q s g ?_).le G;rcases L with⟨i,J,b,l,A,B,E⟩|⟨b,l⟩
  ·have e:i≠k:=λe=>by subst e;rw[y.get]at l;cases l;exact f A
   rw[yH e]at b;exact .inl ⟨i,J,b,l,A,B,λj r m=>E j r (zR m)⟩
  ·exact .inr ⟨λj r m=>b j r (zR m),l⟩
theorem Eb (a:Act) (d:Option Tmp) (v:Value):(a.put d v).defers=a.defers∧(a.put d v).tmps.size=a.tmps.size:=by
 cases d with
 |none=>exact⟨rfl,rfl⟩
 |some d=>exact⟨rfl,by simp[Act.put]⟩
theorem uY.plain (E:uB P tb w0 ih all n S HH gg) (u:Cl all D) (I:uY w0 ρb n all (S 0) HH gg D a w t ρ pm) {k:Nat} {o:Oper} (q:Qb all D k o) (F:mG o.op=false) (C:isFloat o.op=true->HH (k+1)=HH k) {v:Value} (H:Rl (Fb ρ pm) (gg k) v):
  uY w0 ρb n all (S 0) HH gg (ins D k) (a.put o.dst v) w t ρ pm:=by
 obtain⟨_,f,_⟩:=r_ (E.op q.get);obtain⟨J,K⟩:=Eb a o.dst v;refine⟨I.tm,λj A g b=> ?_,λj A g x y=>zR (I.flo j A g x y),I.rel,I.up,by rw[J];exact I.defers,by rw[K];exact I.size,q.slot E.chk u f I.size (dG.le_refl _) I.slot H,λi z r c m d s p=> ?_,λh l G=> ?_,I.inj⟩
 ·have e:j≠k:=λe=>by subst e;rw[q.get]at g;cases g;rw[F]at b;cases b
  rw[yH e];exact I.lou j A g b
 ·have e:i≠k:=λe=>by
   subst e;rw[q.get]at c;cases c;rw[C m]at d;exact Xl d
  rw[yH e]at p;exact I.pend i z r c m d s p
 ·obtain⟨i,z,r,c,m,d,s,p,B⟩:=I.only h l G;exact⟨i,z,r,c,m,d,s,zR p,B⟩
def LJ (all:List Oper) (D:Nat->Bool) (t:Nat):Prop:=t=0∨∃o,all[t - 1]? = some o∧mG o.op=true∧D (t - 1)=true
theorem LJ.ins {k:Nat} (h:LJ all D t):LJ all (ins D k) t:=by
 rcases h with h|⟨o,b,c,d⟩
 ·exact .inl h
 ·exact .inr ⟨o,b,c,zR d⟩
theorem Ea {o:Op} (h:pureOp tb o=true):dO o=false:=by
 unfold pureOp at h;split at h<;>first|rfl|cases h
theorem EL {o:Op} (h:isFloat o=true):dO o=true:=by
 unfold isFloat at h;split at h<;>first|rfl|cases h
theorem EM {o:Op} (h:isFloat o=true):pureOp tb o=false:=by
 cases b:pureOp tb o with
 |false=>rfl
 |true=>have:=Ea b;rw[EL h]at this;cases this
theorem uY.reach (E:uB P tb w0 ih all n S HH gg) (u:Cl all D) (I:uY w0 ρb n all (S 0) HH gg D a w t ρ pm) (i:LJ all D t) {k:Nat} {o:Oper} (r:Qb all D k o) (z:pureOp tb o.op=false) (B:isFloat o.op=false) (m:lP o.op=false):
  ∃q p,uY w0 ρb n all (S 0) HH gg D a w k q p∧Fb q p=Fb ρ pm:=by
 have F:=a_ r.get;have C:t<=k:=by
  rcases i with h|⟨d,x,f,s⟩
  ·omega
  ·rcases Nat.lt_or_ge (t - 1) k with h|h
   ·omega
   ·exfalso;by_cases e:t - 1=k
    ·rw[e,r.undone]at s;cases s
    ·obtain⟨_,A⟩:=r.behind E.chk u x s (by omega);simp only[mG,Bool.and_eq_true,Bool.not_eq_true']at f;have:pureOp tb d.op=false:=by
      cases v:pureOp tb d.op with
      |false=>rfl
      |true=>have:=Ea v;rw[f.1]at this;cases this
     have c:lP d.op=false:=by
      cases v:lP d.op with
      |false=>rfl
      |true=>rw[wY v]at f;cases f.1
     simp[Hx,z,this,f.1,f.2,m,c]at A
 refine I.adoptTo E (k - t) t k ρ pm (by omega) (by omega) λj d x f y=> ?_;have g:D j=true∨dO d.op=false∨pureOp tb d.op=true:=by
  rcases r.ahead E.chk y f with h|⟨_,h⟩
  ·exact .inl h
  ·simp only[Hx,z,B,m,Bool.or_false,Bool.and_false,Bool.or_eq_true,Bool.and_eq_true,Bool.not_eq_true']at h;rcases h with(h|h)|h
   ·exact .inr (.inr h)
   ·exact .inr (.inl h.1)
   ·exact .inr (.inl (wY h.1))
 refine⟨?_,λl=> ?_⟩
 ·cases c:mG d.op with
  |false=>rfl
  |true=>
   exfalso;have b:=c;simp only[mG,Bool.and_eq_true,Bool.not_eq_true']at b;rcases g with h|h|h
   ·have:=(I.lou j d y c).1 h;omega
   ·rw[b.1]at h;cases h
   ·have:=Ea h;rw[b.1]at this;cases this
 ·rcases g with h|h|h
  ·exact h
  ·rw[EL l]at h;cases h
  ·rw[EM l]at h;cases h
theorem uY.frame (E:uB P tb w0 ih all n S HH gg) (c:Cl all D) (I:uY w0 ρb n all (S 0) HH gg D a w t ρ pm) {k:Nat} {o:Oper} (e:Qb all D k o):kQ (Fb ρ pm) n (Cu (S k) (o.looksAt all.toArray)) a:=
 ⟨I.defers,I.size,λs g b=>by
  rw[Bn]at b;by_cases d:s∈o.looksAt all.toArray
  ·rw[if_pos d]at b;exact I.slot s g (e.look E c d b)
  ·rw[if_neg d]at b;cases b⟩
theorem uY.frame' (E:uB P tb w0 ih all n S HH gg) (e:Cl all D) {k:Nat} (I:uY w0 ρb n all (S 0) HH gg D a w k ρ pm) {o:Oper} (i:Qb all D k o):kQ ρ n (Cu (S k) (o.looksAt all.toArray)) a:=by
 have F:=I.frame E e i;obtain⟨u,v,z,p,m⟩:=E.ghost k (Nat.le_of_lt (a_ i.get));refine⟨F.defers,F.size,λs g b=> ?_⟩
 have q:=F.slot s g b;rw[Bn]at b;by_cases j:s∈o.looksAt all.toArray
 ·rw[if_pos j]at b;refine Rl.cut (λh x l f d=> ?_) q (m.slot s g b);cases c:ρ h with
  |some y=>rw[vK c]at d;exact d
  |none=>
   rw[vJ c]at d;have r:=I.low E d;rw[p.fresh h r]at f;cases f
 ·rw[if_neg j]at b;cases b
theorem uB.st (E:uB P tb w0 ih all n S HH gg) {k:Nat} {o:Oper} (b:all[k]? = some o):Eg tb ih all o (Cu (S k) (o.looksAt all.toArray)) (HH k)=some (gg k,HH (k+1)):=by
 rw[<-E.trc.st k o b];exact QA λs c=>by rw[Bn,if_pos c]
theorem uY.loads (E:uB P tb w0 ih all n S HH gg) (L:Cl all D) (I:uY w0 ρb n all (S 0) HH gg D a w t ρ pm) (s:LJ all D t) {k:Nat} {o:Oper} (u:Qb all D k o) (f:lP o.op=true) {h:Nat} {W:GO} (hh:ldH (S k) o.op=some h) (i:(HH k).get h=some W):
  ∃p H G,uY w0 ρb n all (S 0) HH gg D a w p H G∧Fb H G=Fb ρ pm∧(HH p).get h=some W:=by
 have hk:=a_ u.get;have hq:=wY f;have R:pureOp tb o.op=false:=by cases N:o.op<;>rw[N]at f<;>first|rfl|cases f
 have M:isFloat o.op=false:=by cases N:o.op<;>rw[N]at f<;>first|rfl|cases f
 obtain⟨v,V⟩:∃v,(HH k).ver h=some v:=by
  obtain⟨p,hp,_⟩:=aB.1 (show Gx.ob ((HH k).t.get h) _=some W from i);exact⟨p.1,by unfold GH.ver;rw[hp];rfl⟩
 obtain⟨v1,v2⟩:=E.vrs k o h v u.get f hh V;rcases Nat.lt_or_ge k t with C|C
 ·
  rcases s with e|⟨c,x,z,K⟩
  ·omega
  have b:=z;simp only[mG,Bool.and_eq_true]at b;have q:before (nY all) (t - 1) k=false:=by
   cases q:before (nY all) (t - 1) k with
   |false=>rfl
   |true=>have:=L _ _ K q hk;rw[u.undone]at this;cases this
  have aa:t - 1≠k:=λe=>by rw[e,u.undone]at K;cases K
  have:=v2 (t - 1) c (by omega) x b.1 q;rw[show t - 1+1=t by omega]at this;exact⟨t,ρ,pm,I,rfl,by rw[<-E.same (Nat.le_of_lt C) I.tm V this];exact i⟩
 ·
  have first:∀d g,g+d=k->t<=g->(∀j c,t<=j->j<g->all[j]? = some c->mG c.op=false)->∃p,t<=p∧p<=k∧(∀j c,t<=j->j<p->all[j]? = some c->mG c.op=false)∧(p=k∨∃F,all[p]? = some F∧mG F.op=true):=by
   intro d
   induction d with
   |zero=>exact λg e U h=>⟨g,U,by omega,h,.inl (by omega)⟩
   | succ d ihd =>
    intro g e U h;have m:all[g]? = some all[g]:=List.getElem?_eq_getElem (by omega);cases hl:mG all[g].op with
    |true=>exact⟨g,U,by omega,h,.inr ⟨_,m,hl⟩⟩
    |false=>
     refine ihd (g+1) (by omega) (by omega) λj c x z y=> ?_;by_cases e:j=g
     ·subst e;rw[m]at y;cases y;exact hl
     ·exact h j c x (by omega) y
  obtain⟨p,ab,ac,O,Q⟩:=first (k - t) t (by omega) (Nat.le_refl _) (λj c x z=>by omega)
  obtain⟨Y,X,I1,e1⟩:=I.adoptTo E (p - t) t p ρ pm (by omega) (by omega) λj c x z y=>by
   refine⟨O j c x z y,λr=> ?_⟩
   rcases u.ahead E.chk y (by omega)with h|⟨_,h⟩
   ·exact h
   ·have a1:=EM (tb:=tb) r;have J:=EL r;have a3:lP c.op=false:=by
     cases T:lP c.op with
     |false=>rfl
     |true=>rw[wY T]at J;cases J
    have a4:mG c.op=false:=by simp[mG,r]
    simp[Hx,a1,J,a3,a4,R,M]at h
  refine⟨p,Y,X,I1,e1,?_⟩
  rcases Q with e|⟨F,l,A⟩
  ·rw[e];exact i
  ·have b:=A;simp only[mG,Bool.and_eq_true]at b;have B:p<k:=by
    rcases Nat.lt_or_ge p k with h|h
    ·exact h
    ·have:p=k:=by omega
     subst this;rw[u.get]at l;cases l;rw[hq]at b;cases b.1
   have q:before (nY all) k p=false:=by
    cases q:before (nY all) k p with
    |false=>rfl
    |true=>have:=u.past p q (by omega);rw[I.lou p F l A]at this;omega
   rw[E.same (Nat.le_of_lt B) (Nat.le_of_lt hk) (v1 p F B l b.1 q) V];exact i
theorem uY.step (E:uB P tb w0 ih all n S HH gg) (z:Cl all D) (I:uY w0 ρb n all (S 0) HH gg D a w t ρ pm) (m:LJ all D t) {k:Nat} {o:Oper} (A:Qb all D k o) {Q:Exit->Act->World->Prop} {K:Act->World->Prop}
  (hK:∀a' w' t' aY O,uY w0 ρb n all (S 0) HH gg (ins D k) a' w' t' aY O->LJ all (ins D k) t'->K a' w'):Sx.wpOp P all.toArray Q k K a w:=by
 have hk:=a_ A.get;obtain⟨_,ai,aS⟩:=r_ (E.op A.get);have am:=E.st A.get;unfold Sx.wpOp;simp only[List.getElem?_toArray,A.get];cases hp:pureOp tb o.op with
 | true =>
  have Y:mG o.op=false:=by simp[mG,Ea hp]
  have aF:isFloat o.op=false:=by
   cases hf:isFloat o.op with
   |false=>rfl
   |true=>rw[EM hf]at hp;cases hp
  have F:=I.frame E z A;rcases DV F am with⟨N,C⟩|⟨N,C,hH⟩
  ·rw[if_pos N];have aG:JJ o.op=true:=by
    rcases aS with h|⟨c,f,y,G⟩
    ·exact h
    ·obtain⟨a8,xs,ts⟩:=c;simp only at G;rw[y,G]at hp;cases hp
   obtain⟨_,v,hv,u⟩:=WB (P:=P) E.tab F hp aG C;left;simp only[Oper.wp,u w,Oper.upon];exact hK _ _ t ρ pm (I.plain E z A Y (λh=>by rw[aF]at h;cases h) hv) m.ins
  ·rw[if_neg (by rw[N];simp)];exact hK _ _ t ρ pm (I.plain E z A Y (λh=>by rw[aF]at h;cases h) (by rw[C];exact .un)) m.ins
 | false =>
  cases hf:isFloat o.op with
  | true =>
   have Y:mG o.op=false:=by simp[mG,hf]
   have F:=I.frame E z A;rcases KP (P:=P) E.tab hf F am with⟨N,C,hH⟩|⟨N,cs,a',T',hH,hC,a0,u⟩
   ·rw[if_neg (by rw[N];simp)];exact hK _ _ t ρ pm (I.plain E z A Y (λ_=>hH) (by rw[C];exact .un)) m.ins
   ·rw[if_pos N];obtain⟨V,hV,aI⟩:=u w;left;simp only[Oper.wp,hV,Oper.upon];have aJ:t<=k:=by
     rcases Nat.lt_or_ge k t with h|h
     ·have:=I.flo k o A.get hf h;rw[A.undone]at this;cases this
     ·exact h
    let l:Kx:=⟨w.heap.size,0,a'.size,.cells a' T',.cells cs⟩
    have e:LD w (w.alloc (.cells a' T')):=(Below.refl _ _).alloc (Nat.le_refl _) _;have aX:ρ (HH k).n=none:=I.rel.fresh _ (E.mono' aJ (by omega));have aT:pm (HH k).n=none:=by
     cases U:pm (HH k).n with
     |none=>rfl
     |some W=>
      obtain⟨i,L,R,y,G,h3,h4,h5,h6⟩:=I.only _ _ U;have:=E.apart (a_ y) hk h3 hH h6.symm;subst this;rw[A.undone]at h5;cases h5
    let O:=pm.upd (HH k).n l;have M:O (HH k).n=some l:=by simp[O,dG.upd]
    have J:∀h,h≠(HH k).n->O h=pm h:=λh hh=>by simp[O,dG.upd,hh]
    have ad:(Fb ρ pm).le (Fb ρ O):=λh W y=>by
     cases H:ρ h with
     |some l2=>rw[vK H]at y;rw[vK H];exact y
     |none=>
      rw[vJ H]at y;rw[vJ H,J h (λeh=>by subst eh;rw[aT]at y;cases y)];exact y
    have aP:Fb ρ O (HH k).n=some l:=by rw[vJ aX,M]
    obtain⟨p1,p2⟩:=Eb a o.dst V;have az:∀h W,pm h=some W->W.b<w.heap.size:=λh W y=>by
     obtain⟨i,L,R,q1,q2,q3,q4,q5,rfl⟩:=I.only _ _ y;obtain⟨l2,r1,_,_,r4,_⟩:=I.pend i L R q1 q2 q3 q4 q5;rw[y]at r1;cases r1;exact(Array.getElem?_eq_some_iff.1 r4).1
    refine hK _ _ t ρ O ⟨I.tm,λj oj hj ak=> ?_,λj oj hj ao aE=>zR (I.flo j oj hj ao aE),I.rel.ext' e,I.up,by rw[p1];exact I.defers,by rw[p2];exact I.size,A.slot E.chk z ai I.size ad I.slot (aI _ aP),λi L R y G h3 h4 h5=> ?_,λh W ar=> ?_,λh h' W l2 y G hb=> ?_⟩ m.ins
    ·have e:j≠k:=λe=>by subst e;rw[A.get]at hj;cases hj;rw[Y]at ak;cases ak
     rw[yH e];exact I.lou j oj hj ak
    ·by_cases ei:i=k
     ·subst ei;rw[hH]at h3;have:=Uk h3;subst this;refine⟨l,M,.inl I.rel.ext.size,?_,heap_alloc_new w _,⟨a',T',heap_alloc_new w _,rfl,by show 0+cs.length<=a'.size;omega,λj g C=> ?_⟩,rfl⟩
      ·rintro⟨h,o',l',C,ax,eb⟩;obtain⟨l2,r1,_,r3⟩:=I.rel.live h o' C;rw[ax]at r1;cases r1;have:=r3.lt;rw[eb]at this;exact absurd this (Nat.lt_irrefl _)
      ·obtain⟨x,hx,aU⟩:=hC.r.get C;rw[Array.getElem?_toList]at hx;exact⟨x,by show a'[0+j]? = some x;simpa using hx,aU.le ad,Mn hC.one hx⟩
     ·rw[yH ei]at h5;obtain⟨W,a1,a2,a3,a4,a5,a6⟩:=I.pend i L R y G h3 h4 h5;have aR:(HH i).n≠(HH k).n:=λeh=>ei (E.apart (a_ y) hk h3 hH eh);have hb:=az _ _ a1;exact⟨W,by rw[J _ aR];exact a1,a2,a3,by rw[e.block _ hb];exact a4,a5.move ad (e.block _ hb),a6⟩
    ·by_cases eh:h=(HH k).n
     ·exact⟨k,o,cs,A.get,hf,hH,aJ,zS D k,eh⟩
     ·rw[J h eh]at ar;obtain⟨i,L,R,q1,q2,q3,q4,q5,q6⟩:=I.only h W ar;exact⟨i,L,R,q1,q2,q3,q4,zR q5,q6⟩
    ·by_cases eh:h=(HH k).n
     ·by_cases ah:h'=(HH k).n
      ·rw[eh,ah]
      ·rw[J h' ah]at G;subst eh;rw[M]at y;cases y;have:=az _ _ G;rw[<-hb]at this;exact absurd this (Nat.lt_irrefl _)
     ·rw[J h eh]at y;by_cases ah:h'=(HH k).n
      ·subst ah;rw[M]at G;cases G;have:=az _ _ y;rw[hb]at this;exact absurd this (Nat.lt_irrefl _)
      ·rw[J h' ah]at G;exact I.inj h h' W l2 y G hb
  | false =>
   cases aj:lP o.op with
   | true =>
    have Y:mG o.op=false:=by simp[mG,wY aj]
    have F0:=I.frame E z A;rcases DV F0 am with⟨N,C⟩|⟨N,C,hH⟩
    ·rw[if_pos N];have aH:∃T x,o.op = .load T x:=by
      cases ho:o.op<;>rw[ho]at aj<;>first|exact⟨_,_,rfl⟩|cases aj
     obtain⟨T,x,al⟩:=aH;rw[al]at C;obtain⟨va,aL,C⟩:=aB.1 (show ob (jY (Cu (S k) (o.looksAt all.toArray)) x) _=some (gg k,HH (k+1))from C);obtain⟨g',av,aQ⟩:=aB.1 C;have eg:g'=gg k:=by
      have:=congrArg (λo=>o.map Prod.fst) (show some (g',HH k)=some (gg k,HH (k+1))from aQ);simpa using this
     rw[eg]at av;obtain⟨q,U,hc⟩:=aB.1 (show ob va.asP _=some (gg k)from av);obtain⟨cs,aO,hc⟩:=aB.1 hc;have aA:=iA.1 aO;have aW:∀s,x = .tmp s->s∈o.looksAt all.toArray:=λs e=>List.mem_append_left _ (List.mem_filterMap.2 ⟨.tmp s,by rw[al,e];simp[Op.operands],rfl⟩);have aM:jY (S k) x=some va:=by
      rw[<-aL];cases x with
      |tmp s=>
       show Eh (S k) s=Eh (Cu (S k) (o.looksAt all.toArray)) s;rw[Bn,if_pos (aW s Z)]
      |_=>rfl
     have hh:ldH (S k) o.op=some q.1:=by
      rw[al];show ob (jY (S k) x) _=_;rw[aM];show ob va.asP _=_;rw[U];rfl
     obtain⟨p,ag,af,B,ap,aC⟩:=I.loads E z m A aj hh aA;have aK:=cB F0 aL;have aV:Rl ag va (a.eval x):=by
      rw[CV U]at aK ⊢;obtain⟨l,Y,e⟩:=aK.ptr_inv;obtain⟨W,aD,_⟩:=B.rel.live _ _ aC;rw[<-ap,vK aD]at Y;cases Y;rw[e];exact .ptr _ aD
     have ay:tF tb T va (HH p)=some (gg k):=by
      show ob va.asP _=_;rw[U];show ob ((HH p).cells q.1) _=_;rw[iA.2 aC];exact hc
     obtain⟨X,_,l,_,_,_,hX,u⟩:=Kd (P:=P) E.tab B.rel aV ay;left;have H:(execOp a.eval o).run P w = .ok (.value X) w:=by
      have:=u w Z;obtain⟨d,op,ty,a9,a7,gd⟩:=o;simp only at al;subst al;simp[execOp,this]
     simp only[Oper.wp,H,Oper.upon];exact hK _ _ t ρ pm (I.plain E z A Y (λh=>by rw[hf]at h;cases h) (by rw[<-ap];exact hX.le FH)) m.ins
    ·rw[if_neg (by rw[N];simp)];exact hK _ _ t ρ pm (I.plain E z A Y (λh=>by rw[hf]at h;cases h) (by rw[C];exact .un)) m.ins
   |false=>
   obtain⟨ag,af,B,ap⟩:=I.reach E z m A hp hf aj;have F:=B.frame' E z A;cases ae:dO o.op with
   | false =>
    have Y:mG o.op=false:=by simp[mG,ae]
    have an:∀v,Rl ag (gg k) v->uY w0 ρb n all (S 0) HH gg (ins D k) (a.put o.dst v) w t ρ pm:=λv hv=>
     I.plain E z A Y (λh=>by rw[hf]at h;cases h) (by rw[<-ap];exact hv.le FH)
    rcases Ii E.tab (E.call w0) (E.op A.get) F B.rel am with⟨N,hs⟩|⟨N,C,hH⟩
    ·rw[if_pos N];left;rcases hs with⟨_,_,_,_,v,hv,u⟩|⟨_,_,_,v,_,_,_,_,_,hv,u⟩|⟨_,_,_,v,hv,u⟩|⟨U,_⟩
     ·simp only[Oper.wp,u w,Oper.upon];exact hK _ _ t ρ pm (an v hv) m.ins
     ·simp only[Oper.wp,u w Z,Oper.upon];exact hK _ _ t ρ pm (an v hv) m.ins
     ·simp only[Oper.wp,u,Oper.upon];exact hK _ _ t ρ pm (an v hv) m.ins
     ·rw[ae]at U;cases U
    ·rw[if_neg (by rw[N];simp)];exact hK _ _ t ρ pm (an undef (by rw[C];exact .un)) m.ins
   | true =>
    have Y:mG o.op=true:=by simp[mG,ae,hf]
    have aq:∀(i:Nat) (L:Oper) (R:List GV),all[i]? = some L->isFloat L.op=true->i≠k:=λi L R y G e=>by
     subst e;rw[A.get]at y;cases y;rw[hf]at G;cases G
    have aw:∀j o,all[j]? = some o->mG o.op=true->(ins D k j=true↔j<k+1):=λj oj hj ak=>by
     by_cases e:j=k
     ·subst e;simp[zS]
     ·rw[yH e,B.lou j oj hj ak];omega
    have au:∀j o,all[j]? = some o->isFloat o.op=true->j<k+1->ins D k j=true:=λj oj hj ao aE=>by
     have:=aq j oj [] hj ao;exact zR (B.flo j oj hj ao (by omega))
    have aa:∀h l,af h=some l->∃i o cs,all[i]? = some o∧isFloat o.op=true∧HH (i+1)=(HH i).new (.cells cs)∧k+1<=i∧ins D k i=true∧h=(HH i).n:=λh l ar=>by
     obtain⟨i,L,R,q1,q2,q3,q4,q5,q6⟩:=B.only h l ar;have:=aq i L R q1 q2;exact⟨i,L,R,q1,q2,q3,by omega,zR q5,q6⟩
    have ac:LJ all (ins D k) (k+1):= .inr ⟨o,by simpa using A.get,Y,by simp[zS]⟩;rcases Ii E.tab (E.call B.rel.base) (E.op A.get) F B.rel.rebase am with⟨N,hs⟩|⟨N,C,hH⟩
    ·rw[if_pos N];left;rcases hs with⟨U,_⟩|⟨U,_⟩|⟨U,_⟩|⟨_,u⟩
     ·rw[ae]at U;cases U
     ·rw[ae]at U;cases U
     ·rw[ae]at U;cases U
     refine JI (u _ λaN w2 v ad R2 hv=>hK _ _ (k+1) aN af ?_ ac);obtain⟨R3,ab⟩:=B.rel.back R2;have hj:(Fb ag af).le (Fb aN af):=λh l y=>by
      cases H:ag h with
      |some l2=>rw[vK H]at y;cases y;exact vK (ad _ _ H)
      |none=>
       rw[vJ H]at y;obtain⟨i,L,R,q1,q2,q3,q4,q5,rfl⟩:=aa h l y;rw[vJ (R2.fresh _ (E.mono' q4 (Nat.le_of_lt (a_ q1))))];exact y
     obtain⟨p1,p2⟩:=Eb a o.dst v;refine⟨hk,aw,au,R3,dG.le_trans B.up ad,by rw[p1];exact B.defers,by rw[p2];exact B.size,A.slot E.chk z ai B.size hj B.slot (hv.le FH),λi L R y G h3 h4 h5=> ?_,aa,B.inj⟩
     rw[yH (aq i L R y G)]at h5;obtain⟨W,a1,a2,a3,a4,a5,a6⟩:=B.pend i L R y G h3 (by omega) h5;have hb:W.b<w.heap.size:=(Array.getElem?_eq_some_iff.1 a4).1;refine⟨W,a1,a2,?_,by rw[ab _ hb a3];exact a4,a5.move hj (ab _ hb a3),a6⟩
     rintro⟨h,o',l',C,ax,eb⟩;obtain⟨l2,r1,r2,_⟩:=R2.live h o' C;rw[ax]at r1;cases r1;rw[eb]at r2;rcases r2 with r2|r2
     ·have:w.heap.size<=W.b:=r2;omega
     ·exact a3 r2
    ·rw[if_neg (by rw[N];simp)];obtain⟨p1,p2⟩:=Eb a o.dst undef;refine hK _ _ (k+1) ag af ⟨hk,aw,au,by rw[hH];exact B.rel,B.up,by rw[p1];exact B.defers,by rw[p2];exact B.size,A.slot E.chk z ai B.size (dG.le_refl _) B.slot (by rw[C];exact .un),λi L R y G h3 h4 h5=> ?_,aa,B.inj⟩ ac;rw[yH (aq i L R y G)]at h5;rw[hH];exact B.pend i L R y G h3 (by omega) h5
theorem uY.done (E:uB P tb w0 ih all n S HH gg) (I:uY w0 ρb n all (S 0) HH gg D a w t ρ pm) (b:∀i,i<all.length->D i=true):∃f,ρb.le f∧eQ w0 f (HH all.length) w∧kQ f n (S all.length) a:=by
 obtain⟨d,e,k,_⟩:=I.adoptTo E (all.length - t) t all.length ρ pm (by have:=I.tm;omega) (Nat.le_refl _) λj q m p c=>by
  refine⟨?_,λ_=>b j p⟩
  cases B:mG q.op with
  |false=>rfl
  |true=>have:=(I.lou j q c B).1 (b j p);omega
 refine⟨d,k.up,k.rel,k.defers,k.size,λs g A=> ?_⟩
 have r:∀h,e h=none:=λh=>by
  cases C:e h with
  |none=>rfl
  |some l=>
   obtain⟨i,H,G,m,_,_,u,_⟩:=k.only h l C;have:=a_ m;omega
 have c:Fb d e=d:=by
  funext h;unfold Fb;rw[r];cases d h<;>rfl
 have F:SlD all (S 0) gg D s g:=by
  rcases J_ E.trc all.length (Nat.le_refl _) A with⟨i,o,m,p,v,u,x⟩|⟨m,p⟩
  ·refine .inl ⟨i,o,b i m,p,v,u,λj q y c z=> ?_⟩;rcases Nat.lt_or_ge i j with h|h
   ·exact absurd z (x j q h (a_ c) c)
   ·exact h
  ·exact .inr ⟨λj q y c=>m j q (a_ c) c,p⟩
 have:=k.slot s g F;rwa[c]at this
theorem TW (E:uB P tb w0 ih all n S HH gg) {Q:Exit->Act->World->Prop} (hQ:∀c K M,ρb.le c->eQ w0 c (HH all.length) M->kQ c n (S all.length) K->Q .normal K M):
  ∀(d:Nat) (L:List Nat) (b:Array Bool) (a:Act) (w:World) (t:Nat) (ρ pm:dG),L.length<=d->b.size=all.length->(∀i,i<all.length->b.getD i false=false->i∈L)->Cl all (λj=>b.getD j false)->
  uY w0 ρb n all (S 0) HH gg (λj=>b.getD j false) a w t ρ pm->LJ all (λj=>b.getD j false) t->Sx.wpAny P .any all.toArray Q d b a w:=by
 intro d
 induction d with
 | zero =>
  intro L b a w t ρ pm G J g m I h;have hL:L=[]:=List.eq_nil_of_length_eq_zero (by omega);subst hL;have f:∀i,i<all.length->b.getD i false=true:=λi r=>by
   cases u:b.getD i false with
   |true=>rfl
   |false=>have:=g i r u;simp at this
  refine⟨?_,?_⟩
  ·rw[List.eq_nil_iff_forall_not_mem];intro i r;obtain⟨l,o,s,_⟩:=mem_ready.1 r;have W:i<all.length:=by have:=(Array.getElem?_eq_some_iff.1 s).1;simpa using this
   have:=f i W;have hs:i<b.size:=by omega
   simp[hs]at this l;rw[l]at this;cases this
  ·obtain⟨c,l,N,O⟩:=I.done E f;exact hQ c a w l N O
 | succ d ihf =>
  intro L b a w t ρ pm G J g m I h;refine⟨λY=> ?_,λk hk=> ?_⟩
  ·have f:∀i,i<all.length->b.getD i false=true:=by
    intro i
    induction i using Nat.strongRecOn with
    | ind i ihi =>
     intro r;cases u:b.getD i false with
     |true=>rfl
     | false =>
      exfalso;have s:all[i]? = some all[i]:=List.getElem?_eq_getElem r;have H:i∈Region.ready .any all.toArray b:=by
       refine mem_ready.2 ⟨?_,all[i],by simp,λe R v=> ?_⟩
       ·have hs:i<b.size:=by omega
        simp[hs]at u ⊢;exact u
       ·have U:e.on∈sG all[i]:=List.mem_map.2 ⟨e,List.mem_filter.2 ⟨by simpa using R,v⟩,rfl⟩;have:=(E.chk.edge i _ s e.on U).1;exact ihi e.on this (by omega)
      rw[Y]at H;simp at H
   obtain⟨c,l,N,O⟩:=I.done E f;exact hQ c a w l N O
  ·obtain⟨l,o,X,q⟩:=mem_ready.1 hk;have s:all[k]? = some o:=by simpa using X
   have V:k<all.length:=a_ s;have F:k<b.size:=by omega
   have x:b.getD k false=false:=by simp[F]at l ⊢;exact l
   have hr:Qb all (λj=>b.getD j false) k o:=by
    refine⟨s,x,λj v B=> ?_⟩
    obtain⟨_,e,R,hej⟩:=E.chk.trans k o s j v B;obtain⟨ed,T,rfl⟩:=List.mem_map.1 R;obtain⟨z,A⟩:=List.mem_filter.1 T;have hl:=q ed (by simpa using z) A;rcases hej with rfl|hej
    ·exact hl
    ·exact m _ _ hl hej B
   have y:(λj=>(b.setIfInBounds k true).getD j false)=ins (λj=>b.getD j false) k:=by
    funext j;by_cases e:j=k
    ·subst e;rw[zS];simp[F]
    ·rw[yH e];exact getD_set_ne false (Ne.symm e)
   refine I.step E m h hr λK M t' c aa I' p=> ?_;refine ihf (L.erase k) _ K M t' c aa ?_ (by simp[J]) (λi r u=> ?_) ?_ (by rw[y];exact I') (by rw[y];exact p)
   ·have hm:=g k V x;rw[List.length_erase_of_mem hm];omega
   ·have e:i≠k:=λe=>by
     subst e;have:=congrFun y i;rw[zS]at this;rw[u]at this;cases this
    have:b.getD i false=false:=by
     have:=congrFun y i;rw[yH e]at this;rw[<-this];exact u
    exact(List.mem_erase_of_ne e).2 (g i r this)
   ·rw[y];intro j k' B v C;by_cases e:j=k
    ·subst e;exact zR (hr.past k' v C)
    ·rw[yH e]at B;exact zR (m j k' B v C)
theorem Ml (hG:eI P tb) (e:∀w0:d_ gs,qP P w0 ih) (hm:P.follows .mixedOrders=true) {b:List Oper} {id:Nat} (f:b.all (GU n)=true) (N:chkF tb b (nY b)=true) {k:GS->RS} {s:GS} {p:Nu} {ρ:dG} {a:Act} {w:World} {Q:Exit->Act->World->Prop} (F:kQ ρ n s.σ a) (R:eQ w0 ρ s.H w) (h:(Es tb ih b k b s=some p∧D_ b lP=true)∨evW tb ih b (nY b) k b 0 [] [] s=some p)
  (r:∀G m I L,k G=some p->ρ.le m->kQ m n G.σ I->eQ w0 m G.H L->Q .normal I L):(Code.region id b.toArray true).wpr none P Q a w:=by
 have W:b.all jB=true:=List.all_eq_true.2 λo U=>(r_ (List.all_eq_true.1 f o U)).1;obtain⟨S,HH,gg,z,A,T,C,c⟩:∃S HH gg,S 0=s.σ∧HH 0=s.H∧Trc tb ih b b S HH gg∧(∀k y h v,b[k]? = some y->lP y.op=true->ldH (S k) y.op=some h->(HH k).ver h=some v->
   (∀j u,j<k->b[j]? = some u->dO u.op=true->before (nY b) k j=false->(HH j).ver h=some v)∧(∀j u,k<j->b[j]? = some u->dO u.op=true->before (nY b) j k=false->(HH (j+1)).ver h=some v))∧k ⟨S b.length,HH b.length⟩=some p:=by
  rcases h with⟨h,ho⟩|h
  ·obtain⟨S,HH,gg,z,A,T,c⟩:=KL b s h;refine⟨S,HH,gg,z,A,T,λk y h v r K _ _=>⟨λj u O q x B=> ?_,λj u O q x B=> ?_⟩,c⟩
   ·rcases FN ho r q K x with d|d
    ·rw[d]at B;cases B
    ·have:=((GA N).trans j u q k d (a_ r)).1;omega
   ·rcases FN ho r q K x with d|d
    ·have:=((GA N).trans k y r j d (a_ q)).1;omega
    ·rw[d]at B;cases B
  ·obtain⟨S,HH,gg,z,A,T,V,c⟩:=Ij b 0 [] [] s h;exact⟨S,HH,gg,z,A,T,λk y h v r K hh hv=>by have:=V.lo k y h v r K hh hv;simpa using this,c⟩
 rw[<-z]at F;rw[<-A]at R;have E:uB P tb w0 ih b n S HH gg:=⟨hG,e,f,GA N,T,C,Lj hG (e w0) f T F R _ (Nat.le_refl _)⟩
 have J:∀j,(Array.replicate b.length false).getD j false=false:=λj=>by
  by_cases h:j<b.length<;>simp[h]
 refine DJ W hm ?_;have Y:b.toArray.size=b.length:=by simp
 rw[Y];refine TW (ρb:=ρ) E (λm I L h0 d M=>r ⟨S b.length,HH b.length⟩ m I L c h0 M d) b.length (List.range b.length) _ a _ 0 ρ (λ_=>none) (by simp) (by simp) (λi hi _=>List.mem_range.2 hi) (λj k' q=>by simp only[J]at q;cases q) ?_ (.inl Z);refine⟨Nat.zero_le _,λj o _ _=>by simp only[J];simp,λj o _ _ h=>absurd h (Nat.not_lt_zero j),R.ext' ((Below.refl _ _).drew),dG.le_refl _,F.defers,F.size,λG g hs=> ?_,λi o cs _ _ _ _ h5=>(by simp only[J]at h5;cases h5),λh l X=>(by cases X),λh h' l l' X=>(by cases X)⟩
 rcases hs with⟨i,o,d,_⟩|⟨_,M⟩
 ·simp only[J]at d;cases d
 ·exact(F.slot G g M).le FH
end
def Gn (c:TB) (n:Nat):Code->Bool
 | .skip | .exit _ | .ret=>true
 | .region _ ops dr=>ops.toList.all (GU n)&&(!dr||chkF c ops.toList (nY ops.toList))
 | .seq a b=>Gn c n a&&Gn c n b
 | .cond _ a b=>Gn c n a&&Gn c n b
 | .block _ b=>Gn c n b
 | .loop b=>Gn c n b
 |_=>false
section
variable {P:Program} {G:GP} {tb:TB} {Fs:FT} {gs:xR} {w0:d_ gs}
def CP (P:Program) (c:Code) (Q:Exit->Act->World->Prop) (a:Act) (w:World):Prop:=
 ∀(b:Frame) (k:List Item) (d:List Frame),b.roundOf=(FR none).round->(FR none).fn b.fn->(FR none).room (d.length+1+0)->
  ∃e f g,Q e f g∧ArrivesIn (Machine.fenced P (FR none)) P (lone (b.atR a (.code c :: .inLoop c::k)) d w) b k d e f g
theorem CP.loop {c:Code} {Q:Exit->Act->World->Prop} {a:Act} {w:World} (h:CP P c Q a w):(Code.loop c).wpr none P Q a w:=by
 intro b k l f g i;obtain⟨e,j,n,m,d⟩:=h b k l f g i;exact⟨e,j,n,m,.of_steps (.one (fenced_calm g i Z) stepR_loop) d⟩
theorem CP.round {c:Code} {Q:Exit->Act->World->Prop} {a:Act} {w:World} (h:c.wpr none P (Exit.then (CP P c Q) Q) a w):CP P c Q a w:=by
 intro b k t p r s;obtain⟨e,f,g,m,d⟩:=h b (.inLoop c::k) t p r s;cases e with
 |normal=>
  obtain⟨o,n,q,j,i⟩:=m b k t p r s;exact⟨o,n,q,j,.of_steps (StepsIn.trans d (.one (fenced_calm r s Z) stepR_inLoop)) i⟩
 |exit id=>exact⟨_,f,g,m,.pass (x:= .inLoop c) Z (λ_ _=> .inl (by simp)) d⟩
 |goto l=>exact⟨_,f,g,m,.pass (x:= .inLoop c) Z (λ_ _=> .inl (by simp)) d⟩
 |ret=>exact⟨_,f,g,m,.pass (x:= .inLoop c) Z (λ_ _=> .inl (by simp)) d⟩
 |panic u=>exact⟨_,f,g,m,.pass (x:= .inLoop c) Z (λ_ _=> .inl (by simp)) d⟩
 |outgrown=>exact⟨_,f,g,m,.pass (x:= .inLoop c) Z (λ_ _=> .inl (by simp)) d⟩
noncomputable def Ik (a:Cx) (id:Nat) (s:GS):RS:=some ⟨.exit id,Bt s.σ (kY (AW a.env id)),s.H⟩
structure UW {gs:xR} (w0:d_ gs) (tb:TB) (n:Nat) (cx:Cx) (k:GS->RS) (out:Nu) (ρ:dG) (Q:Exit->Act->World->Prop):Prop where
 k:∀s' ρ' a' w',k s'=some out->ρ.le ρ'->kQ ρ' n s'.σ a'->eQ w0 ρ' s'.H w'->Q .normal a' w'
 x:∀id s' ρ' a' w',Ik cx id s'=some out->ρ.le ρ'->kQ ρ' n s'.σ a'->eQ w0 ρ' s'.H w'->Q (.exit id) a' w'
 r:∀s' ρ' a' w',Re tb cx s'=some out->ρ.le ρ'->kQ ρ' n s'.σ a'->eQ w0 ρ' s'.H w'->Q .ret a' w'
def Gt (P:Program) {gs:xR} (w0:d_ gs) (tb:TB) (l:LH):Prop:=∀b h j H d,l b h j H=some d->∀n k i a w Q,Gn tb n b=true->jM (kY (live (.loop b) 0 h)) j some=some k->kQ i n k a->eQ w0 i H w->
 (∀id e c f g,Ik h id e=some d->i.le c->kQ c n e.σ f->eQ w0 c e.H g->Q (.exit id) f g)->
 (∀e c f g,Re tb h e=some d->i.le c->kQ c n e.σ f->eQ w0 c e.H g->Q .ret f g)->CP P b Q a w
theorem MG {b:Cx} {s:GS} {a:Nu} (h:Re tb b s=some a):a.e = .ret:=by
 obtain⟨c,_,h⟩:=aB.1 (show ob (OJ tb s b.res) _=some a from h);cases h;rfl
theorem zL {b:Cx} {id:Nat} {s:GS} {a:Nu} (h:Ik b id s=some a):a.e = .exit id:=by cases h;rfl
theorem Rc {b:List Nat} {s:GS} {a:Nu} (h:FS b s=some a):a.e = .normal∧a.vs=Bt s.σ b∧a.H=s.H:=by cases h;exact⟨rfl,rfl,rfl⟩
theorem QM {n:Nat} {m:Cx} {j:List Nat} {k:GS->RS} {o b:Nu} {l:dG} {Q:Exit->Act->World->Prop} (L:UW w0 tb n m k b l Q) (h:jM j o.vs (λg=>k ⟨g,o.H⟩)=some b) {c:GS} {a:dG} {d:Act} {f:World}
  (r:o.vs=Bt c.σ j) (q:o.H=c.H) (e:l.le a) (F:kQ a n c.σ d) (R:eQ w0 a c.H f):Q .normal d f:=by
 obtain⟨g,i,p⟩:=pW h;rw[r]at i;exact L.k ⟨g,o.H⟩ a d f p e (Is F i) (by rw[q];exact R)
theorem BO {M:CH} {W:LH} (O:eI P tb) (V:P.follows .mixedOrders=true) (j:∀w0:d_ gs,qP P w0 M) (p:Gt P w0 tb W) {n:Nat}:∀(c:Code) (m:Nat) (f:Cx) (k:GS->RS) (s:GS) (d:Nu) (q:dG) (a:Act) (w:World) (Q:Exit->Act->World->Prop),
  Gn tb n c=true->ZP tb M W c m f k s=some d->kQ q n s.σ a->eQ w0 q s.H w->UW w0 tb n f k d q Q->c.wpr none P Q a w
 | .skip,m,f,k,s,d,q,a,w,Q,_,h,F,R,L=>PL (L.k s q a w h (dG.le_refl _) F R)
 | .region id ops dr, m, f, k, s, d, q, a, w, Q, ho, h, F, R, L => by
  have l:ops.toList.all (GU n)=true∧(!dr||chkF tb ops.toList (nY ops.toList))=true:=by simpa [Gn]using ho
  have ad:ops.toList.all jB=true:=List.all_eq_true.2 λo ac=>(r_ (List.all_eq_true.1 l.1 o ac)).1;have N:Bool.casesOn (motive:=λ_=>RS) (adJ dr ops.toList) (Es tb M ops.toList k ops.toList s) (evW tb M ops.toList (nY ops.toList) k ops.toList 0 [] [] s)=some d:=h;have e:ops=ops.toList.toArray:=by simp
  cases dr with
  |false=>
   rw[e];exact rO ad (FC O (j w0) ops.toList s q a w l.1 F R N L.k)
  | true =>
   rw[e];have hF:chkF tb ops.toList (nY ops.toList)=true:=by simpa using l.2
   have u:(Es tb M ops.toList k ops.toList s=some d∧D_ ops.toList lP=true)∨evW tb M ops.toList (nY ops.toList) k ops.toList 0 [] [] s=some d:=by
    cases T:adJ true ops.toList with
    |true=>rw[T]at N;exact .inr N
    |false=>
     rw[T]at N;have:(!D_ ops.toList lP)=false:=T;exact .inl ⟨N,by simpa using this⟩
   exact Ml O j V l.1 hF F R u L.k
 | .seq x y,m,f,k,s,d,q,a,w,Q,ho,h,F,R,L=>by
  have l:Gn tb n x=true∧Gn tb n y=true:=by simpa [Gn]using ho
  refine Tl (BO O V j p x (live y m f) f (ZP tb M W y m f k) s d q a w _ l.1 h F R ⟨λA t E I z g B C=> ?_,L.x,L.r⟩);exact BO O V j p y m f k A d t E I Q l.2 z B C ⟨λs2 K X w2 J u=>L.k s2 K X w2 J (dG.le_trans g u),λid s2 K X w2 J u=>L.x id s2 K X w2 J (dG.le_trans g u),λs2 K X w2 J u=>L.r s2 K X w2 J (dG.le_trans g u)⟩
 | .cond x thn els, m, f, k, s, d, q, a, w, Q, ho, h, F, R, L => by
  have l:Gn tb n thn=true∧Gn tb n els=true:=by simpa [Gn]using ho
  obtain⟨v,hv,h⟩:=aB.1 (show ob (jY s.σ x) _=some d from h);obtain⟨b,U,h⟩:=aB.1 h;obtain⟨o,J,h⟩:=aB.1 (show ob _ (λo=>Ex.casesOn (motive:=λ_=>RS) o.e (jM (kY m) o.vs λσ=>k ⟨σ,o.H⟩) (λ_=>some o) (some o))=some d from h);have hx:=cB F hv;rw[AU U]at hx;have L':UW w0 tb n f (FS (kY m)) o q Q:=by
   refine⟨λA t E I z g B C=> ?_,λid A t E I z g B C=> ?_,λA t E I z g B C=> ?_⟩
   ·obtain⟨D,e2,e3⟩:=Rc z;rw[D]at h;exact QM L h e2 e3 g B C
   ·have D:=zL z;rw[D]at h;cases h;exact L.x id A t E I z g B C
   ·have D:=MG z;rw[D]at h;cases h;exact L.r A t E I z g B C
  refine DI hx.bool_inv (λab=> ?_) (λaa=> ?_)
  ·rw[ab]at J;exact BO O V j p thn m f (FS (kY m)) s o q a w Q l.1 J F R L'
  ·rw[aa]at J;exact BO O V j p els m f (FS (kY m)) s o q a w Q l.2 J F R L'
 | .block id b, m, f, k, s, d, q, a, w, Q, ho, h, F, R, L => by
  have l:Gn tb n b=true:=by simpa [Gn]using ho
  obtain⟨o2,u,h⟩:=aB.1 (show ob (nB id (ZP tb M W b m ⟨f.res,f.retm,(id,m)::f.env⟩ (FS (kY m)) s)) (λo=>Ex.casesOn (motive:=λ_=>RS) o.e (jM (kY m) o.vs λσ=>k ⟨σ,o.H⟩) (λ_=>some o) (some o))=some d from h);obtain⟨o,J,u⟩:=aB.1 (show ob (ZP tb M W b m ⟨f.res,f.retm,(id,m)::f.env⟩ (FS (kY m)) s) (λo=>Ex.casesOn (motive:=λ_=>RS) o.e (some o) (λi=>Bool.casesOn (motive:=λ_=>RS) (Nat.beq i id) (some o) (some ⟨.normal,o.vs,o.H⟩)) (some o))=some o2 from u);refine Lu (BO O V j p b m _ (FS (kY m)) s o q a w _ l J F R ⟨λA t E I z g B C=> ?_,λi A t E I z g B C=> ?_,λA t E I z g B C=> ?_⟩)
  ·obtain⟨D,e2,e3⟩:=Rc z;rw[D]at u;cases u;rw[D]at h;exact QM L h e2 e3 g B C
  ·have D:=zL z;rw[D]at u;by_cases hi:i=id
   ·subst hi;have U:Nat.beq i i=true:=by simp
    simp only[U]at u;cases u;show Exit.inBlock i Q (.exit i) E I;simp only[Exit.inBlock,if_true];have S:o=⟨.exit i,Bt A.σ (kY (AW ((i,m)::f.env) i)),A.H⟩:=by cases z;rfl
    have he:AW ((i,m)::f.env) i=m:=by
     show(bif Nat.beq i i then m else AW f.env i)=m;rw[U];rfl
    rw[he]at S;exact QM (o:=⟨.normal,o.vs,o.H⟩) L h (by rw[S]) (by rw[S]) g B C
   ·have U:Nat.beq i id=false:=lY hi;simp only[U]at u;cases u;rw[D]at h;cases h;show Exit.inBlock id Q (.exit i) E I;simp only[Exit.inBlock,if_neg hi];refine L.x i A t E I ?_ g B C;have he:AW ((id,m)::f.env) i=AW f.env i:=by
     show(bif Nat.beq id i then m else AW f.env i)=_;rw[lY (Ne.symm hi)];rfl
    rw[<-z];show Ik f i A=some ⟨.exit i,Bt A.σ (kY (AW ((id,m)::f.env) i)),A.H⟩;rw[he];rfl
  ·have D:=MG z;rw[D]at u;cases u;rw[D]at h;cases h;exact L.r A t E I z g B C
 | .loop b,m,f,k,s,d,q,a,w,Q,ho,h,F,R,L=>by
  have l:Gn tb n b=true:=by simpa [Gn]using ho
  have N:W b f (Bt s.σ (kY (live (.loop b) 0 f))) s.H=some d:=h;have ae:=MF s.σ (kY (live (.loop b) 0 f));obtain⟨σ,Y⟩:=ae;exact CP.loop (p b f _ s.H d N n σ q a w Q l Y (Is F Y) R L.x L.r)
 | .exit id,m,f,k,s,d,q,a,w,Q,_,h,F,R,L=>PK (L.x id s q a w h (dG.le_refl _) F R)
 | .ret,m,f,k,s,d,q,a,w,Q,_,h,F,R,L=>Tk (L.r s q a w h (dG.le_refl _) F R)
 | .rangeFunc _ _ _ _,m,f,k,s,d,q,a,w,Q,ho,_,_,_,_=>by simp[Gn]at ho
 | .scope _,m,f,k,s,d,q,a,w,Q,ho,_,_,_,_=>by simp[Gn]at ho
 | .label _,m,f,k,s,d,q,a,w,Q,ho,_,_,_,_=>by simp[Gn]at ho
 | .goto _,m,f,k,s,d,q,a,w,Q,ho,_,_,_,_=>by simp[Gn]at ho
 | .refuse _,m,f,k,s,d,q,a,w,Q,ho,_,_,_,_=>by simp[Gn]at ho
theorem aaC (j:eI P tb) {n:Nat} {s:GS} {f:dG} {a:Act} {w:World} (F:kQ f n s.σ a) (R:eQ w0 f s.H w) {r:ResultVar} {g:GV} (h:adt tb s r=some g):∃v,Rl f g v∧(Ew a.tmps r).run P w = .ok v w:=by
 cases r with
 |tmp t=>exact⟨_,F.slot t g h,by simp[Ew,Act.eval]⟩
 |cell q T=>
  obtain⟨v,m,h⟩:=aB.1 (show ob (Eh s.σ q) _=some g from h);have d:=F.slot q v m;obtain⟨x,_,_,_,_,_,o,c⟩:=Kd (P:=P) j R d h;have c:=c w Z;refine⟨x,o,?_⟩
  obtain⟨p,k,_⟩:=aB.1 (show ob v.asP _=some g from h);rw[CV k]at d;obtain⟨l,u,e⟩:=d.ptr_inv;have i:a.tmps.getD q undef = .pointer (some ⟨l.b,l.off+p.2,none⟩):=e;rw[e]at c;simp only[Instr.loadAt,Instr.sureAddr]at c;simp only[Ew,i,asAddr];simpa using c
theorem OM (f:eI P tb) {n:Nat} {s:GS} {e:dG} {a:Act} {w:World} (F:kQ e n s.σ a) (R:eQ w0 e s.H w):∀{l:List ResultVar} {gs:List GV},OJ tb s l=some gs->∃b,n_ e gs b∧(l.mapM (Ew a.tmps)).run P w = .ok b w
 | [],gs,h=>by cases h;exact⟨[],.nil,by simp⟩
 |r::l,gs,h=>by
  obtain⟨g,m,h⟩:=aB.1 (show ob (adt tb s r) (λv=>ob (OJ tb s l) λb=>some (v::b))=some gs from h);obtain⟨i,c,h⟩:=aB.1 h;cases h;obtain⟨v,o,j⟩:=aaC (P:=P) f F R m;obtain⟨b,d,k⟩:=OM f F R c;exact⟨v::b,.cons o d,by simp[List.mapM_cons,j,k]⟩
theorem Xt {b:dG} {gs:List GV} {a:List Value} (h:n_ b gs a):Rl b (Up gs) (if h:a.toArray.size=1 then a.toArray[0]else .tuple a.toArray):=by
 cases gs with
 |nil=>rw[h.of_nil];exact H_ .nil
 | cons g gs =>
  obtain⟨v,a,rfl,c,d⟩:=h.of_cons;cases gs with
  |nil=>rw[d.of_nil];show Rl b g _;simpa using c
  |cons j gs=>
   obtain⟨k,i,rfl,e,f⟩:=d.of_cons;rw[dif_neg (by simp)];exact H_ (.cons c (.cons e f))
theorem FU (j:eI P tb) {fn:Func} {c:Cx} (d:c.res=fn.results.toList) {n:Nat} {s:GS} {g:dG} {a:Act} {w:World} {b:Nu} (F:kQ g n s.σ a) (R:eQ w0 g s.H w) (h:Re tb c s=some b):b.H=s.H∧∃v,Rl g (Up b.vs) v∧(results fn a.tmps).run P w = .ok v w:=by
 obtain⟨gs,e,h⟩:=aB.1 (show ob (OJ tb s c.res) _=some b from h);cases h;obtain⟨l,f,i⟩:=OM (P:=P) j F R e;rw[d]at i;refine⟨rfl,_,Xt f,?_⟩
 rw[wZ];have k:(fn.results.mapM (Ew a.tmps)).run P w = .ok l.toArray w:=by
  rw[Array.mapM_eq_mapM_toList];simp[i]
 simp[k]
structure Tn (P:Program) (G:GP) (Fs:FT) {gs:xR} (w0:d_ gs):Prop where
 tab:eI P G.tab
 mixed:P.follows .mixedOrders=true
 fns:∀{f fn},Fs f=some fn->P.funcs[f]? = some fn∧aT P f∧(∀c,fn.body=some c->Gn G.tab fn.ntmps c=true)∧fn.params.size+fn.nfree<=fn.ntmps
 ext:∀{f us H g H'},G.ext f us H=some (g,H')->∀ρ w vs,eQ w0 ρ H w->n_ ρ us vs->jX P w0 ρ f vs w g H'
 exn:∀{f us g},G.exn f us=some g->∀ρ w vs H,eQ w0 ρ H w->n_ ρ us vs->jX P w0 ρ f vs w g H
 /-- the function that catches returns 0 and 0 if its argument returns;its two variables are new objects -/
 cat:∀{ρ:dG} {g us cs w H H' c1 c2},eQ w0 ρ H w->(∀ρ' w',ρ.le ρ'->eQ w0 ρ' ((H.new (.cells [wG])).new (.cells [wG])) w'->∃x,jX P w0 ρ' g (us++cs) w' x H')->H'.cells H.n=some [c1]->H'.cells (H.n+1)=some [c2]->
  jX P w0 ρ G.cat [.func (.func g) us.toArray cs.toArray] w (.tup [wG,wG]) ((((H'.set H.n (.cells [wG])).set (H.n+1) (.cells [wG])).del H.n).del (H.n+1))
def UJ (P:Program) {gs:xR} (w0:d_ gs) (h:IH):Prop:=∀f d H a,h (.fn f) d H=some a->a.e = .ret->∀c w g,eQ w0 c H w->n_ c d g->
 aT P f∧Calls P f g.toArray w λe i=>∃v b,e = .returned v∧c.le b∧eQ w0 b a.H i∧Rl b (Up a.vs) v
theorem NR {d:IH} (h:UJ P w0 d):qP P w0 (afe d):=λf i H g j m q w p R n=>by
 obtain⟨o,k,b⟩:=aB.1 (show ob (d (.fn f) i H) _=some (g,j)from m);cases c:o.e with
 |normal=>rw[c]at b;cases b
 |exit id=>rw[c]at b;cases b
 |ret=>
  rw[c]at b;cases b;obtain⟨l,a⟩:=h f i H o k c q w p R n;exact .inr ⟨l _ w,a⟩
theorem IX {B:IH} (j:Tn P G Fs w0) (h:UJ P w0 B):qP P w0 (CY G B):=λf b H g z a t w i R e=>by
 unfold CY callQ at a;cases c:Nat.beq f G.cat with
 | false =>
  rw[c]at a;cases n:G.ext f b H with
  |some r=>
   simp only[n]at a;cases a;exact j.ext n t w i R e
  | none =>
   simp only[n]at a;cases s:G.exn f b with
   |some r=>
    simp only[s]at a;cases a;exact j.exn s t w i _ R e
   |none=>
    simp only[s]at a;exact NR h f b H g z a t w i R e
 | true =>
  rw[c]at a;have c:=Nat.eq_of_beq_eq_true c;subst c;cases b with
  |nil=>cases a
  | cons u b =>
   cases b with
   |cons _ _=>cases a
   |nil=>
    obtain⟨p,F,a⟩:=aB.1 (show ob u.asF _=some (g,z)from a);rw[iM,iM]at a;obtain⟨x,J,a⟩:=aB.1 a;obtain⟨O,k,a⟩:=aB.1 a;obtain⟨Q,l,a⟩:=aB.1 a;obtain⟨o,a⟩:=bL.1 a;obtain⟨q,a⟩:=bL.1 a;rw[wN,wN,EB,EB]at a;cases a;obtain⟨M,rfl⟩:=List.length_eq_one_iff.1 (Nat.eq_of_beq_eq_true o);obtain⟨N,rfl⟩:=List.length_eq_one_iff.1 (Nat.eq_of_beq_eq_true q);obtain⟨v,i,rfl,A,E⟩:=e.of_cons;rw[E.of_nil];rw[Vv F]at A;obtain⟨K,D,rfl,I,m⟩:=A.fn_inv;exact j.cat R (λy L d C=>⟨x.1,NR h p.1 _ _ x.1 x.2 J y L _ C ((I.le d).append (m.le d))⟩) k l
theorem acQ {x:IH} (p:∀w0:d_ gs,Tn P G Fs w0) (B:∀w0:d_ gs,UJ P w0 x) (l:Gt P w0 G.tab λb z=>x (.loop b z)) {f:Nat} {i:Func} {K:List GV} {H:GH} {d:Nu} (T:Fs f=some i) (h:Wl G.tab (CY G x) (λb z=>x (.loop b z)) i K H=some d) (S:d.e = .ret) {u:dG} {w:World} {t:List Value} (R:eQ w0 u H w) (I:n_ u K t):
  aT P f∧Calls P f t.toArray w λe y=>∃v a,e = .returned v∧u.le a∧eQ w0 a d.H y∧Rl a (Up d.vs) v:=by
 obtain⟨M,N,O,Q⟩:=(p w0).fns T;refine⟨N,?_⟩
 obtain⟨k,E,h⟩:=aB.1 (show ob i.body _=some d from h);obtain⟨L,m,h⟩:=pW h;rw[List.range_eq_range']at m;have s:=IT m;have U:t.length<=i.ntmps:=by rw[<-I.len,s];exact Q
 refine rQ M E ?_;have F:kQ u i.ntmps L {tmps:=t.toArray++Array.replicate (i.ntmps - t.toArray.size) undef,defers:=[]}:=by
  refine LV Z (by simp;omega) I (λj v q=> ?_) m;have C:=a_ q;rw[Nat.zero_add,Array.getElem?_append_left (by simpa using C)];simpa using q
 refine BO (p w0).tab (p w0).mixed (λw0=>IX (p w0) (B w0)) l k _ _ _ ⟨L,H⟩ d u _ w _ (O k E) h F R ⟨λJ a D y r c n o=> ?_,λid J a D y r c n o=> ?_,λJ a D y r c n o=> ?_⟩
 ·obtain⟨A,v,q,g⟩:=FU (fn:=i) (p w0).tab Z n o r;exact Sx.body_end (.inr Z) n.defers g ⟨v,a,rfl,c,by rw[A];exact o,q⟩
 ·have:=zL r;rw[S]at this;cases this
 ·obtain⟨A,v,q,g⟩:=FU (fn:=i) (p w0).tab Z n o r;exact Sx.body_end (.inl Z) n.defers g ⟨v,a,rfl,c,by rw[A];exact o,q⟩
theorem ady (B:∀w0:d_ gs,Tn P G Fs w0):∀(c:Nat) (w0:d_ gs),UJ P w0 (run G Fs c)∧Gt P w0 G.tab λb d=>run G Fs c (.loop b d):=by
 intro c
 induction c with
 |zero=>exact λw0=>⟨λf us H i h=>(by cases h),λb d K H i h=>(by cases h)⟩
 | succ c ih =>
  have z:∀w0:d_ gs,UJ P w0 (run G Fs c):=λw0=>(ih w0).1;intro w0;have q:=(ih w0).2;refine⟨λf us H i h he V w K R hr=> ?_,λb d K H i h n O V a w Q T I F R U k=> ?_⟩
  ·obtain⟨fn,E,h⟩:=aB.1 (show ob (Fs f) _=some i from h);exact acQ B z q E h he R hr
  ·have D:jM (kY (live (.loop b) 0 d)) K (λO=>ob (ZP G.tab (CY G (run G Fs c)) (λb d=>run G Fs c (.loop b d)) b (live (.loop b) 0 d) d (FS (kY (live (.loop b) 0 d))) ⟨O,H⟩) λo=>Ex.casesOn (motive:=λ_=>RS) o.e (run G Fs c (.loop b d) o.vs o.H) (λ_=>some o) (some o))=some i:=h;obtain⟨aa,l,D⟩:=pW D;rw[I]at l;cases l;obtain⟨o,Y,s⟩:=aB.1 D;refine CP.round (BO (B w0).tab (B w0).mixed (λw0=>IX (B w0) (z w0)) q b _ d _ ⟨O,H⟩ o V a w _ T Y F R ⟨λt j x A p g u v=> ?_,λid t j x A p g u v=> ?_,λt j x A p g u v=> ?_⟩)
   ·obtain⟨y,W,X⟩:=Rc p;rw[y,W,X]at s;obtain⟨S,m⟩:=MF t.σ (kY (live (.loop b) 0 d));exact q b d _ t.H i s n S j x A Q T m (Is u m) v (λid J r C L M N=>U id J r C L M (dG.le_trans g N)) (λJ r C L M N=>k J r C L M (dG.le_trans g N))
   ·have y:=zL p;rw[y]at s;cases s;exact U id t j x A p g u v
   ·have y:=MG p;rw[y]at s;cases s;exact k t j x A p g u v
theorem Fw (e:∀w0:d_ gs,Tn P G Fs w0) {a f:Nat} {c:List GV} {H H':GH} {g:GV} (h:RY G Fs a f c H=some (g,H')) {b:dG} {w:World} {d:List Value} (R:eQ w0 b H w) (i:n_ b c d):jX P w0 b f d w g H':=
 IX (e w0) (ady e a w0).1 f c H g H' h b w d R i
theorem eQ.start (b:d_ gs) (c:gs.env=[]):eQ b (λ_=>none) H0 b.w:=⟨Bh.refl _,λh o a=>(by cases a),λh g o k l j a=>(by cases a),λ_ _=>rfl,λh d=>absurd d (Nat.not_lt_zero h),λh v l f=>(by cases f),λi v e=>by rw[c]at e;simp at e⟩
end
end Go.Gx
namespace Go.Gx
open Go Go.Sx
noncomputable section
def oN (a:List GV) (H:GH):RS:=some ⟨.normal,a,H⟩
def oX (id:Nat) (a:List GV) (H:GH):RS:=some ⟨.exit id,a,H⟩
def oR (a:List GV) (H:GH):RS:=some ⟨.ret,a,H⟩
def jn (r:RS) (k:List GV->GH->RS):RS:=ob r λo=>Ex.casesOn (motive:=λ_=>RS) o.e (k o.vs o.H) (λ_=>some o) (some o)
def rG (v:GV) (b:Bool) (H:GH) (X:OR):OR:=GV.casesOn (motive_1:=λ_=>OR) v (λ_ _=>none) (λq=>Bool.casesOn (motive:=λ_=>OR) (Sg q b) (some (.un,H)) X) (λ_ _=>none) (λ_ _=>none) none (λ_ _ _ _=>none) none (λ_=>none) (λ_ _ _=>none) none none (λ_=>none) (λ_=>none) (some (.un,H)) none (λ_=>none)
def U0 {R:Type} (a:List GV) (f:Option R):Option R:=List.casesOn (motive:=λ_=>Option R) a (f) λ_ _=>none
def U1 {R:Type} (b:List GV) (f:GV->Option R):Option R:=List.casesOn (motive:=λ_=>Option R) b none λa c=>List.casesOn (motive:=λ_=>Option R) c (f a) λ_ _=>none
def U2 {R:Type} (c:List GV) (f:GV->GV->Option R):Option R:=List.casesOn (motive:=λ_=>Option R) c none λa d=>List.casesOn (motive:=λ_=>Option R) d none λb e=>List.casesOn (motive:=λ_=>Option R) e (f a b) λ_ _=>none
def U3 {R:Type} (d:List GV) (f:GV->GV->GV->Option R):Option R:=List.casesOn (motive:=λ_=>Option R) d none λa e=>List.casesOn (motive:=λ_=>Option R) e none λb g=>List.casesOn (motive:=λ_=>Option R) g none λc h=>List.casesOn (motive:=λ_=>Option R) h (f a b c) λ_ _=>none
def U4 {R:Type} (e:List GV) (f:GV->GV->GV->GV->Option R):Option R:=List.casesOn (motive:=λ_=>Option R) e none λa g=>List.casesOn (motive:=λ_=>Option R) g none λb h=>List.casesOn (motive:=λ_=>Option R) h none λc i=>List.casesOn (motive:=λ_=>Option R) i none λd j=>List.casesOn (motive:=λ_=>Option R) j (f a b c d) λ_ _=>none
def U5 {R:Type} (g:List GV) (f:GV->GV->GV->GV->GV->Option R):Option R:=List.casesOn (motive:=λ_=>Option R) g none λa h=>List.casesOn (motive:=λ_=>Option R) h none λb i=>List.casesOn (motive:=λ_=>Option R) i none λc j=>List.casesOn (motive:=λ_=>Option R) j none λd k=>List.casesOn (motive:=λ_=>Option R) k none λe l=>List.casesOn (motive:=λ_=>Option R) l (f a b c d e) λ_ _=>none
def U6 {R:Type} (h:List GV) (f:GV->GV->GV->GV->GV->GV->Option R):Option R:=List.casesOn (motive:=λ_=>Option R) h none λa i=>List.casesOn (motive:=λ_=>Option R) i none λb j=>List.casesOn (motive:=λ_=>Option R) j none λc k=>List.casesOn (motive:=λ_=>Option R) k none λd l=>List.casesOn (motive:=λ_=>Option R) l none λe m=>List.casesOn (motive:=λ_=>Option R) m none λg n=>List.casesOn (motive:=λ_=>Option R) n (f a b c d e g) λ_ _=>none
def U7 {R:Type} (i:List GV) (f:GV->GV->GV->GV->GV->GV->GV->Option R):Option R:=List.casesOn (motive:=λ_=>Option R) i none λa j=>List.casesOn (motive:=λ_=>Option R) j none λb k=>List.casesOn (motive:=λ_=>Option R) k none λc l=>List.casesOn (motive:=λ_=>Option R) l none λd m=>List.casesOn (motive:=λ_=>Option R) m none λe n=>List.casesOn (motive:=λ_=>Option R) n none λg o=>List.casesOn (motive:=λ_=>Option R) o none λh p=>List.casesOn (motive:=λ_=>Option R) p (f a b c d e g h) λ_ _=>none
def U8 {R:Type} (j:List GV) (f:GV->GV->GV->GV->GV->GV->GV->GV->Option R):Option R:=List.casesOn (motive:=λ_=>Option R) j none λa k=>List.casesOn (motive:=λ_=>Option R) k none λb l=>List.casesOn (motive:=λ_=>Option R) l none λc m=>List.casesOn (motive:=λ_=>Option R) m none λd n=>List.casesOn (motive:=λ_=>Option R) n none λe o=>List.casesOn (motive:=λ_=>Option R) o none λg p=>List.casesOn (motive:=λ_=>Option R) p none λh q=>List.casesOn (motive:=λ_=>Option R) q none λi r=>List.casesOn (motive:=λ_=>Option R) r (f a b c d e g h i) λ_ _=>none
def U9 {R:Type} (k:List GV) (f:GV->GV->GV->GV->GV->GV->GV->GV->GV->Option R):Option R:=List.casesOn (motive:=λ_=>Option R) k none λa l=>List.casesOn (motive:=λ_=>Option R) l none λb m=>List.casesOn (motive:=λ_=>Option R) m none λc n=>List.casesOn (motive:=λ_=>Option R) n none λd o=>List.casesOn (motive:=λ_=>Option R) o none λe p=>List.casesOn (motive:=λ_=>Option R) p none λg q=>List.casesOn (motive:=λ_=>Option R) q none λh r=>List.casesOn (motive:=λ_=>Option R) r none λi s=>List.casesOn (motive:=λ_=>Option R) s none λj t=>List.casesOn (motive:=λ_=>Option R) t (f a b c d e g h i j) λ_ _=>none
def Rj:pF->Code->Code
 | [],c=>c
 |0::p,.seq a _=>Rj p a
 |1::p,.seq _ b=>Rj p b
 |0::p,.cond _ a _=>Rj p a
 |1::p,.cond _ _ b=>Rj p b
 |0::p,.block _ b=>Rj p b
 |0::p,.loop b=>Rj p b
 |_,c=>c
def cF (a:Func) (p:pF):Code:=match a.body with
 |some c=>Rj p c
 |none=> .skip
def iO (b:Func) (a:List (Nat×Nat)):Cx:=⟨b.results.toList,Iw b.results.toList,a⟩
abbrev fQ:=CH->QH->List GV->GH->RS
structure Ft where
 fn:Nat->Option (Func×fQ)
 lp:Nat->Option ((Code×Cx)×fQ)
def Ft.fns (T:Ft) (f:Nat):Option Func:=ob (T.fn f) λe=>some e.1
def Ft.loop (T:Ft) (a:LH):QH:=λi vs H=>ob (T.lp i) λe=>a e.1.1 e.1.2 vs H
def rr (T:Ft) (G:GP) (n:Nat):Bool->QH:=Nat.rec (motive:=λ_=>Bool->QH) (λ_ _ _ _=>none) (λ_ a b t c H=>Bool.casesOn (motive:=λ_=>RS) b (ob (T.fn t) λe=>e.2 (callQ G (a false)) (a true) c H) (ob (T.lp t) λe=>e.2 (callQ G (a false)) (a true) c H)) n
structure IR (T:Ft) (tb:TB):Prop where
 fn:∀{f e},T.fn f=some e->∀(c:CH) (lp:LH) us H,e.2 c (T.loop lp) us H=Wl tb c lp e.1 us H
 lp:∀{i e},T.lp i=some e->∀(c:CH) (lp:LH) us H,e.2 c (T.loop lp) us H=evL tb c lp e.1.1 e.1.2 us H
theorem afM {T:Ft} {G:GP} (h:IR T G.tab):∀n,rr T G n false=(λf c H=>run G T.fns n (.fn f) c H)∧rr T G n true=T.loop (λb a=>run G T.fns n (.loop b a)):=by
 intro n
 induction n with
 |zero=>
  refine⟨rfl,?_⟩
  funext i vs H;show none=ob (T.lp i) λe=>none;cases T.lp i<;>rfl
 | succ n ih =>
  obtain⟨d,g⟩:=ih;constructor
  ·funext f c H;show ob (T.fn f) (λe=>e.2 (callQ G (rr T G n false)) (rr T G n true) c H)=ob (T.fns f) λk=>Wl G.tab (CY G (run G T.fns n)) (λb a=>run G T.fns n (.loop b a)) k c H;unfold Ft.fns;cases j:T.fn f with
   |none=>rfl
   |some e=>
    show e.2 (callQ G (rr T G n false)) (rr T G n true) c H=Wl G.tab (CY G (run G T.fns n)) (λb a=>run G T.fns n (.loop b a)) e.1 c H;rw[d,g];exact h.fn j _ _ c H
  ·funext i vs H;show ob (T.lp i) (λe=>e.2 (callQ G (rr T G n false)) (rr T G n true) vs H)=ob (T.lp i) λe=>run G T.fns (n+1) (.loop e.1.1 e.1.2) vs H;cases j:T.lp i with
   |none=>rfl
   |some e=>
    show e.2 (callQ G (rr T G n false)) (rr T G n true) vs H=evL G.tab (CY G (run G T.fns n)) (λb a=>run G T.fns n (.loop b a)) e.1.1 e.1.2 vs H;rw[d,g];exact h.lp j _ _ vs H
def okF (a:TB) (fn:Func):Bool:=match fn.body with
 |some c=>Gn a fn.ntmps c&&Nat.ble (fn.params.size+fn.nfree) fn.ntmps
 |none=>false
theorem Oz {tb:TB} {fn:Func} (h:okF tb fn=true):(∀c,fn.body=some c->Gn tb fn.ntmps c=true)∧fn.params.size+fn.nfree<=fn.ntmps:=by
 unfold okF at h;cases a:fn.body with
 |none=>rw[a]at h;cases h
 |some c=>
  rw[a]at h;simp only[Bool.and_eq_true]at h;exact⟨λd b=>by cases b;exact h.1,by simpa using h.2⟩
def IY (T:Ft) (G:GP) (b:Nat) (f:FuncId) (a:List GV) (H:GH):OR:=callQ G (rr T G b false) f a H
theorem Fx {T:Ft} {G:GP} (h:IR T G.tab) (fuel:Nat) (f:FuncId) (a:List GV) (H:GH):IY T G fuel f a H=RY G T.fns fuel f a H:=by
 unfold IY RY CY;rw[(afM h fuel).1]
end
end Go.Gx
section
set_option maxRecDepth 100000
namespace Go.Gx
open Go Go.Sx Go.Proofs
noncomputable section
abbrev y:=uW
def gB (f:Func) (c:CH) (_:QH) (a:List GV) (H:GH):RS:=Wl y c (λ_ _ _ _=>none) f a H
def sQ (f:Func) (i:Nat) (c:CH) (q:QH) (a:List GV) (H:GH):RS:=Wl y c (λ_ _ b H=>q i b H) f a H
def gL (e:Code×Cx) (i:Nat) (c:CH) (q:QH) (a:List GV) (H:GH):RS:=evL y c (λ_ _ b H=>q i b H) e.1 e.2 a H
def gL1 (e:Code×Cx) (n i j:Nat) (c:CH) (q:QH) (d:List GV) (H:GH):RS:=evL y c (λ_ b a H=>bif Nat.beq b.env.length n then q i a H else q j a H) e.1 e.2 d H
def gD (e:Code×Cx) (i:Nat):(Code×Cx)×fQ:=(e,gL e i)
def gD1 (e:Code×Cx) (n i j:Nat):(Code×Cx)×fQ:=(e,gL1 e n i j)
def i (n:Nat):GV:= .int .i64 (.ofNat n)
def bC (q:Bool) (f t:RS):RS:=Bool.casesOn (motive:=λ_=>RS) q f t
def K (c:CH) (f:Nat) (a:List GV) (H:GH) (k:GV->GH->RS):RS:=eH (c f a H) k
def bn (a:BinOp) (T:Nat) (v u:GV) (k:GV->RS):RS:=ob (yN y a T v u) k
def ld (T:Nat) (v:GV) (H:GH) (k:GV->RS):RS:=ob (tF y T v H) k
def fd (T n:Nat) (v:GV) (k:GV->RS):RS:=ob (Bd y T n v) k
def ix (T:Nat) (v u:GV) (k:GV->RS):RS:=ob (Rt y T v u) k
def ln (T:Nat) (v:GV) (k:GV->RS):RS:=ob (Pv y T v) k
def ex (n:Nat) (v:GV) (k:GV->RS):RS:=ob (adH n v) k
def bd (T:Nat) (l:List (Nat×GV)) (k:GV->RS):RS:=ob (Rq y T l) k
theorem rN {a:Type} {f n:Nat} {x y:Option a} {e:a} {R:Prop} (b:x=some e->R) (c:y=some e->R):tN f n x y=some e->R:=by
 unfold tN;cases Nat.blt f n
 ·exact c
 ·exact b
theorem rL {c:Type} {f n:Nat} {x e:c} {R:Nat->c->Prop} (h:R n x):tL f n x=some e->R f e:=by
 intro a;unfold tL at a;cases b:Nat.beq f n with
 |false=>rw[b]at a;cases a
 |true=>rw[b]at a;cases a;rw[Nat.eq_of_beq_eq_true b];exact h
def B63 (c:CH) (q:QH) (z:List GV) (H:GH):RS:=U2 z λA B=>
 eH (MY A H) λr p=>
 fd 29 1 r λw=>
 ld 27 w p λx=>
 ln 27 x λs=>
 eH (Yj y 22 s s p) λt u=>
 ln 22 t λm=>
 jn (nB 0 (q 6 [B,r,t,m,(i 0)] u)) λd h=>U3 d λa f b=>ix 22 b a λn=>
 eH (lQ y 3 n (i 0) h) λv j=>
 eH (xQ y 22 1 [(0,a)] j) λo k=>
 jn (nB 2 (q 7 [f,b,o] k)) λe l=>U1 e λg=>oR [g] l
def L6 (c:CH) (B:QH) (D:List GV) (H:GH):RS:=U5 D λa b d e f=>jn (bn .lss 3 f e λx=>
 ob (GV.asB x) λw=>jn (bC w (oX 0 [a,b,d] H) (oN [a,b,d,e,f] H)) λj t=>U5 j λl m g n h=>jn (nB 1 (ix 22 g h λz=>
 eH (lQ y 3 z (.int .i64 (.negSucc 0)) t) λC u=>
 oN [l,m,g,n,h] u)) λk v=>U5 k λo p q r s=>bn .add 3 s (i 1) λA=>
 oN [o,p,q,r,A] v) (B 6)
def L7 (c:CH) (G:QH) (I:List GV) (H:GH):RS:=U3 I λm b d=>jn (ln 22 d λx=>
 bn .gtr 3 x (i 0) λz=>
 ob (GV.asB z) λw=>jn (bC w (oX 2 [b] H) (oN [m,b,d] H)) λj a=>U3 j λe n f=>jn (nB 3 (ix 22 f (i 0) λA=>
 ld 3 A a λg=>
 ob (As y 22 f (some (i 1)) none a) λB=>
 fd 29 1 e λC=>
 ld 27 C a λD=>
 ix 27 D g λE=>
 ld 72 E a λh=>
 ln 72 h λF=>
 jn (nB 4 (G 8 [e,n,B,g,h,F,(i 0)] a)) λk u=>U3 k λo p q=>oN [o,p,q] u)) λl v=>U3 l λr s t=>oN [r,s,t] v) (G 7)
def L8 (c:CH) (ql:QH) (us:List GV) (H:GH):RS:=U7 us λA B C ah ai D E=>jn (bn .lss 3 E D λal=>
 ob (GV.asB al) λak=>jn (bC ak (oX 4 [A,B,C] H) (oN [A,B,C,ah,ai,D,E] H)) λag N=>U7 ag λF b G f g I h=>jn (nB 5 (ix 72 g h λam=>
 ld 92 am N λan=>
 eH (mQ y 92 N) λd aj=>
 eH (lQ y 92 d an aj) λao a=>
 fd 92 0 d λP=>
 ld 3 P a λQ=>
 ix 22 b Q λR=>
 ld 3 R a λS=>
 bn .lss 3 S (i 0) λT=>
 ob (GV.asB T) λO=>jn (bC O (oN [F,b,G,f,g,I,h] a) (fd 92 0 d λU=>
 ld 3 U a λV=>
 ix 22 b f λW=>
 ld 3 W a λX=>
 bn .add 3 X (i 1) λY=>
 ix 22 b V λaa=>
 eH (lQ y 3 aa Y a) λap e=>
 fd 92 0 d λab=>
 ld 3 ab e λac=>
 eH (xQ y 22 1 [(0,ac)] e) λad J=>
 eH (Rp y 22 22 G ad J) λae K=>
 oN [F,b,ae,f,g,I,h] K)) λj L=>U7 j λl m n o p q r=>oN [l,m,n,o,p,q,r] L)) λk M=>U7 k λs t u v w x z=>bn .add 3 z (i 1) λaf=>
 oN [s,t,u,v,w,x,af] M) (ql 8)
def B70 (c:CH) (e:QH) (l:List GV) (H:GH):RS:=U3 l λd m n=>
 ob (GV.nilck d) λf=>
 fd 108 0 f λg=>
 fd 60 2 g λh=>
 ld 58 h H λj=>
 ln 58 j λk=>
 jn (nB 0 (e 14 [d,m,n,k,(i 0)] H)) λb a=>U0 b (oR [(.int .i64 (.negSucc 0))] a)
def L14 (c:CH) (N:QH) (O:List GV) (H:GH):RS:=U5 O λn o p b d=>jn (bn .lss 3 d b λF=>
 ob (GV.asB F) λD=>jn (bC D (oX 0 [] H) (oN [n,o,p,b,d] H)) λk h=>U5 k λe f g q a=>jn (nB 1 (ob (GV.nilck e) λG=>
 fd 108 1 G λI=>
 ld 103 I h λJ=>
 K c 94 [J,f,g,a] h λL j=>
 ob (GV.asB L) λE=>jn (bC E (oN [e,f,g,q,a] j) (oR [a] j)) λl B=>U5 l λr s t u v=>oN [r,s,t,u,v] B)) λm C=>U5 m λw x y z A=>bn .add 3 A (i 1) λM=>
 oN [w,x,y,z,M] C) (N 14)
def B71 (c:CH) (l:QH) (p:List GV) (H:GH):RS:=U1 p λg=>
 ln 9 g λm=>
 bn .gtr 3 m (i 16384) λn=>
 ob (GV.asB n) λk=>jn (bC k (oN [g] H) (oR [.snil,(i 0),(i 3)] H)) λe h=>U1 e λf=>K c 95 [f,(i 0)] h λo j=>
 jn (nB 0 (l 15 [f,.snil,o] j)) λa d=>U1 a λb=>oR [b,(i 0),(i 0)] d
def L15 (c:CH) (ql:QH) (us:List GV) (H:GH):RS:=U3 us λa b d=>jn (ln 9 a λO=>
 bn .lss 3 d O λP=>
 ob (GV.asB P) λL=>jn (bC L (oX 0 [b] H) (oN [a,b,d] H)) λs l=>U3 s λw e f=>jn (nB 1 (ln 112 e λQ=>
 bn .eql 3 Q (i 4096) λR=>
 ob (GV.asB R) λM=>jn (bC M (oN [w,e,f] l) (oR [.snil,f,(i 3)] l)) λt D=>U3 t λg x h=>K c 96 [g,h] D λp E=>
 ex 0 p λS=>
 ex 1 p λq=>
 eH (mQ y 145 E) λr F=>
 eH (lQ y 145 r S F) λab m=>
 bn .neq 67 q (i 0) λT=>
 ob (GV.asB T) λN=>jn (bC N (oN [g,x,r] m) (oR [.snil,h,q] m)) λu n=>U3 u λj z k=>ld 145 k n λU=>
 eH (xQ y 112 1 [(0,U)] n) λV G=>
 eH (Rp y 112 112 z V G) λW o=>
 fd 145 2 k λX=>
 ld 3 X o λY=>
 K c 95 [j,Y] o λaa I=>
 oN [j,W,aa] I)) λv J=>U3 v λA B C=>oN [A,B,C] J) (ql 15)
def B74 (c:CH) (T:QH) (us:List GV) (H:GH):RS:=U1 us λx1=>
 eH (MY x1 H) λF P=>
 fd 60 1 F λt4=>
 ld 39 t4 P λt5=>
 ln 39 t5 λt6=>
 bn .eql 3 t6 (i 0) λz=>
 eH (rG z false P (ob (Bd y 60 1 F) λg8=>some (g8,P))) λt9 b=>
 eH (rG z false b (ob (tF y 39 t9 b) λG=>some (G,b))) λU j=>
 eH (rG z false j (ob (Pv y 39 U) λI=>some (I,j))) λV k=>
 eH (rG z false k (ob (yN y .gtr 3 V (i 6)) λJ=>some (J,k))) λW l=>
 ob (nZ z (.bool true) W) λa=>
 eH (rG a false l (ob (Bd y 60 2 F) λL=>some (L,l))) λX d=>
 eH (rG a false d (ob (tF y 58 X d) λM=>some (M,d))) λY m=>
 eH (rG a false m (ob (Pv y 58 Y) λN=>some (N,m))) λaa n=>
 eH (rG a false n (ob (yN y .gtr 3 aa (i 12)) λO=>some (O,n))) λab o=>
 ob (nZ a (.bool true) ab) λac=>
 ob (GV.asB ac) λR=>jn (bC R (oN [F] o) (oR [(i 3)] o)) λA p=>U1 A λe=>ld 60 e p λad=>
 K c 106 [ad] p λae q=>
 ob (Yn .not ae) λaf=>
 ob (GV.asB af) λS=>jn (bC S (oN [e] q) (oR [(i 5)] q)) λB r=>U1 B λf=>fd 60 1 f λag=>
 ld 39 ag r λv=>
 ln 39 v λah=>
 jn (nB 0 (T 16 [f,v,ah,(i 0)] r)) λC s=>U1 C λg=>fd 60 2 g λai=>
 ld 58 ai s λw=>
 ln 58 w λaj=>
 jn (nB 2 (T 17 [g,w,aj,(i 0)] s)) λD t=>U1 D λh=>ld 60 h t λak=>
 K c 109 [ak] t λal u=>
 fd 60 2 h λam=>
 ld 58 am u λx=>
 ln 58 x λan=>
 jn (nB 4 (T 18 [al,x,an,(i 0)] u)) λE Q=>U0 E (oR [(i 0)] Q)
def L16 (c:CH) (O:QH) (Q:List GV) (H:GH):RS:=U4 Q λb q d e=>jn (bn .lss 3 e d λG=>
 ob (GV.asB G) λE=>jn (bC E (oX 0 [b] H) (oN [b,q,d,e] H)) λn h=>U4 n λr f s g=>jn (nB 1 (ix 39 f g λI=>
 ld 71 I h λJ=>
 eH (mQ y 71 h) λm B=>
 eH (lQ y 71 m J B) λP j=>
 ld 71 m j λL=>
 K c 107 [L] j λM k=>
 ob (Yn .not M) λN=>
 ob (GV.asB N) λF=>jn (bC F (oN [r,f,s,g] k) (oR [(i 2)] k)) λo C=>U4 o λt u v w=>oN [t,u,v,w] C)) λp D=>U4 p λx z A a=>bn .add 3 a (i 1) λl=>
 oN [x,z,A,l] D) (O 16)
def L17 (c:CH) (S:QH) (T:List GV) (H:GH):RS:=U4 T λb p d e=>jn (bn .lss 3 e d λF=>
 ob (GV.asB F) λD=>jn (bC D (oX 2 [b] H) (oN [b,p,d,e] H)) λm j=>U4 m λf g q h=>jn (nB 3 (ix 58 g h λG=>
 ld 161 G j λI=>
 eH (mQ y 161 j) λl A=>
 eH (lQ y 161 l I A) λR a=>
 ld 161 l a λJ=>
 fd 60 1 f λL=>
 ld 39 L a λM=>
 ln 39 M λN=>
 K c 108 [J,N] a λO k=>
 ob (Yn .not O) λP=>
 ob (GV.asB P) λE=>jn (bC E (oN [f,g,q,h] k) (oR [(i 7)] k)) λn B=>U4 n λr s t u=>oN [r,s,t,u] B)) λo C=>U4 o λv w x z=>bn .add 3 z (i 1) λQ=>
 oN [v,w,x,Q] C) (S 17)
def L18 (c:CH) (P:QH) (Q:List GV) (H:GH):RS:=U4 Q λo p a b=>jn (bn .lss 3 b a λF=>
 ob (GV.asB F) λD=>jn (bC D (oX 4 [] H) (oN [o,p,a,b] H)) λl g=>U4 l λd e q f=>jn (nB 5 (ix 58 e f λG=>
 ld 161 G g λI=>
 eH (mQ y 161 g) λk A=>
 eH (lQ y 161 k I A) λO h=>
 ld 161 k h λJ=>
 K c 110 [J,d] h λL j=>
 ob (Yn .not L) λM=>
 ob (GV.asB M) λE=>jn (bC E (oN [d,e,q,f] j) (oR [(i 6)] j)) λm B=>U4 m λr s t u=>oN [r,s,t,u] B)) λn C=>U4 n λv w x z=>bn .add 3 z (i 1) λN=>
 oN [v,w,x,N] C) (P 18)
def B94 (c:CH) (r:QH) (n:List GV) (H:GH):RS:=U4 n λg o p q=>
 ob (GV.nilck g) λh=>
 fd 137 0 h λj=>
 fd 60 2 j λk=>
 ld 58 k H λl=>
 ix 58 l q λm=>
 fd 161 1 m λb=>
 ld 158 b H λd=>
 K c 124 [g,o,p,d] H λe a=>
 bn .neq 3 e (i 0) λf=>
 oR [f] a
def B95 (c:CH) (e:QH) (f:List GV) (H:GH):RS:=U2 f λg h=>
 jn (nB 0 (e 26 [g,h] H)) λa d=>U1 a λb=>oR [b] d
def L26 (c:CH) (ql:QH) (us:List GV) (H:GH):RS:=U2 us λa6 R=>jn (ln 9 a6 λt8=>
 bn .lss 3 R t8 λt9=>
 ob (GV.asB t9) λaa=>jn (bC aa (oX 0 [R] H) (oN [a6,R] H)) λm e=>U2 m λb d=>jn (nB 1 (ob (vAt y 9 b d) λa=>
 jn (nB 2 (bn .eql 5 a (.int .u8 (.ofNat 32)) λj=>
 ob (GV.asB j) λab=>jn (bC ab (bn .eql 5 a (.int .u8 (.ofNat 9)) λk=>
 ob (GV.asB k) λac=>jn (bC ac (bn .eql 5 a (.int .u8 (.ofNat 10)) λl=>
 ob (GV.asB l) λad=>jn (bC ad (bn .eql 5 a (.int .u8 (.ofNat 13)) λag=>
 oN [b,d,a,ag] e) (oN [b,d,a,l] e)) λn S=>U4 n λv w x z=>oN [v,w,x,z] S) (oN [b,d,a,k] e)) λo T=>U4 o λA B C D=>oN [A,B,C,D] T) (oN [b,d,a,j] e)) λp g=>U4 p λh f E F=>ob (GV.asB F) λae=>jn (bC ae (bn .eql 5 E (.int .u8 (.ofNat 35)) λai=>
 ob (GV.asB ai) λaf=>jn (bC af (oR [f] g) (jn (nB 3 (ql 27 [h,f] g)) λq U=>U2 q λG I=>oN [G,I] U)) λr V=>U2 r λJ K=>oN [J,K] V) (bn .add 3 f (i 1) λah=>
 oN [h,ah] g)) λs W=>U2 s λL M=>oN [L,M] W)) λt X=>U2 t λN O=>oN [N,O] X)) λu Y=>U2 u λP Q=>oN [P,Q] Y) (ql 26)
def L27 (c:CH) (C:QH) (D:List GV) (H:GH):RS:=U2 D λb d=>jn (ln 9 b λu=>
 bn .lss 3 d u λa=>
 eH (rG a true H (some (b,H))) λv e=>
 eH (rG a true e (some (d,e))) λw f=>
 eH (rG a true f (ob (vAt y 9 v w) λp=>some (p,f))) λx g=>
 eH (rG a true g (ob (yN y .neq 5 x (.int .u8 (.ofNat 10))) λq=>some (q,g))) λz h=>
 ob (nZ a z (.bool false)) λA=>
 ob (GV.asB A) λt=>jn (bC t (oX 3 [b,d] h) (oN [b,d] h)) λj r=>U2 j λl m=>jn (nB 4 (bn .add 3 m (i 1) λB=>
 oN [l,B] r)) λk s=>U2 k λn o=>oN [n,o] s) (C 27)
def adZ (c:CH) (w:QH) (D:List GV) (H:GH):RS:=U1 D λE=>
 eH (MY E H) λx u=>
 fd 60 0 x λz=>
 ld 9 z u λA=>
 K c 134 [A] u λB v=>
 ob (Yn .not B) λC=>
 ob (GV.asB C) λy=>jn (bC y (oN [x] v) (oR [(.bool false)] v)) λg l=>U1 g λa=>eH (Bv l) λo b=>
 fd 60 1 a λp=>
 ld 39 p b λe=>
 ln 39 e λq=>
 jn (nB 0 (w 31 [a,o,e,q,(i 0)] b)) λh m=>U1 h λk=>eH (Bv m) λr d=>
 fd 60 2 k λs=>
 ld 58 s d λf=>
 ln 58 f λt=>
 jn (nB 2 (w 32 [r,f,t,(i 0)] d)) λj n=>U0 j (oR [(.bool true)] n)
def L31 (c:CH) (ql:QH) (us:List GV) (H:GH):RS:=U5 us λf w x g h=>jn (bn .lss 3 h g λV=>
 ob (GV.asB V) λT=>jn (bC T (oX 0 [f] H) (oN [f,w,x,g,h] H)) λt n=>U5 t λz j k A l=>jn (nB 1 (ix 39 k l λW=>
 ld 71 W n λX=>
 eH (mQ y 71 n) λb Q=>
 eH (lQ y 71 b X Q) λak o=>
 fd 71 0 b λY=>
 ld 9 Y o λaa=>
 K c 134 [aa] o λab p=>
 ob (Yn .not ab) λa=>
 eH (rG a false p (some (j,p))) λac q=>
 eH (rG a false q (ob (Bd y 71 0 b) λN=>some (N,q))) λad d=>
 eH (rG a false d (ob (tF y 9 ad d) λO=>some (O,d))) λae e=>
 eH (rG a false e (ob (Tf y 195 false ac ae e) λP=>some (P,e))) λaf r=>
 ob (nZ a (.bool true) af) λag=>
 ob (GV.asB ag) λU=>jn (bC U (oN [z,j,b,k,A,l] r) (oR [(.bool false)] r)) λu s=>U6 u λB m C D E F=>fd 71 0 C λah=>
 ld 9 ah s λai=>
 eH (MZ y 195 m ai (.bool true) s) λal R=>
 oN [B,m,D,E,F] R)) λv S=>U5 v λG I J L M=>bn .add 3 M (i 1) λaj=>
 oN [G,I,J,L,aj] S) (ql 31)
def L32 (c:CH) (ql:QH) (us:List GV) (H:GH):RS:=U4 us λY aa w x=>jn (bn .lss 3 x w λad=>
 ob (GV.asB ad) λac=>jn (bC ac (oX 2 [] H) (oN [Y,aa,w,x] H)) λX J=>U4 X λz A ab B=>jn (nB 3 (ix 58 A B λae=>
 ld 161 ae J λaf=>
 eH (mQ y 161 J) λb F=>
 eH (lQ y 161 b af F) λag g=>
 fd 161 0 b λM=>
 ld 9 M g λN=>
 K c 134 [N] g λO h=>
 ob (Yn .not O) λa=>
 eH (rG a false h (some (z,h))) λP j=>
 eH (rG a false j (ob (Bd y 161 0 b) λC=>some (C,j))) λQ d=>
 eH (rG a false d (ob (tF y 9 Q d) λD=>some (D,d))) λR e=>
 eH (rG a false e (ob (Tf y 195 false P R e) λE=>some (E,e))) λS k=>
 ob (nZ a (.bool true) S) λT=>
 ob (GV.asB T) λL=>jn (bC L (oN [z,b,A,ab,B] k) (oR [(.bool false)] k)) λm l=>U5 m λf o p q r=>fd 161 0 o λU=>
 ld 9 U l λV=>
 eH (MZ y 195 f V (.bool true) l) λah G=>
 oN [f,p,q,r] G)) λn I=>U4 n λs t u v=>bn .add 3 v (i 1) λW=>
 oN [s,t,u,W] I) (ql 32)
def ad_ (c:CH) (p:QH) (k:List GV) (H:GH):RS:=U4 k λl m n o=>
 bd 207 [(0,l),(1,m),(2,n),(3,o)] λj=>
 eH (mQ y 207 H) λe f=>
 eH (lQ y 207 e j f) λq g=>
 K c 151 [e,(i 0),(.int .i64 (.negSucc 0))] g λa b=>
 ex 0 a λd=>
 ex 1 a λh=>
 oR [d] b
def aea (c:CH) (e:QH) (g:List GV) (H:GH):RS:=U3 g λh i j=>
 ld 3 i H λf=>
 jn (nB 0 (e 39 [h,j,f] H)) λa d=>U1 a λb=>oR [b] d
def L39 (c:CH) (K:QH) (L:List GV) (H:GH):RS:=U3 L λJ s b=>jn (ld 9 s H λz=>
 ln 9 z λA=>
 bn .lss 3 b A λa=>
 eH (rG a true H (some (J,H))) λB d=>
 eH (rG a true d (ob (tF y 9 s d) λt=>some (t,d))) λC f=>
 eH (rG a true f (some (b,f))) λD g=>
 eH (rG a true g (ob (vAt y 9 C D) λu=>some (u,g))) λE h=>
 eH (rG a true h (ob (GV.asF B) λe=>eH (c e.1 (e.2.1++[E]++e.2.2) h) Fc)) λF j=>
 ob (nZ a F (.bool false)) λG=>
 ob (GV.asB G) λx=>jn (bC x (oX 0 [b] j) (oN [J,s,b] j)) λk v=>U3 k λm n o=>jn (nB 1 (bn .add 3 o (i 1) λI=>
 oN [m,n,I] v)) λl w=>U3 l λp q r=>oN [p,q,r] w) (K 39)
def aeb (c:CH) (B:QH) (A:List GV) (H:GH):RS:=U1 A λi=>
 bn .geq 5 i (.int .u8 (.ofNat 97)) λq=>
 eH (rG q true H (some (i,H))) λw t=>
 eH (rG q true t (ob (yN y .leq 5 w (.int .u8 (.ofNat 122))) λv=>some (v,t))) λx u=>
 ob (nZ q x (.bool false)) λh=>
 eH (rG h false u (some (i,u))) λz b=>
 eH (rG h false b (ob (yN y .geq 5 z (.int .u8 (.ofNat 65))) λj=>some (j,b))) λn d=>
 eH (rG h false d (some (n,d))) λa e=>
 eH (rG a true e (some (i,e))) λo f=>
 eH (rG a true f (ob (yN y .leq 5 o (.int .u8 (.ofNat 90))) λk=>some (k,f))) λp g=>
 eH (rG h false g (ob (nZ a p (.bool false)) λl=>some (l,g))) λr m=>
 ob (nZ h (.bool true) r) λs=>
 oR [s] m
def aec (c:CH) (q:QH) (p:List GV) (H:GH):RS:=U1 p λi=>
 K c 126 [i] H λg j=>
 eH (rG g false j (some (i,j))) λm k=>
 eH (rG g false k (eH (c 128 [m] k) Fc)) λn l=>
 ob (nZ g (.bool true) n) λh=>
 eH (rG h false l (some (i,l))) λo a=>
 eH (rG h false a (ob (yN y .eql 5 o (.int .u8 (.ofNat 95))) λb=>some (b,a))) λe d=>
 ob (nZ h (.bool true) e) λf=>
 oR [f] d
def aed (c:CH) (k:QH) (j:List GV) (H:GH):RS:=U1 j λd=>
 bn .geq 5 d (.int .u8 (.ofNat 48)) λa=>
 eH (rG a true H (some (d,H))) λg b=>
 eH (rG a true b (ob (yN y .leq 5 g (.int .u8 (.ofNat 57))) λe=>some (e,b))) λh f=>
 ob (nZ a h (.bool false)) λi=>
 oR [i] f
def aee (c:CH) (m:QH) (q:List GV) (H:GH):RS:=U1 q λr=>
 eH (xQ y 116 9 [(0,(.str 11822 2)),(1,(.str 15917 2)),(2,(.str 15674 2)),(3,(.str 9766 2)),(4,(.str 31868 2)),(5,(.str 15677 2)),(6,(.str 15649 2)),(7,(.str 15676 2)),(8,(.str 15678 2))] H) λh k=>
 ln 116 h λn=>
 jn (nB 0 (m 41 [r,h,n,(i 0)] k)) λg l=>U1 g λj=>ob (vAt y 9 j (i 0)) λo=>
 K c 153 [(.str 172099982263598878148345807877454395 15),o] l λp a=>
 bn .geq 3 p (i 0) λf=>
 ob (GV.asB f) λe=>jn (bC e (oN [] a) (oR [(i 1)] a)) λb d=>U0 b (oR [(i 0)] d)
def L41 (c:CH) (G:QH) (I:List GV) (H:GH):RS:=U4 I λa n b d=>jn (bn .lss 3 d b λB=>
 ob (GV.asB B) λz=>jn (bC z (oX 0 [a] H) (oN [a,n,b,d] H)) λk h=>U4 k λe f o g=>jn (nB 1 (ix 116 f g λC=>
 ld 9 C h λD=>
 K c 152 [e,D] h λE j=>
 ob (GV.asB E) λA=>jn (bC A (oN [e,f,o,g] j) (oR [(i 2)] j)) λl x=>U4 l λp q r s=>oN [p,q,r,s] x)) λm y=>U4 m λt u v w=>bn .add 3 w (i 1) λF=>
 oN [t,u,v,F] y) (G 41)
def aef (c:CH) (n:QH) (l:List GV) (H:GH):RS:=U2 l λe m=>
 K c 132 [e] H λj d=>
 bn .neq 9 j m λk=>
 ob (GV.asB k) λh=>jn (bC h (oN [e] d) (oR [(.bool false)] d)) λb g=>U1 b λf=>K c 135 [f] g λi a=>
 oR [(.bool true)] a
def aeg (c:CH) (E:QH) (D:List GV) (H:GH):RS:=U1 D λv=>
 ob (GV.nilck v) λx=>
 fd 118 1 x λz=>
 ld 112 z H λA=>
 ln 112 A λB=>
 bn .eql 3 B (i 0) λC=>
 ob (GV.asB C) λw=>jn (bC w (oN [v] H) (oR [(.str 0 0)] H)) λu b=>U1 u λa=>ob (GV.nilck a) λd=>
 fd 118 0 d λe=>
 ld 9 e b λf=>
 ob (GV.nilck a) λg=>
 fd 118 1 g λh=>
 ld 112 h b λj=>
 ix 112 j (i 0) λk=>
 fd 145 1 k λl=>
 ld 3 l b λm=>
 ob (GV.nilck a) λn=>
 fd 118 1 n λo=>
 ld 112 o b λp=>
 ix 112 p (i 0) λq=>
 fd 145 2 q λr=>
 ld 3 r b λs=>
 ob (As y 9 f (some m) (some s) b) λt=>
 oR [t] b
def aeh (c:CH) (t:QH) (s:List GV) (H:GH):RS:=U1 s λl=>
 ob (GV.nilck l) λn=>
 fd 118 1 n λo=>
 ld 112 o H λp=>
 ln 112 p λq=>
 bn .eql 3 q (i 0) λr=>
 ob (GV.asB r) λm=>jn (bC m (oN [l] H) (oR [(i 0)] H)) λk b=>U1 k λa=>ob (GV.nilck a) λd=>
 fd 118 1 d λe=>
 ld 112 e b λf=>
 ix 112 f (i 0) λg=>
 fd 145 0 g λh=>
 ld 3 h b λj=>
 oR [j] b
def aei (c:CH) (R:QH) (Q:List GV) (H:GH):RS:=U1 Q λl=>
 eH (mQ y 145 H) λD o=>
 ob (GV.nilck l) λL=>
 fd 118 1 L λM=>
 ld 112 M o λN=>
 ln 112 N λO=>
 bn .eql 3 O (i 0) λP=>
 ob (GV.asB P) λE=>jn (bC E (oN [l,D] o) (K c 105 [l,(i 4)] o λF m=>
 oN [l,D] m)) λj b=>U2 j λa e=>ob (GV.nilck a) λq=>
 fd 118 1 q λr=>
 ld 112 r b λs=>
 ix 112 s (i 0) λt=>
 ld 145 t b λu=>
 eH (mQ y 145 b) λh n=>
 eH (lQ y 145 h u n) λG d=>
 ob (GV.nilck a) λv=>
 fd 118 1 v λw=>
 ld 112 w d λx=>
 ob (As y 112 x (some (i 1)) none d) λz=>
 ob (GV.nilck a) λA=>
 fd 118 1 A λB=>
 eH (lQ y 112 B z d) λI f=>
 ld 145 h f λC=>
 eH (lQ y 145 e C f) λJ g=>
 ob (ob (tF y 145 e g) λp=>some [p]) λk=>oR k g
def aej (c:CH) (r:QH) (q:List GV) (H:GH):RS:=U1 q λj=>
 bn .eql 3 j (i 1) λg=>
 eH (rG g false H (some (j,H))) λn k=>
 eH (rG g false k (ob (yN y .eql 3 n (i 2)) λm=>some (m,k))) λo l=>
 ob (nZ g (.bool true) o) λh=>
 eH (rG h false l (some (j,l))) λp a=>
 eH (rG h false a (ob (yN y .eql 3 p (i 3)) λb=>some (b,a))) λe d=>
 ob (nZ h (.bool true) e) λf=>
 oR [f] d
def aek (c:CH) (L:QH) (Q:List GV) (H:GH):RS:=U2 Q λo R=>
 ln 158 o λM=>
 bn .gtr 3 M (i 200) λd=>
 eH (rG d false H (some (o,H))) λN I=>
 eH (rG d false I (eH (c 159 [N,(i 0)] I) Fc)) λO J=>
 eH (rG d false J (some (o,J))) λP f=>
 eH (rG d false f (ob (Pv y 158 P) λq=>some (q,f))) λx g=>
 eH (rG d false g (ob (yN y .neq 3 O x) λr=>some (r,g))) λz h=>
 ob (nZ d (.bool true) z) λA=>
 ob (GV.asB A) λw=>jn (bC w (oN [o,R] h) (oR [(.bool false)] h)) λm t=>U2 m λb p=>ln 158 b λB=>
 jn (nB 0 (L 43 [b,p,b,B,(i 0)] t)) λn u=>U1 n λe=>K c 161 [e] u λC j=>
 bn .leq 3 C (i 24) λa=>
 eH (rG a true j (some (e,j))) λD k=>
 eH (rG a true k (eH (c 162 [D] k) Fc)) λE l=>
 eH (rG a true l (ob (yN y .leq 3 E (i 2)) λs=>some (s,l))) λF v=>
 ob (nZ a F (.bool false)) λG=>
 oR [G] v
def L43 (c:CH) (S:QH) (U:List GV) (H:GH):RS:=U5 U λa p q b d=>jn (bn .lss 3 d b λL=>
 ob (GV.asB L) λI=>jn (bC I (oX 0 [a] H) (oN [a,p,q,b,d] H)) λm h=>U5 m λr e f s g=>jn (nB 1 (ix 158 f g λM=>
 ld 216 M h λN=>
 eH (mQ y 216 h) λl E=>
 eH (lQ y 216 l N E) λT j=>
 ld 216 l j λO=>
 K c 160 [O,e] j λP k=>
 ob (Yn .not P) λQ=>
 ob (GV.asB Q) λJ=>jn (bC J (oN [r,e,f,s,g] k) (oR [(.bool false)] k)) λn F=>U5 n λt u v w x=>oN [t,u,v,w,x] F)) λo G=>U5 o λz A B C D=>bn .add 3 D (i 1) λR=>
 oN [z,A,B,C,R] G) (S 43)
def ael (c:CH) (ql:QH) (us:List GV) (H:GH):RS:=U3 us λg h E=>
 ob (GV.nilck g) λt4=>
 fd 207 3 t4 λt5=>
 ld 158 t5 H λt6=>
 ix 158 t6 h λt7=>
 ld 216 t7 H λt8=>
 eH (mQ y 216 H) λb U=>
 eH (lQ y 216 b t8 U) λa3 a=>
 jn (nB 0 (fd 216 0 b λam=>
 ld 3 am a λan=>
 bn .leq 3 an (i 17) λao=>
 ob (GV.asB ao) λai=>jn (bC ai (fd 216 0 b λau=>
 ld 3 au a λav=>
 bn .leq 3 av (i 19) λaw=>
 ob (GV.asB aw) λaj=>jn (bC aj (fd 216 0 b λaD=>
 ld 3 aD a λaE=>
 bn .leq 3 aE (i 29) λaF=>
 ob (GV.asB aF) λak=>jn (bC ak (fd 216 0 b λaK=>
 ld 3 aK a λaL=>
 bn .leq 3 aL (i 42) λaM=>
 ob (GV.asB aM) λal=>jn (bC al (oN [g,h,E] a) (bn .add 3 h (i 1) λaN=>
 K c 151 [g,aN,E] a λs Y=>
 ex 0 s λaO=>
 ex 1 s λaP=>
 K c 151 [g,aP,E] Y λt n=>
 ex 0 t λaQ=>
 ex 1 t λaR=>
 fd 216 0 b λaS=>
 ld 3 aS n λaT=>
 K c 168 [aT,aO,aQ] n λaU aa=>
 oR [aU,aR] aa)) λz ab=>U3 z λF G I=>oN [F,G,I] ab) (fd 216 0 b λaG=>
 ld 3 aG a λaH=>
 K c 167 [g,aH,h] a λr X=>
 ex 0 r λaI=>
 ex 1 r λaJ=>
 oR [aI,aJ] X)) λA ac=>U3 A λJ L M=>oN [J,L,M] ac) (bn .add 3 h (i 1) λax=>
 K c 151 [g,ax,E] a λq m=>
 ex 0 q λay=>
 ex 1 q λaz=>
 fd 216 0 b λaA=>
 ld 3 aA m λaB=>
 K c 166 [aB,ay] m λaC W=>
 oR [aC,az] W)) λB ad=>U3 B λN O P=>oN [N,O,P] ad) (ld 216 b a λap=>
 K c 165 [g,ap,E] a λaq V=>
 bn .add 3 h (i 1) λar=>
 oR [aq,ar] V)) λC ae=>U3 C λQ R S=>oN [Q,R,S] ae)) λD af=>U3 D λd T e=>bn .add 3 T (i 1) λaV=>
 K c 151 [d,aV,e] af λu ag=>
 ex 0 u λaW=>
 ex 1 u λaX=>
 K c 151 [d,aX,e] ag λv ah=>
 ex 0 v λaY=>
 ex 1 v λa0=>
 K c 151 [d,a0,e] ah λw o=>
 ex 0 w λa1=>
 ex 1 w λx=>
 bn .neq 3 aW (i 0) λa2=>
 ob (GV.asB a2) λp=>jn (bC p (oN [x,a1] o) (oR [aY,x] o)) λf l=>U2 f λj k=>oR [k,j] l
def aem (c:CH) (g:QH) (d:List GV) (H:GH):RS:=U2 d λe f=>
 K c 169 [e,f] H λb a=>
 oR [b] a
def aen (c:CH) (g:QH) (d:List GV) (H:GH):RS:=U2 d λe f=>
 K c 170 [e,f] H λb a=>
 oR [b] a
def aeo (c:CH) (q:QH) (t:List GV) (H:GH):RS:=U2 t λl m=>
 bn .eql 3 m (i 6) λr=>
 ob (GV.asB r) λp=>jn (bC p (oN [l,m] H) (K c 172 [l] H λs n=>
 oR [s] n)) λj o=>U2 j λk a=>bn .add 3 a (i 1) λg=>
 K c 156 [k,g] o λh e=>
 jn (nB 0 (q 47 [k,a,h] e)) λb f=>U1 b λd=>oR [d] f
def L47 (c:CH) (Y:QH) (us:List GV) (H:GH):RS:=U3 us λf g h=>jn (jn (nB 1 (K c 132 [f] H λO D=>
 K c 173 [O] D λe j=>
 bn .eql 3 e (i 0) λa=>
 eH (rG a false j (some (e,j))) λP k=>
 eH (rG a false k (eH (c 174 [P] k) Fc)) λQ l=>
 eH (rG a false l (some (g,l))) λR m=>
 eH (rG a false m (ob (yN y .neq 3 Q R) λC=>some (C,m))) λS n=>
 ob (nZ a (.bool true) S) λT=>
 ob (GV.asB T) λM=>jn (bC M (oN [f,g,h,e] n) (oR [h] n)) λq E=>U4 q λb d t u=>K c 135 [b] E λaa F=>
 bn .add 3 d (i 1) λU=>
 K c 156 [b,U] F λV G=>
 eH (xQ y 228 2 [(0,t),(1,V)] G) λW I=>
 K c 157 [u,W] I λp o=>
 bn .eql 3 d (i 3) λX=>
 ob (GV.asB X) λN=>jn (bC N (oN [b,d,p] o) (oR [p] o)) λr J=>U3 r λv w x=>oN [v,w,x] J)) λs L=>U3 s λz A B=>oN [z,A,B] L) (Y 47)
def aep (c:CH) (g:QH) (k:List GV) (H:GH):RS:=U2 k λl b=>
 K c 175 [l,(i 0)] H λh e=>
 ln 228 b λj=>
 jn (nB 0 (g 48 [h,b,j,(i 0)] e)) λa f=>U1 a λd=>oR [d] f
def L48 (c:CH) (A:QH) (B:List GV) (H:GH):RS:=U4 B λz j a b=>jn (bn .lss 3 b a λt=>
 ob (GV.asB t) λs=>jn (bC s (oX 0 [z] H) (oN [z,j,a,b] H)) λg f=>U4 g λk d l e=>jn (nB 1 (ix 228 d e λu=>
 ld 158 u f λv=>
 eH (Rp y 158 158 k v f) λw q=>
 oN [w,d,l,e] q)) λh r=>U4 h λm n o p=>bn .add 3 p (i 1) λx=>
 oN [m,n,o,x] r) (A 48)
def aeq (c:CH) (e:QH) (g:List GV) (H:GH):RS:=U2 g λb h=>
 ln 116 b λf=>
 jn (nB 0 (e 49 [b,h,f,(i 0)] H)) λa d=>U0 a (oR [(.int .i64 (.negSucc 0))] d)
def L49 (c:CH) (F:QH) (G:List GV) (H:GH):RS:=U4 G λD E B C=>jn (bn .lss 3 C B λw=>
 ob (GV.asB w) λu=>jn (bC u (oX 0 [] H) (oN [D,E,B,C] H)) λf b=>U4 f λd e j a=>jn (nB 1 (ix 116 d a λx=>
 ld 9 x b λy=>
 bn .eql 9 e y λz=>
 ob (GV.asB z) λv=>jn (bC v (oN [d,e,j,a] b) (oR [a] b)) λg s=>U4 g λk l m n=>oN [k,l,m,n] s)) λh t=>U4 h λo p q r=>bn .add 3 r (i 1) λA=>
 oN [o,p,q,A] t) (F 49)
def aer (c:CH) (u:QH) (z:List GV) (H:GH):RS:=U2 z λs p=>
 bn .lss 3 p (i 0) λd=>
 eH (rG d false H (some (p,H))) λv q=>
 eH (rG d false q (some (s,q))) λw r=>
 eH (rG d false r (ob (Pv y 158 w) λt=>some (t,r))) λx a=>
 eH (rG d false a (ob (yN y .geq 3 v x) λj=>some (j,a))) λn b=>
 ob (nZ d (.bool true) n) λo=>
 ob (GV.asB o) λm=>jn (bC m (oN [s,p] b) (oR [(.int .i64 (.negSucc 0))] b)) λe k=>U2 e λg h=>jn (nB 0 (u 50 [g,h,(i 1)] k)) λf l=>U0 f (oR [(.int .i64 (.negSucc 0))] l)
def L50 (c:CH) (S:QH) (T:List GV) (H:GH):RS:=U3 T λa b q=>jn (ln 158 a λG=>
 bn .lss 3 b G λI=>
 ob (GV.asB I) λD=>jn (bC D (oX 0 [] H) (oN [a,b,q] H)) λm g=>U3 m λd e r=>jn (nB 1 (ix 158 d e λJ=>
 fd 216 0 J λL=>
 ld 3 L g λM=>
 K c 176 [M] g λk h=>
 bn .lss 3 k (i 0) λN=>
 ob (GV.asB N) λE=>jn (bC E (oN [d,e,r,k] h) (oR [(.int .i64 (.negSucc 0))] h)) λn j=>U4 n λs f t u=>bn .sub 3 u (i 1) λO=>
 bn .add 3 t O λl=>
 bn .eql 3 l (i 0) λP=>
 ob (GV.asB P) λF=>jn (bC F (oN [s,f,l] j) (bn .add 3 f (i 1) λQ=>
 oR [Q] j)) λo B=>U3 o λv w x=>oN [v,w,x] B)) λp C=>U3 p λy z A=>bn .add 3 z (i 1) λR=>
 oN [y,R,A] C) (S 50)
def aes (c:CH) (ql:QH) (us:List GV) (H:GH):RS:=U2 us λx1 x2=>
 eH (MY x1 H) λo h=>
 fd 216 0 o λt5=>
 ld 3 t5 h λt6=>
 jn (nB 0 (bn .eql 3 t6 (i 1) λt7=>
 ob (GV.asB t7) λq8=>jn (bC q8 (bn .eql 3 t6 (i 5) λn=>
 ob (GV.asB n) λK=>jn (bC K (bn .eql 3 t6 (i 12) λR=>
 oN [x2,o,R] h) (oN [x2,o,n] h)) λp b=>U3 p λt e u=>ob (GV.asB u) λL=>jn (bC L (oN [e] b) (fd 216 1 e λS=>
 ld 3 S b λT=>
 bn .geq 3 T (i 0) λa=>
 eH (rG a true b (ob (Bd y 216 1 e) λC=>some (C,b))) λU g=>
 eH (rG a true g (ob (tF y 3 U g) λD=>some (D,g))) λV k=>
 eH (rG a true k (some (t,k))) λW l=>
 eH (rG a true l (ob (yN y .lss 3 V W) λE=>some (E,l))) λX G=>
 ob (nZ a X (.bool false)) λY=>
 oR [Y] G)) λq I=>U1 q λv=>oN [v] I) (fd 216 1 o λt9=>
 ld 3 t9 h λM=>
 bn .geq 3 M (i 0) λd=>
 eH (rG d true h (ob (Bd y 216 1 o) λz=>some (z,h))) λN f=>
 eH (rG d true f (ob (tF y 3 N f) λA=>some (A,f))) λO j=>
 eH (rG d true j (ob (yN y .leq 3 O (i 1073741824)) λB=>some (B,j))) λP F=>
 ob (nZ d P (.bool false)) λQ=>
 oR [Q] F)) λr J=>U1 r λw=>oN [w] J)) λs m=>U1 s λx=>fd 216 1 x λaa=>
 ld 3 aa m λab=>
 bn .eql 3 ab (i 0) λac=>
 oR [ac] m
def aet (c:CH) (g:QH) (e:List GV) (H:GH):RS:=U1 e λf=>
 K c 177 [f,(.fn 178 [] [])] H λa b=>
 ex 0 a λd=>
 ex 1 a λh=>
 oR [d] b
def aeu (c:CH) (g:QH) (e:List GV) (H:GH):RS:=U1 e λf=>
 K c 177 [f,(.fn 179 [] [])] H λa b=>
 ex 0 a λd=>
 ex 1 a λh=>
 oR [d] b
def aev (c:CH) (ql:QH) (us:List GV) (H:GH):RS:=U3 us λx1 x2 x3=>
 eH (MY x1 H) λt4 L=>
 fd 220 0 t4 λt6=>
 ld 158 t6 L λt7=>
 ix 158 t7 x2 λt8=>
 ld 216 t8 L λt9=>
 eH (mQ y 216 L) λa I=>
 eH (lQ y 216 a t9 I) λaq l=>
 bn .add 3 x2 (i 1) λj=>
 fd 216 0 a λR=>
 ld 3 R l λS=>
 K c 176 [S] l λT e=>
 bn .eql 3 T (i 0) λU=>
 ob (GV.asB U) λP=>jn (bC P (oN [x3,t4,j,a] e) (fd 216 0 a λV=>
 ld 3 V e λW=>
 K c 181 [W] e λk m=>
 eH (rG k true m (some (x3,m))) λX n=>
 eH (rG k true n (ob (Yn .not X) λE=>some (E,n))) λY o=>
 ob (nZ k Y (.bool false)) λaa=>
 ob (GV.asB aa) λQ=>jn (bC Q (oN [t4,j,a] o) (oR [(i 0),j] o)) λs f=>U3 s λv w x=>ld 220 v f λab=>
 ld 216 x f λac=>
 K c 182 [ab,ac] f λad J=>
 oR [ad,w] J)) λt p=>U4 t λb z A d=>eH (rG b false p (ob (Bd y 216 0 d) λF=>some (F,p))) λae g=>
 eH (rG b false g (ob (tF y 3 ae g) λG=>some (G,g))) λaf q=>
 eH (rG b false q (eH (c 180 [af] q) Fc)) λag M=>
 ob (nZ b (.bool true) ag) λah=>
 eH (mQ y 232 M) λai r=>
 fd 216 0 d λaj=>
 ld 3 aj r λak=>
 K c 176 [ak] r λal N=>
 jn (nB 0 (ql 51 [z,A,d,ah,ai,al,(i 0)] N)) λu h=>U3 u λB C D=>fd 216 0 C λam=>
 ld 3 am h λan=>
 ld 232 D h λao=>
 K c 183 [an,ao] h λap O=>
 oR [ap,B] O
def L51 (c:CH) (O:QH) (Q:List GV) (H:GH):RS:=U7 Q λx j k z l m n=>jn (bn .lss 3 n m λI=>
 ob (GV.asB I) λG=>jn (bC G (oX 0 [j,k,l] H) (oN [x,j,k,z,l,m,n] H)) λv s=>U7 v λo A B p q C r=>jn (nB 1 (ld 220 o s λJ=>
 K c 163 [J,A,p] s λu D=>
 ex 0 u λL=>
 ex 1 u λM=>
 ix 232 q r λN=>
 eH (lQ y 3 N L D) λP E=>
 oN [o,M,B,p,q,C,r] E)) λw F=>U7 w λa b d e f g h=>bn .add 3 h (i 1) λt=>
 oN [a,b,d,e,f,g,t] F) (O 51)
def aew (c:CH) (ql:QH) (us:List GV) (H:GH):RS:=U3 us λe x2 x3=>
 eH (MY x2 H) λk a=>
 fd 216 0 k λt6=>
 ld 3 t6 a λd=>
 jn (nB 0 (bn .eql 3 d (i 1) λt8=>
 ob (GV.asB t8) λq9=>jn (bC q9 (bn .eql 3 d (i 2) λac=>
 ob (GV.asB ac) λU=>jn (bC U (bn .eql 3 d (i 3) λad=>
 ob (GV.asB ad) λV=>jn (bC V (bn .eql 3 d (i 4) λae=>
 ob (GV.asB ae) λW=>jn (bC W (bn .eql 3 d (i 5) λaf=>
 ob (GV.asB af) λX=>jn (bC X (bn .eql 3 d (i 12) λau=>
 ob (GV.asB au) λY=>jn (bC Y (oN [e,x3,k] a) (ob (GV.nilck e) λav=>
 fd 207 1 av λaw=>
 ld 37 aw a λax=>
 ob (GV.nilck e) λay=>
 fd 207 0 ay λaz=>
 ld 103 az a λaA=>
 ob (GV.nilck aA) λaB=>
 fd 137 1 aB λaC=>
 fd 29 1 aC λaD=>
 ld 27 aD a λaE=>
 ob (GV.nilck e) λaF=>
 fd 207 2 aF λaG=>
 ld 3 aG a λaH=>
 ix 27 aE aH λaI=>
 ld 72 aI a λaJ=>
 ix 72 aJ x3 λaK=>
 fd 92 0 aK λaL=>
 ld 3 aL a λaM=>
 ix 37 ax aM λaN=>
 ld 22 aN a λaO=>
 fd 216 1 k λaP=>
 ld 3 aP a λaQ=>
 ix 22 aO aQ λaR=>
 ld 3 aR a λaS=>
 oR [aS] a)) λl O=>U3 l λs t u=>oN [s,t,u] O) (ob (GV.nilck e) λag=>
 fd 207 1 ag λah=>
 ld 37 ah a λai=>
 ob (GV.nilck e) λaj=>
 fd 207 2 aj λak=>
 ld 3 ak a λal=>
 ix 37 ai al λam=>
 ld 22 am a λan=>
 fd 216 1 k λao=>
 ld 3 ao a λap=>
 ix 22 an ap λaq=>
 ld 3 aq a λar=>
 oR [ar] a)) λm P=>U3 m λv w x=>oN [v,w,x] P) (oR [(.int .i64 (.negSucc 0))] a)) λn Q=>U3 n λy z A=>oN [y,z,A] Q) (oR [(i 0)] a)) λo R=>U3 o λB C D=>oN [B,C,D] R) (oR [(i 1)] a)) λp S=>U3 p λE F G=>oN [E,F,G] S) (fd 216 1 k λaa=>
 ld 3 aa a λab=>
 oR [ab] a)) λq T=>U3 q λI J L=>oN [I,J,L] T)) λr b=>U3 r λf M N=>ob (GV.nilck f) λaT=>
 fd 207 0 aT λaU=>
 ld 103 aU b λaV=>
 fd 216 0 N λaW=>
 ld 3 aW b λaX=>
 ob (GV.nilck f) λaY=>
 fd 207 2 aY λa0=>
 ld 3 a0 b λh=>
 K c 184 [aV,aX,h,M] b λj g=>
 oR [j] g
def aex (c:CH) (O:QH) (U:List GV) (H:GH):RS:=U3 U λN V W=>
 eH (mQ y 235 H) λP g=>
 ob (GV.nilck N) λQ=>
 fd 207 0 Q λR=>
 ld 103 R g λS=>
 ob (GV.nilck S) λT=>
 fd 137 1 T λv=>
 fd 29 1 v λw=>
 ld 27 w g λx=>
 ob (GV.nilck N) λz=>
 fd 207 2 z λA=>
 ld 3 A g λB=>
 ix 27 x B λC=>
 ld 72 C g λD=>
 ln 72 D λh=>
 jn (nB 0 (O 52 [N,V,W,(i 0),P,h,h,(i 0)] g)) λj b=>U6 j λl d m n e a=>bn .eql 3 a (i 0) λE=>
 ob (GV.asB E) λu=>jn (bC u (oN [d,n,e,a] b) (ob (GV.nilck l) λF=>
 fd 207 3 F λG=>
 ld 158 G b λI=>
 K c 159 [I,m] b λJ s=>
 oN [d,J,e,a] s)) λk f=>U4 k λo p q r=>ob (As y 235 q none (some r) f) λL=>
 K c 186 [o,L] f λM t=>
 oR [M,p] t
def L52 (c:CH) (Q:QH) (S:List GV) (H:GH):RS:=U8 S λb d e q f g h j=>jn (bn .lss 3 j h λJ=>
 ob (GV.asB J) λI=>jn (bC I (oX 0 [b,d,e,q,f,g] H) (oN [b,d,e,f,g,h,j] H)) λo D=>U7 o λk r l m s t a=>jn (nB 1 (bn .add 3 l (i 1) λL=>
 K c 151 [k,L,a] D λn E=>
 ex 0 n λM=>
 ex 1 n λN=>
 ix 235 m a λO=>
 eH (lQ y 3 O M E) λR F=>
 oN [k,r,l,N,m,s,t,a] F)) λp G=>U8 p λu v w x z A B C=>bn .add 3 C (i 1) λP=>
 oN [u,v,w,x,z,A,B,P] G) (Q 52)
def aey (c:CH) (ql:QH) (us:List GV) (H:GH):RS:=U3 us λb d a=>
 jn (nB 0 (bn .eql 3 b (i 30) λt4=>
 ob (GV.asB t4) λq5=>jn (bC q5 (bn .eql 3 b (i 31) λt9=>
 ob (GV.asB t9) λax=>jn (bC ax (bn .eql 3 b (i 32) λaG=>
 ob (GV.asB aG) λay=>jn (bC ay (bn .eql 3 b (i 33) λaM=>
 ob (GV.asB aM) λaA=>jn (bC aA (bn .eql 3 b (i 34) λaP=>
 ob (GV.asB aP) λaB=>jn (bC aB (bn .eql 3 b (i 41) λaS=>
 ob (GV.asB aS) λaC=>jn (bC aC (bn .eql 3 b (i 42) λaX=>
 ob (GV.asB aX) λaD=>jn (bC aD (oN [b,d,a] H) (bn .neq 3 d (i 0) λf=>
 eH (rG f false H (some (a,H))) λaY n=>
 eH (rG f false n (ob (yN y .neq 3 aY (i 0)) λab=>some (ab,n))) λa0 al=>
 ob (nZ f (.bool true) a0) λa1=>
 K c 185 [a1] al λa2 am=>
 oR [a2] am)) λr an=>U3 r λA B C=>oN [A,B,C] an) (bn .neq 3 d (i 0) λe=>
 eH (rG e true H (some (a,H))) λaT m=>
 eH (rG e true m (ob (yN y .neq 3 aT (i 0)) λaa=>some (aa,m))) λaU aj=>
 ob (nZ e aU (.bool false)) λaV=>
 K c 185 [aV] aj λaW ak=>
 oR [aW] ak)) λs ao=>U3 s λD E F=>oN [D,E,F] ao) (bn .sub 3 d a λaQ=>
 K c 187 [aQ] H λaR ai=>
 oR [aR] ai)) λt ap=>U3 t λG I J=>oN [G,I,J] ap) (bn .add 3 d a λaN=>
 K c 187 [aN] H λaO ah=>
 oR [aO] ah)) λu aq=>U3 u λL M N=>oN [L,M,N] aq) (bn .eql 3 a (i 0) λaH=>
 ob (GV.asB aH) λaz=>jn (bC az (oN [d,a] H) (oR [(i 0)] H)) λq ae=>U2 q λh j=>K c 188 [h,j] ae λaI af=>
 bn .mul 3 j aI λaJ=>
 bn .sub 3 h aJ λaK=>
 K c 187 [aK] af λaL ag=>
 oR [aL] ag)) λv ar=>U3 v λO P Q=>oN [O,P,Q] ar) (K c 188 [d,a] H λaE ac=>
 K c 187 [aE] ac λaF ad=>
 oR [aF] ad)) λw au=>U3 w λR S T=>oN [R,S,T] au) (bn .mul 3 d a λt6=>
 K c 187 [t6] H λt7 h8=>
 oR [t7] h8)) λx av=>U3 x λU V W=>oN [U,V,W] av)) λz aw=>U3 z λX Y g=>K c 189 [X,Y,g] aw λo k=>
 K c 185 [o] k λp l=>
 oR [p] l
def aez (c:CH) (x:QH) (w:List GV) (H:GH):RS:=U2 w λr o=>
 ln 9 r λs=>
 ln 9 o λt=>
 bn .geq 3 s t λb=>
 eH (rG b true H (some (r,H))) λu p=>
 eH (rG b true p (some (o,p))) λv q=>
 eH (rG b true q (ob (Pv y 9 v) λf=>some (f,q))) λj a=>
 eH (rG b true a (ob (As y 9 u none (some j) a) λg=>some (g,a))) λk d=>
 eH (rG b true d (some (o,d))) λl e=>
 eH (rG b true e (ob (yN y .eql 9 k l) λh=>some (h,e))) λm i=>
 ob (nZ b m (.bool false)) λn=>
 oR [n] i
def aeA (c:CH) (g:QH) (d:List GV) (H:GH):RS:=U2 d λe f=>
 K c 190 [e,f] H λb a=>
 oR [b] a
def aeB (c:CH) (h:QH) (f:List GV) (H:GH):RS:=U1 f λg=>
 K c 193 [] H λd a=>
 K c 192 [g,(i 30),d] a λe b=>
 oR [e] b
def aeC (c:CH) (h:QH) (e:List GV) (H:GH):RS:=U2 e λf g=>
 bd 216 [(0,f),(1,g)] λb=>
 eH (xQ y 158 1 [(0,b)] H) λd a=>
 oR [d] a
def aeD (c:CH) (D:QH) (C:List GV) (H:GH):RS:=U1 C λh=>
 jn (nB 0 (bn .lss 3 h (i 1) λu=>
 eH (rG u false H (some (h,H))) λz v=>
 eH (rG u false v (ob (yN y .gtr 3 z (i 43)) λw=>some (w,v))) λA a=>
 ob (nZ u (.bool true) A) λB=>
 ob (GV.asB B) λx=>jn (bC x (bn .leq 3 h (i 17) λr=>
 ob (GV.asB r) λo=>jn (bC o (bn .leq 3 h (i 29) λs=>
 ob (GV.asB s) λp=>jn (bC p (bn .leq 3 h (i 42) λt=>
 ob (GV.asB t) λq=>jn (bC q (oN [] a) (oR [(i 2)] a)) λb j=>U0 b (oN [] j)) (oR [(i 1)] a)) λd k=>U0 d (oN [] k)) (oR [(i 0)] a)) λe l=>U0 e (oN [] l)) (oR [(.int .i64 (.negSucc 0))] a)) λf m=>U0 f (oN [] m))) λg n=>U0 g (oR [(i 3)] n)
def aeE (c:CH) (q:QH) (u:List GV) (H:GH):RS:=U2 u λm v=>
 K c 159 [m,(i 0)] H λr n=>
 ln 158 m λs=>
 bn .neq 3 r s λt=>
 ob (GV.asB t) λp=>jn (bC p (oN [m,v] n) (oR [(i 0),(.bool false)] n)) λl o=>U2 l λa e=>ln 158 a λg=>
 bn .sub 3 g (i 1) λh=>
 jn (nB 0 (q 53 [a,e,.snil,h] o)) λd b=>U1 d λf=>ix 22 f (i 0) λj=>
 ld 3 j b λk=>
 oR [k,(.bool true)] b
def L53 (c:CH) (ql:QH) (us:List GV) (H:GH):RS:=U4 us λt u e f=>jn (bn .geq 3 f (i 0) λL=>
 ob (GV.asB L) λJ=>jn (bC J (oX 0 [e] H) (oN [t,u,e,f] H)) λq m=>U4 q λg v a h=>jn (nB 1 (ln 22 a λM=>
 ix 158 g h λN=>
 fd 216 0 N λO=>
 ld 3 O m λP=>
 K c 176 [P] m λQ n=>
 bn .sub 3 M Q λo=>
 ob (As y 22 a (some o) none n) λp=>
 ln 22 p λR=>
 jn (nB 2 (ql 54 [g,v,a,h,o,(i 0),p,R,(i 0)] n)) λr b=>U6 r λj k w l x z=>ob (As y 22 w none (some x) b) λS=>
 ix 158 j l λT=>
 fd 216 0 T λU=>
 ld 3 U b λV=>
 ob (GV.asF k) λd=>eH (c d.1 (d.2.1++[V,z]++d.2.2) b) λW E=>
 eH (xQ y 22 1 [(0,W)] E) λX F=>
 eH (Rp y 22 22 S X F) λY G=>
 oN [j,k,Y,l] G)) λs I=>U4 s λA B C D=>bn .sub 3 D (i 1) λaa=>
 oN [A,B,C,aa] I) (ql 53)
def L54 (c:CH) (O:QH) (P:List GV) (H:GH):RS:=U9 P λd e f g h j s k l=>jn (bn .lss 3 l k λK=>
 ob (GV.asB K) λJ=>jn (bC J (oX 2 [d,e,f,g,h,j] H) (oN [d,e,f,g,h,j,s,k,l] H)) λq o=>U9 q λt u v w x y m z n=>jn (nB 3 (ix 22 m n λL=>
 ld 3 L o λM=>
 ob (Yl y M) λN=>
 oN [t,u,v,w,x,N,m,z,n] o)) λr I=>U9 r λA B C D E F G a b=>bn .add 3 b (i 1) λp=>
 oN [A,B,C,D,E,F,G,a,p] I) (O 54)
def aeF (c:CH) (e:QH) (b:List GV) (H:GH):RS:=U2 b λf d=>
 bn .add 3 d (i 1) λa=>
 oR [a] H
def aeG (c:CH) (m:QH) (k:List GV) (H:GH):RS:=U2 k λl d=>
 K c 180 [l] H λh b=>
 ob (GV.asB h) λg=>jn (bC g (oN [d] b) (bn .add 3 d (i 1) λj=>
 oR [j] b)) λa f=>U1 a λe=>oR [e] f
def aeH (c:CH) (l:QH) (k:List GV) (H:GH):RS:=U1 k λd=>
 bn .geq 3 d (i 20) λa=>
 eH (rG a true H (some (d,H))) λg b=>
 eH (rG a true b (ob (yN y .leq 3 g (i 29)) λe=>some (e,b))) λh f=>
 ob (nZ a h (.bool false)) λj=>
 oR [j] f
def aeI (c:CH) (g:QH) (e:List GV) (H:GH):RS:=U1 e λf=>
 ob (GV.asB f) λd=>jn (bC d (oN [] H) (oR [(i 1)] H)) λa b=>U0 a (oR [(i 0)] b)
def aeJ (c:CH) (ql:QH) (us:List GV) (H:GH):RS:=U2 us λb a=>
 jn (nB 0 (bn .eql 3 b (i 20) λt3=>
 ob (GV.asB t3) λq4=>jn (bC q4 (bn .eql 3 b (i 21) λao=>
 ob (GV.asB ao) λaf=>jn (bC af (bn .eql 3 b (i 22) λau=>
 ob (GV.asB au) λag=>jn (bC ag (bn .eql 3 b (i 23) λaw=>
 ob (GV.asB aw) λah=>jn (bC ah (bn .eql 3 b (i 24) λay=>
 ob (GV.asB ay) λai=>jn (bC ai (bn .eql 3 b (i 25) λaA=>
 ob (GV.asB aA) λaj=>jn (bC aj (bn .eql 3 b (i 26) λaC=>
 ob (GV.asB aC) λak=>jn (bC ak (bn .eql 3 b (i 27) λaF=>
 ob (GV.asB aF) λal=>jn (bC al (bn .eql 3 b (i 28) λaH=>
 ob (GV.asB aH) λam=>jn (bC am (oN [a] H) (K c 198 [a] H λh U=>
 ex 0 h λaO=>
 ex 1 h λaI=>
 oR [aI] U)) λl V=>U1 l λy=>oN [y] V) (K c 199 [a] H λaG T=>
 oR [aG] T)) λm W=>U1 m λz=>oN [z] W) (ln 22 a λaD=>
 jn (nB 3 (ql 56 [(i 0),a,aD,(i 0)] H)) λk R=>U1 k λx=>K c 187 [x] R λaE S=>
 oR [aE] S)) λn X=>U1 n λA=>oN [A] X) (K c 198 [a] H λg Q=>
 ex 0 g λaB=>
 ex 1 g λaN=>
 oR [aB] Q)) λo Y=>U1 o λB=>oN [B] Y) (ln 22 a λaz=>
 jn (nB 1 (ql 55 [(i 1073741824),a,az,(i 0)] H)) λj P=>U1 j λw=>oR [w] P)) λp aa=>U1 p λC=>oN [C] aa) (K c 196 [a,(.fn 197 [] [])] H λax O=>
 oR [ax] O)) λq ab=>U1 q λD=>oN [D] ab) (K c 195 [a] H λav N=>
 oR [av] N)) λr ac=>U1 r λE=>oN [E] ac) (K c 195 [a] H λap L=>
 bn .gtr 3 ap (i 0) λaq=>
 K c 185 [aq] L λar M=>
 oR [ar] M)) λs ad=>U1 s λF=>oN [F] ad) (K c 195 [a] H λt5 h6=>
 ln 22 a λt7=>
 bn .eql 3 t5 t7 λt8=>
 K c 185 [t8] h6 λt9 J=>
 oR [t9] J)) λt ae=>U1 t λG=>oN [G] ae)) λu e=>U1 u λd=>ln 22 d λaJ=>
 bn .eql 3 aJ (i 0) λaK=>
 ob (GV.asB aK) λan=>jn (bC an (oN [d] e) (oR [(i 0)] e)) λv f=>U1 v λI=>ix 22 I (i 0) λaL=>
 ld 3 aL f λaM=>
 oR [aM] f
def L55 (c:CH) (y:QH) (z:List GV) (H:GH):RS:=U4 z λn v o p=>jn (bn .lss 3 p o λx=>
 ob (GV.asB x) λw=>jn (bC w (oX 1 [n] H) (oN [n,v,o,p] H)) λe d=>U4 e λg a h b=>jn (nB 2 (ix 22 a b λr=>
 ld 3 r d λs=>
 ob (Ym g s) λt=>
 oN [t,a,h,b] d)) λf q=>U4 f λj k l m=>bn .add 3 m (i 1) λu=>
 oN [j,k,l,u] q) (y 55)
def L56 (c:CH) (y:QH) (z:List GV) (H:GH):RS:=U4 z λa k b d=>jn (bn .lss 3 d b λt=>
 ob (GV.asB t) λs=>jn (bC s (oX 3 [a] H) (oN [a,k,b,d] H)) λh g=>U4 h λl e m f=>jn (nB 4 (ix 22 e f λu=>
 ld 3 u g λv=>
 bn .add 3 l v λw=>
 oN [w,e,m,f] g)) λj r=>U4 j λn o p q=>bn .add 3 q (i 1) λx=>
 oN [n,o,p,x] r) (y 56)
def aeK (c:CH) (m:QH) (o:List GV) (H:GH):RS:=U3 o λg p q=>
 bn .eql 9 g (.str 0 0) λn=>
 ob (GV.asB n) λl=>jn (bC l (oN [g,p,q] H) (oR [(i 0)] H)) λf k=>U3 f λh j a=>ln 116 a λe=>
 jn (nB 0 (m 57 [h,j,a,e,(i 0)] k)) λb d=>U0 b (oR [(i 0)] d)
def L57 (c:CH) (L:QH) (M:List GV) (H:GH):RS:=U5 M λm n o d e=>jn (bn .lss 3 e d λE=>
 ob (GV.asB E) λC=>jn (bC C (oX 0 [] H) (oN [m,n,o,d,e] H)) λj b=>U5 j λf g h p a=>jn (nB 1 (ix 116 h a λF=>
 ld 9 F b λG=>
 bn .eql 9 G f λI=>
 ob (GV.asB I) λD=>jn (bC D (oN [f,g,h,p,a] b) (bn .add 3 g a λJ=>
 oR [J] b)) λk A=>U5 k λq r s t u=>oN [q,r,s,t,u] A)) λl B=>U5 l λv w x y z=>bn .add 3 z (i 1) λK=>
 oN [v,w,x,y,K] B) (L 57)
def d0:(Code×Cx)×fQ:=gD (cF Tryz.f17 [1,1,1,0,1,0,0],iO Tryz.f17 [(0,32)]) 0
def d1:(Code×Cx)×fQ:=gD (cF Tryz.f38 [1,1,0,1,0,0],iO Tryz.f38 [(0,0)]) 1
def d2:(Code×Cx)×fQ:=gD (cF Tryz.f53 [1,1,0,1,0,0],iO Tryz.f53 [(0,8)]) 2
def d3:(Code×Cx)×fQ:=gD1 (cF Tryz.f56 [1,1,0,1,0,0],iO Tryz.f56 [(0,0)]) 1 3 4
def d4:(Code×Cx)×fQ:=gD (cF Tryz.f56 [1,1,0,1,0,0,1,1,0,0,1,1,1,0,0],iO Tryz.f56 [(2,3670028),(1,3670028),(0,0)]) 4
def d5:(Code×Cx)×fQ:=gD (cF Tryz.f61 [1,1,0,1,0,0],iO Tryz.f61 [(0,0)]) 5
def d6:(Code×Cx)×fQ:=((cF Tryz.f63 [1,1,0,1,0,0],iO Tryz.f63 [(0,38)]),L6)
def d7:(Code×Cx)×fQ:=((cF Tryz.f63 [1,1,1,1,1,0,0,0],iO Tryz.f63 [(2,32)]),L7)
def d8:(Code×Cx)×fQ:=((cF Tryz.f63 [1,1,1,1,1,0,0,0,1,0,1,1,1,0,0],iO Tryz.f63 [(4,164),(3,164),(2,32)]),L8)
def d9:(Code×Cx)×fQ:=gD1 (cF Tryz.f66 [1,1,0,1,0,0],iO Tryz.f66 [(0,32)]) 1 9 10
def d10:(Code×Cx)×fQ:=gD (cF Tryz.f66 [1,1,0,1,0,0,1,1,0,0,1,1,1,0,0],iO Tryz.f66 [(2,3670056),(1,3670056),(0,32)]) 10
def d11:(Code×Cx)×fQ:=gD1 (cF Tryz.f67 [1,1,0,1,0,0],iO Tryz.f67 [(0,32)]) 1 11 12
def d12:(Code×Cx)×fQ:=gD (cF Tryz.f67 [1,1,0,1,0,0,1,1,0,0,1,1,1,0,0],iO Tryz.f67 [(2,49196),(1,49196),(0,32)]) 12
def d13:(Code×Cx)×fQ:=gD (cF Tryz.f68 [1,1,0,1,0,0],iO Tryz.f68 [(0,32)]) 13
def d14:(Code×Cx)×fQ:=((cF Tryz.f70 [1,0,1,0,0],iO Tryz.f70 [(0,0)]),L14)
def d15:(Code×Cx)×fQ:=((cF Tryz.f71 [1,1,1,0,1,0,0],iO Tryz.f71 [(0,32)]),L15)
def d16:(Code×Cx)×fQ:=((cF Tryz.f74 [1,1,1,0,1,0,0],iO Tryz.f74 [(0,2)]),L16)
def d17:(Code×Cx)×fQ:=((cF Tryz.f74 [1,1,1,1,0,1,0,0],iO Tryz.f74 [(2,2)]),L17)
def d18:(Code×Cx)×fQ:=((cF Tryz.f74 [1,1,1,1,1,1,0,1,0,0],iO Tryz.f74 [(4,0)]),L18)
def d19:(Code×Cx)×fQ:=gD1 (cF Tryz.f79 [1,1,0,1,0,0],iO Tryz.f79 [(0,8)]) 1 19 20
def d20:(Code×Cx)×fQ:=gD (cF Tryz.f79 [1,1,0,1,0,0,1,1,0,0,1,1,0,0],iO Tryz.f79 [(2,57352),(1,57352),(0,8)]) 20
def d21:(Code×Cx)×fQ:=gD (cF Tryz.f81 [1,1,1,1,1,1,1,0,1,0,0],iO Tryz.f81 [(0,5378)]) 21
def d22:(Code×Cx)×fQ:=gD (cF Tryz.f90 [1,1,1,0,1,0,0],iO Tryz.f90 [(0,0)]) 22
def d23:(Code×Cx)×fQ:=gD (cF Tryz.f91 [1,1,0,1,0,0],iO Tryz.f91 [(0,0)]) 23
def d24:(Code×Cx)×fQ:=gD (cF Tryz.f92 [1,0,1,0,0],iO Tryz.f92 [(0,0)]) 24
def d25:(Code×Cx)×fQ:=gD (cF Tryz.f93 [1,1,0,1,0,0],iO Tryz.f93 [(0,0)]) 25
def d26:(Code×Cx)×fQ:=((cF Tryz.f95 [1,0,0,0],iO Tryz.f95 [(0,2)]),L26)
def d27:(Code×Cx)×fQ:=((cF Tryz.f95 [1,0,0,0,1,0,1,0,1,1,1,0,0,0],iO Tryz.f95 [(3,3),(2,3),(1,3),(0,2)]),L27)
def d28:(Code×Cx)×fQ:=gD (cF Tryz.f100 [1,1,1,0,1,0,0],iO Tryz.f100 [(0,33)]) 28
def d29:(Code×Cx)×fQ:=gD (cF Tryz.f101 [1,0,0],iO Tryz.f101 [(0,0)]) 29
def d30:(Code×Cx)×fQ:=gD (cF Tryz.f103 [1,1,1,1,1,0,0,0],iO Tryz.f103 [(0,5)]) 30
def d31:(Code×Cx)×fQ:=((cF Tryz.f106 [1,1,1,0,1,0,0],iO Tryz.f106 [(0,2)]),L31)
def d32:(Code×Cx)×fQ:=((cF Tryz.f106 [1,1,1,1,1,0,1,0,0],iO Tryz.f106 [(2,0)]),L32)
def d33:(Code×Cx)×fQ:=gD (cF Tryz.f108 [1,1,1,0,1,0,0],iO Tryz.f108 [(0,0)]) 33
def d34:(Code×Cx)×fQ:=gD (cF Tryz.f109 [1,1,0,1,0,0],iO Tryz.f109 [(0,8)]) 34
def d35:(Code×Cx)×fQ:=gD (cF Tryz.f110 [1,1,0,1,0,0],iO Tryz.f110 [(0,0)]) 35
def d36:(Code×Cx)×fQ:=gD (cF Tryz.f113 [1,1,0,1,0,0],iO Tryz.f113 [(0,128)]) 36
def d37:(Code×Cx)×fQ:=gD (cF Tryz.f119 [1,1,0,1,0,0],iO Tryz.f119 [(0,0)]) 37
def d38:(Code×Cx)×fQ:=gD (cF Tryz.f121 [1,1,1,0,1,0,0],iO Tryz.f121 [(0,8)]) 38
def d39:(Code×Cx)×fQ:=((cF Tryz.f125 [1,1,0,0,0],iO Tryz.f125 [(0,32)]),L39)
def d40:(Code×Cx)×fQ:=gD (cF Tryz.f129 [1,1,1,0,1,0,0],iO Tryz.f129 [(0,16)]) 40
def d41:(Code×Cx)×fQ:=((cF Tryz.f130 [1,0,1,0,0],iO Tryz.f130 [(0,1)]),L41)
def d42:(Code×Cx)×fQ:=gD (cF Tryz.f134 [1,1,0,1,0,0],iO Tryz.f134 [(0,1)]) 42
def d43:(Code×Cx)×fQ:=((cF Tryz.f142 [1,1,0,1,0,0],iO Tryz.f142 [(0,1)]),L43)
def d44:(Code×Cx)×fQ:=gD (cF Tryz.f143 [1,1,0,1,0,0],iO Tryz.f143 [(0,7)]) 44
def d45:(Code×Cx)×fQ:=gD (cF Tryz.f145 [1,1,0,1,0,0],iO Tryz.f145 [(0,512)]) 45
def d46:(Code×Cx)×fQ:=gD (cF Tryz.f147 [1,0,1,0,0],iO Tryz.f147 [(0,0)]) 46
def d47:(Code×Cx)×fQ:=((cF Tryz.f156 [1,1,1,0,0],iO Tryz.f156 [(0,16)]),L47)
def d48:(Code×Cx)×fQ:=((cF Tryz.f157 [1,1,0,1,0,0],iO Tryz.f157 [(0,32)]),L48)
def d49:(Code×Cx)×fQ:=((cF Tryz.f158 [1,0,1,0,0],iO Tryz.f158 [(0,0)]),L49)
def d50:(Code×Cx)×fQ:=((cF Tryz.f159 [1,1,0,1,0,0],iO Tryz.f159 [(0,0)]),L50)
def d51:(Code×Cx)×fQ:=((cF Tryz.f163 [1,1,1,1,1,1,0,1,0,0],iO Tryz.f163 [(0,1408)]),L51)
def d52:(Code×Cx)×fQ:=((cF Tryz.f167 [1,1,1,0,1,0,0],iO Tryz.f167 [(0,903)]),L52)
def d53:(Code×Cx)×fQ:=((cF Tryz.f177 [1,1,1,0,1,0,0],iO Tryz.f177 [(0,64)]),L53)
def d54:(Code×Cx)×fQ:=((cF Tryz.f177 [1,1,1,0,1,0,0,1,0,0,1,1,0,1,0,0],iO Tryz.f177 [(2,963),(1,195),(0,64)]),L54)
def d55:(Code×Cx)×fQ:=((cF Tryz.f186 [1,0,1,0,1,1,1,1,1,1,1,1,1,0,1,0,1,0,0],iO Tryz.f186 [(1,32),(0,2)]),L55)
def d56:(Code×Cx)×fQ:=((cF Tryz.f186 [1,0,1,0,1,1,1,1,1,1,1,1,1,1,1,1,1,0,1,0,1,0,0],iO Tryz.f186 [(3,1024),(0,2)]),L56)
def d57:(Code×Cx)×fQ:=((cF Tryz.f192 [1,1,0,1,0,0],iO Tryz.f192 [(0,0)]),L57)
def d58:(Code×Cx)×fQ:=gD (cF Tryz.f195 [1,1,0,1,0,0],iO Tryz.f195 [(0,8)]) 58
def d59:(Code×Cx)×fQ:=gD (cF Tryz.f196 [1,0,1,0,0],iO Tryz.f196 [(0,0)]) 59
def d60:(Code×Cx)×fQ:=gD (cF Tryz.f198 [1,1,0,1,0,0],iO Tryz.f198 [(0,12)]) 60
def d61:(Code×Cx)×fQ:=gD (cF Tryz.f199 [1,1,0,0,0],iO Tryz.f199 [(0,8)]) 61
def d62:(Code×Cx)×fQ:=gD (cF Tryz.f207 [1,0,1,0,0],iO Tryz.f207 [(0,0)]) 62
def SU (f:Nat):Option (Func×fQ):=(tN f 134 (tN f 92 (tN f 61 (tN f 43 (tN f 34 (tN f 18 (tN f 17 (tL f 10 (Tryz.f10,(gB Tryz.f10))) (tL f 17 (Tryz.f17,(sQ Tryz.f17 0)))) (tN f 23 (tL f 18 (Tryz.f18,(gB Tryz.f18))) (tL f 23 (Tryz.f23,(gB Tryz.f23))))) (tN f 38 (tN f 37 (tL f 34 (Tryz.f34,(gB Tryz.f34))) (tL f 37 (Tryz.f37,(gB Tryz.f37)))) (tN f 39 (tL f 38 (Tryz.f38,(sQ Tryz.f38 1))) (tL f 39 (Tryz.f39,(gB Tryz.f39)))))) (tN f 51 (tN f 45 (tN f 44 (tL f 43 (Tryz.f43,(gB Tryz.f43))) (tL f 44 (Tryz.f44,(gB Tryz.f44)))) (tN f 50 (tL f 45 (Tryz.f45,(gB Tryz.f45))) (tL f 50 (Tryz.f50,(gB Tryz.f50))))) (tN f 54 (tN f 53 (tL f 51 (Tryz.f51,(gB Tryz.f51))) (tL f 53 (Tryz.f53,(sQ Tryz.f53 2)))) (tN f 56 (tL f 54 (Tryz.f54,(gB Tryz.f54))) (tN f 60 (tL f 56 (Tryz.f56,(sQ Tryz.f56 3))) (tL f 60 (Tryz.f60,(gB Tryz.f60)))))))) (tN f 73 (tN f 67 (tN f 65 (tN f 63 (tL f 61 (Tryz.f61,(sQ Tryz.f61 5))) (tL f 63 (Tryz.f63,B63))) (tN f 66 (tL f 65 (Tryz.f65,(gB Tryz.f65))) (tL f 66 (Tryz.f66,(sQ Tryz.f66 9))))) (tN f 69 (tN f 68 (tL f 67 (Tryz.f67,(sQ Tryz.f67 11))) (tL f 68 (Tryz.f68,(sQ Tryz.f68 13)))) (tN f 70 (tL f 69 (Tryz.f69,(gB Tryz.f69))) (tN f 71 (tL f 70 (Tryz.f70,B70)) (tL f 71 (Tryz.f71,B71)))))) (tN f 80 (tN f 78 (tN f 74 (tL f 73 (Tryz.f73,(gB Tryz.f73))) (tL f 74 (Tryz.f74,B74))) (tN f 79 (tL f 78 (Tryz.f78,(gB Tryz.f78))) (tL f 79 (Tryz.f79,(sQ Tryz.f79 19))))) (tN f 82 (tN f 81 (tL f 80 (Tryz.f80,(gB Tryz.f80))) (tL f 81 (Tryz.f81,(sQ Tryz.f81 21)))) (tN f 90 (tL f 82 (Tryz.f82,(gB Tryz.f82))) (tN f 91 (tL f 90 (Tryz.f90,(sQ Tryz.f90 22))) (tL f 91 (Tryz.f91,(sQ Tryz.f91 23))))))))) (tN f 113 (tN f 103 (tN f 96 (tN f 94 (tN f 93 (tL f 92 (Tryz.f92,(sQ Tryz.f92 24))) (tL f 93 (Tryz.f93,(sQ Tryz.f93 25)))) (tN f 95 (tL f 94 (Tryz.f94,B94)) (tL f 95 (Tryz.f95,B95)))) (tN f 100 (tN f 99 (tL f 96 (Tryz.f96,(gB Tryz.f96))) (tL f 99 (Tryz.f99,(gB Tryz.f99)))) (tN f 101 (tL f 100 (Tryz.f100,(sQ Tryz.f100 28))) (tN f 102 (tL f 101 (Tryz.f101,(sQ Tryz.f101 29))) (tL f 102 (Tryz.f102,(gB Tryz.f102))))))) (tN f 107 (tN f 105 (tN f 104 (tL f 103 (Tryz.f103,(sQ Tryz.f103 30))) (tL f 104 (Tryz.f104,(gB Tryz.f104)))) (tN f 106 (tL f 105 (Tryz.f105,(gB Tryz.f105))) (tL f 106 (Tryz.f106,adZ)))) (tN f 109 (tN f 108 (tL f 107 (Tryz.f107,(gB Tryz.f107))) (tL f 108 (Tryz.f108,(sQ Tryz.f108 33)))) (tN f 110 (tL f 109 (Tryz.f109,(sQ Tryz.f109 34))) (tN f 111 (tL f 110 (Tryz.f110,(sQ Tryz.f110 35))) (tL f 111 (Tryz.f111,(gB Tryz.f111)))))))) (tN f 125 (tN f 120 (tN f 118 (tN f 114 (tL f 113 (Tryz.f113,(sQ Tryz.f113 36))) (tL f 114 (Tryz.f114,(gB Tryz.f114)))) (tN f 119 (tL f 118 (Tryz.f118,(gB Tryz.f118))) (tL f 119 (Tryz.f119,(sQ Tryz.f119 37))))) (tN f 122 (tN f 121 (tL f 120 (Tryz.f120,(gB Tryz.f120))) (tL f 121 (Tryz.f121,(sQ Tryz.f121 38)))) (tN f 123 (tL f 122 (Tryz.f122,(gB Tryz.f122))) (tN f 124 (tL f 123 (Tryz.f123,(gB Tryz.f123))) (tL f 124 (Tryz.f124,ad_)))))) (tN f 129 (tN f 127 (tN f 126 (tL f 125 (Tryz.f125,aea)) (tL f 126 (Tryz.f126,aeb))) (tN f 128 (tL f 127 (Tryz.f127,aec)) (tL f 128 (Tryz.f128,aed)))) (tN f 131 (tN f 130 (tL f 129 (Tryz.f129,(sQ Tryz.f129 40))) (tL f 130 (Tryz.f130,aee))) (tN f 132 (tL f 131 (Tryz.f131,aef)) (tN f 133 (tL f 132 (Tryz.f132,aeg)) (tL f 133 (Tryz.f133,aeh))))))))) (tN f 172 (tN f 154 (tN f 142 (tN f 138 (tN f 136 (tN f 135 (tL f 134 (Tryz.f134,(sQ Tryz.f134 42))) (tL f 135 (Tryz.f135,aei))) (tN f 137 (tL f 136 (Tryz.f136,(gB Tryz.f136))) (tL f 137 (Tryz.f137,(gB Tryz.f137))))) (tN f 140 (tN f 139 (tL f 138 (Tryz.f138,(gB Tryz.f138))) (tL f 139 (Tryz.f139,(gB Tryz.f139)))) (tN f 141 (tL f 140 (Tryz.f140,aej)) (tL f 141 (Tryz.f141,(gB Tryz.f141)))))) (tN f 147 (tN f 145 (tN f 143 (tL f 142 (Tryz.f142,aek)) (tL f 143 (Tryz.f143,(sQ Tryz.f143 44)))) (tN f 146 (tL f 145 (Tryz.f145,(sQ Tryz.f145 45))) (tL f 146 (Tryz.f146,(gB Tryz.f146))))) (tN f 151 (tN f 148 (tL f 147 (Tryz.f147,(sQ Tryz.f147 46))) (tL f 148 (Tryz.f148,(gB Tryz.f148)))) (tN f 152 (tL f 151 (Tryz.f151,ael)) (tN f 153 (tL f 152 (Tryz.f152,aem)) (tL f 153 (Tryz.f153,aen))))))) (tN f 163 (tN f 158 (tN f 156 (tN f 155 (tL f 154 (Tryz.f154,(gB Tryz.f154))) (tL f 155 (Tryz.f155,(gB Tryz.f155)))) (tN f 157 (tL f 156 (Tryz.f156,aeo)) (tL f 157 (Tryz.f157,aep)))) (tN f 160 (tN f 159 (tL f 158 (Tryz.f158,aeq)) (tL f 159 (Tryz.f159,aer))) (tN f 161 (tL f 160 (Tryz.f160,aes)) (tN f 162 (tL f 161 (Tryz.f161,aet)) (tL f 162 (Tryz.f162,aeu)))))) (tN f 167 (tN f 165 (tN f 164 (tL f 163 (Tryz.f163,aev)) (tL f 164 (Tryz.f164,(gB Tryz.f164)))) (tN f 166 (tL f 165 (Tryz.f165,aew)) (tL f 166 (Tryz.f166,(gB Tryz.f166))))) (tN f 169 (tN f 168 (tL f 167 (Tryz.f167,aex)) (tL f 168 (Tryz.f168,aey))) (tN f 170 (tL f 169 (Tryz.f169,aez)) (tN f 171 (tL f 170 (Tryz.f170,aeA)) (tL f 171 (Tryz.f171,(gB Tryz.f171))))))))) (tN f 191 (tN f 181 (tN f 176 (tN f 174 (tN f 173 (tL f 172 (Tryz.f172,(gB Tryz.f172))) (tL f 173 (Tryz.f173,aeB))) (tN f 175 (tL f 174 (Tryz.f174,(gB Tryz.f174))) (tL f 175 (Tryz.f175,aeC)))) (tN f 178 (tN f 177 (tL f 176 (Tryz.f176,aeD)) (tL f 177 (Tryz.f177,aeE))) (tN f 179 (tL f 178 (Tryz.f178,aeF)) (tN f 180 (tL f 179 (Tryz.f179,aeG)) (tL f 180 (Tryz.f180,aeH)))))) (tN f 185 (tN f 183 (tN f 182 (tL f 181 (Tryz.f181,(gB Tryz.f181))) (tL f 182 (Tryz.f182,(gB Tryz.f182)))) (tN f 184 (tL f 183 (Tryz.f183,(gB Tryz.f183))) (tL f 184 (Tryz.f184,(gB Tryz.f184))))) (tN f 187 (tN f 186 (tL f 185 (Tryz.f185,aeI)) (tL f 186 (Tryz.f186,aeJ))) (tN f 188 (tL f 187 (Tryz.f187,(gB Tryz.f187))) (tN f 189 (tL f 188 (Tryz.f188,(gB Tryz.f188))) (tL f 189 (Tryz.f189,(gB Tryz.f189)))))))) (tN f 200 (tN f 195 (tN f 193 (tN f 192 (tL f 191 (Tryz.f191,(gB Tryz.f191))) (tL f 192 (Tryz.f192,aeK))) (tN f 194 (tL f 193 (Tryz.f193,(gB Tryz.f193))) (tL f 194 (Tryz.f194,(gB Tryz.f194))))) (tN f 197 (tN f 196 (tL f 195 (Tryz.f195,(sQ Tryz.f195 58))) (tL f 196 (Tryz.f196,(sQ Tryz.f196 59)))) (tN f 198 (tL f 197 (Tryz.f197,(gB Tryz.f197))) (tN f 199 (tL f 198 (Tryz.f198,(sQ Tryz.f198 60))) (tL f 199 (Tryz.f199,(sQ Tryz.f199 61))))))) (tN f 204 (tN f 202 (tN f 201 (tL f 200 (Tryz.f200,(gB Tryz.f200))) (tL f 201 (Tryz.f201,(gB Tryz.f201)))) (tN f 203 (tL f 202 (Tryz.f202,(gB Tryz.f202))) (tL f 203 (Tryz.f203,(gB Tryz.f203))))) (tN f 206 (tN f 205 (tL f 204 (Tryz.f204,(gB Tryz.f204))) (tL f 205 (Tryz.f205,(gB Tryz.f205)))) (tN f 207 (tL f 206 (Tryz.f206,(gB Tryz.f206))) (tN f 208 (tL f 207 (Tryz.f207,(sQ Tryz.f207 62))) (tL f 208 (Tryz.f208,(gB Tryz.f208)))))))))))
def abo (f:Nat):Option ((Code×Cx)×fQ):=(tN f 31 (tN f 15 (tN f 7 (tN f 3 (tN f 1 (tL f 0 d0) (tN f 2 (tL f 1 d1) (tL f 2 d2))) (tN f 5 (tN f 4 (tL f 3 d3) (tL f 4 d4)) (tN f 6 (tL f 5 d5) (tL f 6 d6)))) (tN f 11 (tN f 9 (tN f 8 (tL f 7 d7) (tL f 8 d8)) (tN f 10 (tL f 9 d9) (tL f 10 d10))) (tN f 13 (tN f 12 (tL f 11 d11) (tL f 12 d12)) (tN f 14 (tL f 13 d13) (tL f 14 d14))))) (tN f 23 (tN f 19 (tN f 17 (tN f 16 (tL f 15 d15) (tL f 16 d16)) (tN f 18 (tL f 17 d17) (tL f 18 d18))) (tN f 21 (tN f 20 (tL f 19 d19) (tL f 20 d20)) (tN f 22 (tL f 21 d21) (tL f 22 d22)))) (tN f 27 (tN f 25 (tN f 24 (tL f 23 d23) (tL f 24 d24)) (tN f 26 (tL f 25 d25) (tL f 26 d26))) (tN f 29 (tN f 28 (tL f 27 d27) (tL f 28 d28)) (tN f 30 (tL f 29 d29) (tL f 30 d30)))))) (tN f 47 (tN f 39 (tN f 35 (tN f 33 (tN f 32 (tL f 31 d31) (tL f 32 d32)) (tN f 34 (tL f 33 d33) (tL f 34 d34))) (tN f 37 (tN f 36 (tL f 35 d35) (tL f 36 d36)) (tN f 38 (tL f 37 d37) (tL f 38 d38)))) (tN f 43 (tN f 41 (tN f 40 (tL f 39 d39) (tL f 40 d40)) (tN f 42 (tL f 41 d41) (tL f 42 d42))) (tN f 45 (tN f 44 (tL f 43 d43) (tL f 44 d44)) (tN f 46 (tL f 45 d45) (tL f 46 d46))))) (tN f 55 (tN f 51 (tN f 49 (tN f 48 (tL f 47 d47) (tL f 48 d48)) (tN f 50 (tL f 49 d49) (tL f 50 d50))) (tN f 53 (tN f 52 (tL f 51 d51) (tL f 52 d52)) (tN f 54 (tL f 53 d53) (tL f 54 d54)))) (tN f 59 (tN f 57 (tN f 56 (tL f 55 d55) (tL f 56 d56)) (tN f 58 (tL f 57 d57) (tL f 58 d58))) (tN f 61 (tN f 60 (tL f 59 d59) (tL f 60 d60)) (tN f 62 (tL f 61 d61) (tL f 62 d62)))))))
def Hb:Ft:=⟨SU,abo⟩
def FO (f:Nat) (e:Func×fQ):Prop:=(∀(c:CH) (a:LH) us H,e.2 c (Hb.loop a) us H=Wl uW c a e.1 us H)∧Tryz.prog.funcs[f]? = some e.1∧aT Tryz.prog f∧okF y e.1=true
def LO (e:(Code×Cx)×fQ):Prop:=∀(c:CH) (a:LH) us H,e.2 c (Hb.loop a) us H=evL uW c a e.1.1 e.1.2 us H
theorem e10:FO 10 (Tryz.f10,(gB Tryz.f10)):=⟨λ_ _ _ _=>by kernel_rfl,Tryz.func10,Tryz.call10,by kernel_rfl⟩
theorem e17:FO 17 (Tryz.f17,(sQ Tryz.f17 0)):=⟨λ_ _ _ _=>by kernel_rfl,Tryz.func17,Tryz.call17,by kernel_rfl⟩
theorem e18:FO 18 (Tryz.f18,(gB Tryz.f18)):=⟨λ_ _ _ _=>by kernel_rfl,Tryz.func18,Tryz.call18,by kernel_rfl⟩
theorem e23:FO 23 (Tryz.f23,(gB Tryz.f23)):=⟨λ_ _ _ _=>by kernel_rfl,Tryz.func23,Tryz.call23,by kernel_rfl⟩
theorem e34:FO 34 (Tryz.f34,(gB Tryz.f34)):=⟨λ_ _ _ _=>by kernel_rfl,Tryz.func34,Tryz.call34,by kernel_rfl⟩
theorem e37:FO 37 (Tryz.f37,(gB Tryz.f37)):=⟨λ_ _ _ _=>by kernel_rfl,Tryz.func37,Tryz.call37,by kernel_rfl⟩
theorem e38:FO 38 (Tryz.f38,(sQ Tryz.f38 1)):=⟨λ_ _ _ _=>by kernel_rfl,Tryz.func38,Tryz.call38,by kernel_rfl⟩
theorem e39:FO 39 (Tryz.f39,(gB Tryz.f39)):=⟨λ_ _ _ _=>by kernel_rfl,Tryz.func39,Tryz.call39,by kernel_rfl⟩
theorem e43:FO 43 (Tryz.f43,(gB Tryz.f43)):=⟨λ_ _ _ _=>by kernel_rfl,Tryz.func43,Tryz.call43,by kernel_rfl⟩
theorem e44:FO 44 (Tryz.f44,(gB Tryz.f44)):=⟨λ_ _ _ _=>by kernel_rfl,Tryz.func44,Tryz.call44,by kernel_rfl⟩
theorem e45:FO 45 (Tryz.f45,(gB Tryz.f45)):=⟨λ_ _ _ _=>by kernel_rfl,Tryz.func45,Tryz.call45,by kernel_rfl⟩
theorem e50:FO 50 (Tryz.f50,(gB Tryz.f50)):=⟨λ_ _ _ _=>by kernel_rfl,Tryz.func50,Tryz.call50,by kernel_rfl⟩
theorem e51:FO 51 (Tryz.f51,(gB Tryz.f51)):=⟨λ_ _ _ _=>by kernel_rfl,Tryz.func51,Tryz.call51,by kernel_rfl⟩
theorem e53:FO 53 (Tryz.f53,(sQ Tryz.f53 2)):=⟨λ_ _ _ _=>by kernel_rfl,Tryz.func53,Tryz.call53,by kernel_rfl⟩
theorem e54:FO 54 (Tryz.f54,(gB Tryz.f54)):=⟨λ_ _ _ _=>by kernel_rfl,Tryz.func54,Tryz.call54,by kernel_rfl⟩
theorem e56:FO 56 (Tryz.f56,(sQ Tryz.f56 3)):=⟨λ_ _ _ _=>by kernel_rfl,Tryz.func56,Tryz.call56,by kernel_rfl⟩
theorem e60:FO 60 (Tryz.f60,(gB Tryz.f60)):=⟨λ_ _ _ _=>by kernel_rfl,Tryz.func60,Tryz.call60,by kernel_rfl⟩
theorem e61:FO 61 (Tryz.f61,(sQ Tryz.f61 5)):=⟨λ_ _ _ _=>by kernel_rfl,Tryz.func61,Tryz.call61,by kernel_rfl⟩
theorem e63:FO 63 (Tryz.f63,B63):=⟨λ_ _ _ _=>by kernel_rfl,Tryz.func63,Tryz.call63,by kernel_rfl⟩
theorem e65:FO 65 (Tryz.f65,(gB Tryz.f65)):=⟨λ_ _ _ _=>by kernel_rfl,Tryz.func65,Tryz.call65,by kernel_rfl⟩
theorem e66:FO 66 (Tryz.f66,(sQ Tryz.f66 9)):=⟨λ_ _ _ _=>by kernel_rfl,Tryz.func66,Tryz.call66,by kernel_rfl⟩
theorem e67:FO 67 (Tryz.f67,(sQ Tryz.f67 11)):=⟨λ_ _ _ _=>by kernel_rfl,Tryz.func67,Tryz.call67,by kernel_rfl⟩
theorem e68:FO 68 (Tryz.f68,(sQ Tryz.f68 13)):=⟨λ_ _ _ _=>by kernel_rfl,Tryz.func68,Tryz.call68,by kernel_rfl⟩
theorem e69:FO 69 (Tryz.f69,(gB Tryz.f69)):=⟨λ_ _ _ _=>by kernel_rfl,Tryz.func69,Tryz.call69,by kernel_rfl⟩
theorem e70:FO 70 (Tryz.f70,B70):=⟨λ_ _ _ _=>by kernel_rfl,Tryz.func70,Tryz.call70,by kernel_rfl⟩
theorem e71:FO 71 (Tryz.f71,B71):=⟨λ_ _ _ _=>by kernel_rfl,Tryz.func71,Tryz.call71,by kernel_rfl⟩
theorem e73:FO 73 (Tryz.f73,(gB Tryz.f73)):=⟨λ_ _ _ _=>by kernel_rfl,Tryz.func73,Tryz.call73,by kernel_rfl⟩
theorem e74:FO 74 (Tryz.f74,B74):=⟨λ_ _ _ _=>by kernel_rfl,Tryz.func74,Tryz.call74,by kernel_rfl⟩
theorem e78:FO 78 (Tryz.f78,(gB Tryz.f78)):=⟨λ_ _ _ _=>by kernel_rfl,Tryz.func78,Tryz.call78,by kernel_rfl⟩
theorem e79:FO 79 (Tryz.f79,(sQ Tryz.f79 19)):=⟨λ_ _ _ _=>by kernel_rfl,Tryz.func79,Tryz.call79,by kernel_rfl⟩
theorem e80:FO 80 (Tryz.f80,(gB Tryz.f80)):=⟨λ_ _ _ _=>by kernel_rfl,Tryz.func80,Tryz.call80,by kernel_rfl⟩
theorem e81:FO 81 (Tryz.f81,(sQ Tryz.f81 21)):=⟨λ_ _ _ _=>by kernel_rfl,Tryz.func81,Tryz.call81,by kernel_rfl⟩
theorem e82:FO 82 (Tryz.f82,(gB Tryz.f82)):=⟨λ_ _ _ _=>by kernel_rfl,Tryz.func82,Tryz.call82,by kernel_rfl⟩
theorem e90:FO 90 (Tryz.f90,(sQ Tryz.f90 22)):=⟨λ_ _ _ _=>by kernel_rfl,Tryz.func90,Tryz.call90,by kernel_rfl⟩
theorem e91:FO 91 (Tryz.f91,(sQ Tryz.f91 23)):=⟨λ_ _ _ _=>by kernel_rfl,Tryz.func91,Tryz.call91,by kernel_rfl⟩
theorem e92:FO 92 (Tryz.f92,(sQ Tryz.f92 24)):=⟨λ_ _ _ _=>by kernel_rfl,Tryz.func92,Tryz.call92,by kernel_rfl⟩
theorem e93:FO 93 (Tryz.f93,(sQ Tryz.f93 25)):=⟨λ_ _ _ _=>by kernel_rfl,Tryz.func93,Tryz.call93,by kernel_rfl⟩
theorem e94:FO 94 (Tryz.f94,B94):=⟨λ_ _ _ _=>by kernel_rfl,Tryz.func94,Tryz.call94,by kernel_rfl⟩
theorem e95:FO 95 (Tryz.f95,B95):=⟨λ_ _ _ _=>by kernel_rfl,Tryz.func95,Tryz.call95,by kernel_rfl⟩
theorem e96:FO 96 (Tryz.f96,(gB Tryz.f96)):=⟨λ_ _ _ _=>by kernel_rfl,Tryz.func96,Tryz.call96,by kernel_rfl⟩
theorem e99:FO 99 (Tryz.f99,(gB Tryz.f99)):=⟨λ_ _ _ _=>by kernel_rfl,Tryz.func99,Tryz.call99,by kernel_rfl⟩
theorem agw:FO 100 (Tryz.f100,(sQ Tryz.f100 28)):=⟨λ_ _ _ _=>by kernel_rfl,Tryz.func100,Tryz.call100,by kernel_rfl⟩
theorem agx:FO 101 (Tryz.f101,(sQ Tryz.f101 29)):=⟨λ_ _ _ _=>by kernel_rfl,Tryz.func101,Tryz.call101,by kernel_rfl⟩
theorem agy:FO 102 (Tryz.f102,(gB Tryz.f102)):=⟨λ_ _ _ _=>by kernel_rfl,Tryz.func102,Tryz.call102,by kernel_rfl⟩
theorem agz:FO 103 (Tryz.f103,(sQ Tryz.f103 30)):=⟨λ_ _ _ _=>by kernel_rfl,Tryz.func103,Tryz.call103,by kernel_rfl⟩
theorem agA:FO 104 (Tryz.f104,(gB Tryz.f104)):=⟨λ_ _ _ _=>by kernel_rfl,Tryz.func104,Tryz.call104,by kernel_rfl⟩
theorem agB:FO 105 (Tryz.f105,(gB Tryz.f105)):=⟨λ_ _ _ _=>by kernel_rfl,Tryz.func105,Tryz.call105,by kernel_rfl⟩
theorem agC:FO 106 (Tryz.f106,adZ):=⟨λ_ _ _ _=>by kernel_rfl,Tryz.func106,Tryz.call106,by kernel_rfl⟩
theorem agD:FO 107 (Tryz.f107,(gB Tryz.f107)):=⟨λ_ _ _ _=>by kernel_rfl,Tryz.func107,Tryz.call107,by kernel_rfl⟩
theorem agE:FO 108 (Tryz.f108,(sQ Tryz.f108 33)):=⟨λ_ _ _ _=>by kernel_rfl,Tryz.func108,Tryz.call108,by kernel_rfl⟩
theorem agF:FO 109 (Tryz.f109,(sQ Tryz.f109 34)):=⟨λ_ _ _ _=>by kernel_rfl,Tryz.func109,Tryz.call109,by kernel_rfl⟩
theorem agG:FO 110 (Tryz.f110,(sQ Tryz.f110 35)):=⟨λ_ _ _ _=>by kernel_rfl,Tryz.func110,Tryz.call110,by kernel_rfl⟩
theorem agH:FO 111 (Tryz.f111,(gB Tryz.f111)):=⟨λ_ _ _ _=>by kernel_rfl,Tryz.func111,Tryz.call111,by kernel_rfl⟩
theorem agI:FO 113 (Tryz.f113,(sQ Tryz.f113 36)):=⟨λ_ _ _ _=>by kernel_rfl,Tryz.func113,Tryz.call113,by kernel_rfl⟩
theorem agJ:FO 114 (Tryz.f114,(gB Tryz.f114)):=⟨λ_ _ _ _=>by kernel_rfl,Tryz.func114,Tryz.call114,by kernel_rfl⟩
theorem agK:FO 118 (Tryz.f118,(gB Tryz.f118)):=⟨λ_ _ _ _=>by kernel_rfl,Tryz.func118,Tryz.call118,by kernel_rfl⟩
theorem agL:FO 119 (Tryz.f119,(sQ Tryz.f119 37)):=⟨λ_ _ _ _=>by kernel_rfl,Tryz.func119,Tryz.call119,by kernel_rfl⟩
theorem agM:FO 120 (Tryz.f120,(gB Tryz.f120)):=⟨λ_ _ _ _=>by kernel_rfl,Tryz.func120,Tryz.call120,by kernel_rfl⟩
theorem agN:FO 121 (Tryz.f121,(sQ Tryz.f121 38)):=⟨λ_ _ _ _=>by kernel_rfl,Tryz.func121,Tryz.call121,by kernel_rfl⟩
theorem agO:FO 122 (Tryz.f122,(gB Tryz.f122)):=⟨λ_ _ _ _=>by kernel_rfl,Tryz.func122,Tryz.call122,by kernel_rfl⟩
theorem agP:FO 123 (Tryz.f123,(gB Tryz.f123)):=⟨λ_ _ _ _=>by kernel_rfl,Tryz.func123,Tryz.call123,by kernel_rfl⟩
theorem agQ:FO 124 (Tryz.f124,ad_):=⟨λ_ _ _ _=>by kernel_rfl,Tryz.func124,Tryz.call124,by kernel_rfl⟩
theorem agS:FO 125 (Tryz.f125,aea):=⟨λ_ _ _ _=>by kernel_rfl,Tryz.func125,Tryz.call125,by kernel_rfl⟩
theorem agT:FO 126 (Tryz.f126,aeb):=⟨λ_ _ _ _=>by kernel_rfl,Tryz.func126,Tryz.call126,by kernel_rfl⟩
theorem agU:FO 127 (Tryz.f127,aec):=⟨λ_ _ _ _=>by kernel_rfl,Tryz.func127,Tryz.call127,by kernel_rfl⟩
theorem agV:FO 128 (Tryz.f128,aed):=⟨λ_ _ _ _=>by kernel_rfl,Tryz.func128,Tryz.call128,by kernel_rfl⟩
theorem agW:FO 129 (Tryz.f129,(sQ Tryz.f129 40)):=⟨λ_ _ _ _=>by kernel_rfl,Tryz.func129,Tryz.call129,by kernel_rfl⟩
theorem agX:FO 130 (Tryz.f130,aee):=⟨λ_ _ _ _=>by kernel_rfl,Tryz.func130,Tryz.call130,by kernel_rfl⟩
theorem agY:FO 131 (Tryz.f131,aef):=⟨λ_ _ _ _=>by kernel_rfl,Tryz.func131,Tryz.call131,by kernel_rfl⟩
theorem agZ:FO 132 (Tryz.f132,aeg):=⟨λ_ _ _ _=>by kernel_rfl,Tryz.func132,Tryz.call132,by kernel_rfl⟩
theorem ag_:FO 133 (Tryz.f133,aeh):=⟨λ_ _ _ _=>by kernel_rfl,Tryz.func133,Tryz.call133,by kernel_rfl⟩
theorem aha:FO 134 (Tryz.f134,(sQ Tryz.f134 42)):=⟨λ_ _ _ _=>by kernel_rfl,Tryz.func134,Tryz.call134,by kernel_rfl⟩
theorem ahb:FO 135 (Tryz.f135,aei):=⟨λ_ _ _ _=>by kernel_rfl,Tryz.func135,Tryz.call135,by kernel_rfl⟩
theorem ahc:FO 136 (Tryz.f136,(gB Tryz.f136)):=⟨λ_ _ _ _=>by kernel_rfl,Tryz.func136,Tryz.call136,by kernel_rfl⟩
theorem ahd:FO 137 (Tryz.f137,(gB Tryz.f137)):=⟨λ_ _ _ _=>by kernel_rfl,Tryz.func137,Tryz.call137,by kernel_rfl⟩
theorem ahe:FO 138 (Tryz.f138,(gB Tryz.f138)):=⟨λ_ _ _ _=>by kernel_rfl,Tryz.func138,Tryz.call138,by kernel_rfl⟩
theorem ahf:FO 139 (Tryz.f139,(gB Tryz.f139)):=⟨λ_ _ _ _=>by kernel_rfl,Tryz.func139,Tryz.call139,by kernel_rfl⟩
theorem ahg:FO 140 (Tryz.f140,aej):=⟨λ_ _ _ _=>by kernel_rfl,Tryz.func140,Tryz.call140,by kernel_rfl⟩
theorem ahh:FO 141 (Tryz.f141,(gB Tryz.f141)):=⟨λ_ _ _ _=>by kernel_rfl,Tryz.func141,Tryz.call141,by kernel_rfl⟩
theorem ahi:FO 142 (Tryz.f142,aek):=⟨λ_ _ _ _=>by kernel_rfl,Tryz.func142,Tryz.call142,by kernel_rfl⟩
theorem ahj:FO 143 (Tryz.f143,(sQ Tryz.f143 44)):=⟨λ_ _ _ _=>by kernel_rfl,Tryz.func143,Tryz.call143,by kernel_rfl⟩
theorem ahk:FO 145 (Tryz.f145,(sQ Tryz.f145 45)):=⟨λ_ _ _ _=>by kernel_rfl,Tryz.func145,Tryz.call145,by kernel_rfl⟩
theorem ahl:FO 146 (Tryz.f146,(gB Tryz.f146)):=⟨λ_ _ _ _=>by kernel_rfl,Tryz.func146,Tryz.call146,by kernel_rfl⟩
theorem ahm:FO 147 (Tryz.f147,(sQ Tryz.f147 46)):=⟨λ_ _ _ _=>by kernel_rfl,Tryz.func147,Tryz.call147,by kernel_rfl⟩
theorem ahn:FO 148 (Tryz.f148,(gB Tryz.f148)):=⟨λ_ _ _ _=>by kernel_rfl,Tryz.func148,Tryz.call148,by kernel_rfl⟩
theorem aho:FO 151 (Tryz.f151,ael):=⟨λ_ _ _ _=>by kernel_rfl,Tryz.func151,Tryz.call151,by kernel_rfl⟩
theorem ahp:FO 152 (Tryz.f152,aem):=⟨λ_ _ _ _=>by kernel_rfl,Tryz.func152,Tryz.call152,by kernel_rfl⟩
theorem ahq:FO 153 (Tryz.f153,aen):=⟨λ_ _ _ _=>by kernel_rfl,Tryz.func153,Tryz.call153,by kernel_rfl⟩
theorem ahr:FO 154 (Tryz.f154,(gB Tryz.f154)):=⟨λ_ _ _ _=>by kernel_rfl,Tryz.func154,Tryz.call154,by kernel_rfl⟩
theorem ahs:FO 155 (Tryz.f155,(gB Tryz.f155)):=⟨λ_ _ _ _=>by kernel_rfl,Tryz.func155,Tryz.call155,by kernel_rfl⟩
theorem aht:FO 156 (Tryz.f156,aeo):=⟨λ_ _ _ _=>by kernel_rfl,Tryz.func156,Tryz.call156,by kernel_rfl⟩
theorem ahu:FO 157 (Tryz.f157,aep):=⟨λ_ _ _ _=>by kernel_rfl,Tryz.func157,Tryz.call157,by kernel_rfl⟩
theorem ahv:FO 158 (Tryz.f158,aeq):=⟨λ_ _ _ _=>by kernel_rfl,Tryz.func158,Tryz.call158,by kernel_rfl⟩
theorem ahw:FO 159 (Tryz.f159,aer):=⟨λ_ _ _ _=>by kernel_rfl,Tryz.func159,Tryz.call159,by kernel_rfl⟩
theorem ahx:FO 160 (Tryz.f160,aes):=⟨λ_ _ _ _=>by kernel_rfl,Tryz.func160,Tryz.call160,by kernel_rfl⟩
theorem ahy:FO 161 (Tryz.f161,aet):=⟨λ_ _ _ _=>by kernel_rfl,Tryz.func161,Tryz.call161,by kernel_rfl⟩
theorem ahz:FO 162 (Tryz.f162,aeu):=⟨λ_ _ _ _=>by kernel_rfl,Tryz.func162,Tryz.call162,by kernel_rfl⟩
theorem ahA:FO 163 (Tryz.f163,aev):=⟨λ_ _ _ _=>by kernel_rfl,Tryz.func163,Tryz.call163,by kernel_rfl⟩
theorem ahB:FO 164 (Tryz.f164,(gB Tryz.f164)):=⟨λ_ _ _ _=>by kernel_rfl,Tryz.func164,Tryz.call164,by kernel_rfl⟩
theorem ahC:FO 165 (Tryz.f165,aew):=⟨λ_ _ _ _=>by kernel_rfl,Tryz.func165,Tryz.call165,by kernel_rfl⟩
theorem ahD:FO 166 (Tryz.f166,(gB Tryz.f166)):=⟨λ_ _ _ _=>by kernel_rfl,Tryz.func166,Tryz.call166,by kernel_rfl⟩
theorem ahE:FO 167 (Tryz.f167,aex):=⟨λ_ _ _ _=>by kernel_rfl,Tryz.func167,Tryz.call167,by kernel_rfl⟩
theorem ahF:FO 168 (Tryz.f168,aey):=⟨λ_ _ _ _=>by kernel_rfl,Tryz.func168,Tryz.call168,by kernel_rfl⟩
theorem ahG:FO 169 (Tryz.f169,aez):=⟨λ_ _ _ _=>by kernel_rfl,Tryz.func169,Tryz.call169,by kernel_rfl⟩
theorem ahH:FO 170 (Tryz.f170,aeA):=⟨λ_ _ _ _=>by kernel_rfl,Tryz.func170,Tryz.call170,by kernel_rfl⟩
theorem ahI:FO 171 (Tryz.f171,(gB Tryz.f171)):=⟨λ_ _ _ _=>by kernel_rfl,Tryz.func171,Tryz.call171,by kernel_rfl⟩
theorem ahJ:FO 172 (Tryz.f172,(gB Tryz.f172)):=⟨λ_ _ _ _=>by kernel_rfl,Tryz.func172,Tryz.call172,by kernel_rfl⟩
theorem ahK:FO 173 (Tryz.f173,aeB):=⟨λ_ _ _ _=>by kernel_rfl,Tryz.func173,Tryz.call173,by kernel_rfl⟩
theorem ahL:FO 174 (Tryz.f174,(gB Tryz.f174)):=⟨λ_ _ _ _=>by kernel_rfl,Tryz.func174,Tryz.call174,by kernel_rfl⟩
theorem ahM:FO 175 (Tryz.f175,aeC):=⟨λ_ _ _ _=>by kernel_rfl,Tryz.func175,Tryz.call175,by kernel_rfl⟩
theorem ahN:FO 176 (Tryz.f176,aeD):=⟨λ_ _ _ _=>by kernel_rfl,Tryz.func176,Tryz.call176,by kernel_rfl⟩
theorem ahO:FO 177 (Tryz.f177,aeE):=⟨λ_ _ _ _=>by kernel_rfl,Tryz.func177,Tryz.call177,by kernel_rfl⟩
theorem ahP:FO 178 (Tryz.f178,aeF):=⟨λ_ _ _ _=>by kernel_rfl,Tryz.func178,Tryz.call178,by kernel_rfl⟩
theorem ahQ:FO 179 (Tryz.f179,aeG):=⟨λ_ _ _ _=>by kernel_rfl,Tryz.func179,Tryz.call179,by kernel_rfl⟩
theorem ahR:FO 180 (Tryz.f180,aeH):=⟨λ_ _ _ _=>by kernel_rfl,Tryz.func180,Tryz.call180,by kernel_rfl⟩
theorem ahS:FO 181 (Tryz.f181,(gB Tryz.f181)):=⟨λ_ _ _ _=>by kernel_rfl,Tryz.func181,Tryz.call181,by kernel_rfl⟩
theorem ahT:FO 182 (Tryz.f182,(gB Tryz.f182)):=⟨λ_ _ _ _=>by kernel_rfl,Tryz.func182,Tryz.call182,by kernel_rfl⟩
theorem ahU:FO 183 (Tryz.f183,(gB Tryz.f183)):=⟨λ_ _ _ _=>by kernel_rfl,Tryz.func183,Tryz.call183,by kernel_rfl⟩
theorem ahV:FO 184 (Tryz.f184,(gB Tryz.f184)):=⟨λ_ _ _ _=>by kernel_rfl,Tryz.func184,Tryz.call184,by kernel_rfl⟩
theorem ahW:FO 185 (Tryz.f185,aeI):=⟨λ_ _ _ _=>by kernel_rfl,Tryz.func185,Tryz.call185,by kernel_rfl⟩
theorem ahX:FO 186 (Tryz.f186,aeJ):=⟨λ_ _ _ _=>by kernel_rfl,Tryz.func186,Tryz.call186,by kernel_rfl⟩
theorem ahY:FO 187 (Tryz.f187,(gB Tryz.f187)):=⟨λ_ _ _ _=>by kernel_rfl,Tryz.func187,Tryz.call187,by kernel_rfl⟩
theorem ahZ:FO 188 (Tryz.f188,(gB Tryz.f188)):=⟨λ_ _ _ _=>by kernel_rfl,Tryz.func188,Tryz.call188,by kernel_rfl⟩
theorem ah_:FO 189 (Tryz.f189,(gB Tryz.f189)):=⟨λ_ _ _ _=>by kernel_rfl,Tryz.func189,Tryz.call189,by kernel_rfl⟩
theorem aia:FO 191 (Tryz.f191,(gB Tryz.f191)):=⟨λ_ _ _ _=>by kernel_rfl,Tryz.func191,Tryz.call191,by kernel_rfl⟩
theorem aib:FO 192 (Tryz.f192,aeK):=⟨λ_ _ _ _=>by kernel_rfl,Tryz.func192,Tryz.call192,by kernel_rfl⟩
theorem aic:FO 193 (Tryz.f193,(gB Tryz.f193)):=⟨λ_ _ _ _=>by kernel_rfl,Tryz.func193,Tryz.call193,by kernel_rfl⟩
theorem aid:FO 194 (Tryz.f194,(gB Tryz.f194)):=⟨λ_ _ _ _=>by kernel_rfl,Tryz.func194,Tryz.call194,by kernel_rfl⟩
theorem aie:FO 195 (Tryz.f195,(sQ Tryz.f195 58)):=⟨λ_ _ _ _=>by kernel_rfl,Tryz.func195,Tryz.call195,by kernel_rfl⟩
theorem aif:FO 196 (Tryz.f196,(sQ Tryz.f196 59)):=⟨λ_ _ _ _=>by kernel_rfl,Tryz.func196,Tryz.call196,by kernel_rfl⟩
theorem aig:FO 197 (Tryz.f197,(gB Tryz.f197)):=⟨λ_ _ _ _=>by kernel_rfl,Tryz.func197,Tryz.call197,by kernel_rfl⟩
theorem aih:FO 198 (Tryz.f198,(sQ Tryz.f198 60)):=⟨λ_ _ _ _=>by kernel_rfl,Tryz.func198,Tryz.call198,by kernel_rfl⟩
theorem aii:FO 199 (Tryz.f199,(sQ Tryz.f199 61)):=⟨λ_ _ _ _=>by kernel_rfl,Tryz.func199,Tryz.call199,by kernel_rfl⟩
theorem aij:FO 200 (Tryz.f200,(gB Tryz.f200)):=⟨λ_ _ _ _=>by kernel_rfl,Tryz.func200,Tryz.call200,by kernel_rfl⟩
theorem aik:FO 201 (Tryz.f201,(gB Tryz.f201)):=⟨λ_ _ _ _=>by kernel_rfl,Tryz.func201,Tryz.call201,by kernel_rfl⟩
theorem ail:FO 202 (Tryz.f202,(gB Tryz.f202)):=⟨λ_ _ _ _=>by kernel_rfl,Tryz.func202,Tryz.call202,by kernel_rfl⟩
theorem aim:FO 203 (Tryz.f203,(gB Tryz.f203)):=⟨λ_ _ _ _=>by kernel_rfl,Tryz.func203,Tryz.call203,by kernel_rfl⟩
theorem ain:FO 204 (Tryz.f204,(gB Tryz.f204)):=⟨λ_ _ _ _=>by kernel_rfl,Tryz.func204,Tryz.call204,by kernel_rfl⟩
theorem aio:FO 205 (Tryz.f205,(gB Tryz.f205)):=⟨λ_ _ _ _=>by kernel_rfl,Tryz.func205,Tryz.call205,by kernel_rfl⟩
theorem aip:FO 206 (Tryz.f206,(gB Tryz.f206)):=⟨λ_ _ _ _=>by kernel_rfl,Tryz.func206,Tryz.call206,by kernel_rfl⟩
theorem aiq:FO 207 (Tryz.f207,(sQ Tryz.f207 62)):=⟨λ_ _ _ _=>by kernel_rfl,Tryz.func207,Tryz.call207,by kernel_rfl⟩
theorem air:FO 208 (Tryz.f208,(gB Tryz.f208)):=⟨λ_ _ _ _=>by kernel_rfl,Tryz.func208,Tryz.call208,by kernel_rfl⟩
theorem l0:LO d0:=λ_ _ _ _=>by kernel_rfl
theorem l1:LO d1:=λ_ _ _ _=>by kernel_rfl
theorem l2:LO d2:=λ_ _ _ _=>by kernel_rfl
theorem l3:LO d3:=λ_ _ _ _=>by kernel_rfl
theorem l4:LO d4:=λ_ _ _ _=>by kernel_rfl
theorem l5:LO d5:=λ_ _ _ _=>by kernel_rfl
theorem l6:LO d6:=λ_ _ _ _=>by kernel_rfl
theorem l7:LO d7:=λ_ _ _ _=>by kernel_rfl
theorem l8:LO d8:=λ_ _ _ _=>by kernel_rfl
theorem l9:LO d9:=λ_ _ _ _=>by kernel_rfl
theorem l10:LO d10:=λ_ _ _ _=>by kernel_rfl
theorem l11:LO d11:=λ_ _ _ _=>by kernel_rfl
theorem l12:LO d12:=λ_ _ _ _=>by kernel_rfl
theorem l13:LO d13:=λ_ _ _ _=>by kernel_rfl
theorem l14:LO d14:=λ_ _ _ _=>by kernel_rfl
theorem l15:LO d15:=λ_ _ _ _=>by kernel_rfl
theorem l16:LO d16:=λ_ _ _ _=>by kernel_rfl
theorem l17:LO d17:=λ_ _ _ _=>by kernel_rfl
theorem l18:LO d18:=λ_ _ _ _=>by kernel_rfl
theorem l19:LO d19:=λ_ _ _ _=>by kernel_rfl
theorem l20:LO d20:=λ_ _ _ _=>by kernel_rfl
theorem l21:LO d21:=λ_ _ _ _=>by kernel_rfl
theorem l22:LO d22:=λ_ _ _ _=>by kernel_rfl
theorem l23:LO d23:=λ_ _ _ _=>by kernel_rfl
theorem l24:LO d24:=λ_ _ _ _=>by kernel_rfl
theorem l25:LO d25:=λ_ _ _ _=>by kernel_rfl
theorem l26:LO d26:=λ_ _ _ _=>by kernel_rfl
theorem l27:LO d27:=λ_ _ _ _=>by kernel_rfl
theorem l28:LO d28:=λ_ _ _ _=>by kernel_rfl
theorem l29:LO d29:=λ_ _ _ _=>by kernel_rfl
theorem l30:LO d30:=λ_ _ _ _=>by kernel_rfl
theorem l31:LO d31:=λ_ _ _ _=>by kernel_rfl
theorem l32:LO d32:=λ_ _ _ _=>by kernel_rfl
theorem l33:LO d33:=λ_ _ _ _=>by kernel_rfl
theorem l34:LO d34:=λ_ _ _ _=>by kernel_rfl
theorem l35:LO d35:=λ_ _ _ _=>by kernel_rfl
theorem l36:LO d36:=λ_ _ _ _=>by kernel_rfl
theorem l37:LO d37:=λ_ _ _ _=>by kernel_rfl
theorem l38:LO d38:=λ_ _ _ _=>by kernel_rfl
theorem l39:LO d39:=λ_ _ _ _=>by kernel_rfl
theorem l40:LO d40:=λ_ _ _ _=>by kernel_rfl
theorem l41:LO d41:=λ_ _ _ _=>by kernel_rfl
theorem l42:LO d42:=λ_ _ _ _=>by kernel_rfl
theorem l43:LO d43:=λ_ _ _ _=>by kernel_rfl
theorem l44:LO d44:=λ_ _ _ _=>by kernel_rfl
theorem l45:LO d45:=λ_ _ _ _=>by kernel_rfl
theorem l46:LO d46:=λ_ _ _ _=>by kernel_rfl
theorem l47:LO d47:=λ_ _ _ _=>by kernel_rfl
theorem l48:LO d48:=λ_ _ _ _=>by kernel_rfl
theorem l49:LO d49:=λ_ _ _ _=>by kernel_rfl
theorem l50:LO d50:=λ_ _ _ _=>by kernel_rfl
theorem l51:LO d51:=λ_ _ _ _=>by kernel_rfl
theorem l52:LO d52:=λ_ _ _ _=>by kernel_rfl
theorem l53:LO d53:=λ_ _ _ _=>by kernel_rfl
theorem l54:LO d54:=λ_ _ _ _=>by kernel_rfl
theorem l55:LO d55:=λ_ _ _ _=>by kernel_rfl
theorem l56:LO d56:=λ_ _ _ _=>by kernel_rfl
theorem l57:LO d57:=λ_ _ _ _=>by kernel_rfl
theorem l58:LO d58:=λ_ _ _ _=>by kernel_rfl
theorem l59:LO d59:=λ_ _ _ _=>by kernel_rfl
theorem l60:LO d60:=λ_ _ _ _=>by kernel_rfl
theorem l61:LO d61:=λ_ _ _ _=>by kernel_rfl
theorem l62:LO d62:=λ_ _ _ _=>by kernel_rfl
theorem Lb {f:Nat} {e:Func×fQ}:SU f=some e->FO f e:=(rN (rN (rN (rN (rN (rN (rN (rL e10) (rL e17)) (rN (rL e18) (rL e23))) (rN (rN (rL e34) (rL e37)) (rN (rL e38) (rL e39)))) (rN (rN (rN (rL e43) (rL e44)) (rN (rL e45) (rL e50))) (rN (rN (rL e51) (rL e53)) (rN (rL e54) (rN (rL e56) (rL e60)))))) (rN (rN (rN (rN (rL e61) (rL e63)) (rN (rL e65) (rL e66))) (rN (rN (rL e67) (rL e68)) (rN (rL e69) (rN (rL e70) (rL e71))))) (rN (rN (rN (rL e73) (rL e74)) (rN (rL e78) (rL e79))) (rN (rN (rL e80) (rL e81)) (rN (rL e82) (rN (rL e90) (rL e91))))))) (rN (rN (rN (rN (rN (rL e92) (rL e93)) (rN (rL e94) (rL e95))) (rN (rN (rL e96) (rL e99)) (rN (rL agw) (rN (rL agx) (rL agy))))) (rN (rN (rN (rL agz) (rL agA)) (rN (rL agB) (rL agC))) (rN (rN (rL agD) (rL agE)) (rN (rL agF) (rN (rL agG) (rL agH)))))) (rN (rN (rN (rN (rL agI) (rL agJ)) (rN (rL agK) (rL agL))) (rN (rN (rL agM) (rL agN)) (rN (rL agO) (rN (rL agP) (rL agQ))))) (rN (rN (rN (rL agS) (rL agT)) (rN (rL agU) (rL agV))) (rN (rN (rL agW) (rL agX)) (rN (rL agY) (rN (rL agZ) (rL ag_)))))))) (rN (rN (rN (rN (rN (rN (rL aha) (rL ahb)) (rN (rL ahc) (rL ahd))) (rN (rN (rL ahe) (rL ahf)) (rN (rL ahg) (rL ahh)))) (rN (rN (rN (rL ahi) (rL ahj)) (rN (rL ahk) (rL ahl))) (rN (rN (rL ahm) (rL ahn)) (rN (rL aho) (rN (rL ahp) (rL ahq)))))) (rN (rN (rN (rN (rL ahr) (rL ahs)) (rN (rL aht) (rL ahu))) (rN (rN (rL ahv) (rL ahw)) (rN (rL ahx) (rN (rL ahy) (rL ahz))))) (rN (rN (rN (rL ahA) (rL ahB)) (rN (rL ahC) (rL ahD))) (rN (rN (rL ahE) (rL ahF)) (rN (rL ahG) (rN (rL ahH) (rL ahI))))))) (rN (rN (rN (rN (rN (rL ahJ) (rL ahK)) (rN (rL ahL) (rL ahM))) (rN (rN (rL ahN) (rL ahO)) (rN (rL ahP) (rN (rL ahQ) (rL ahR))))) (rN (rN (rN (rL ahS) (rL ahT)) (rN (rL ahU) (rL ahV))) (rN (rN (rL ahW) (rL ahX)) (rN (rL ahY) (rN (rL ahZ) (rL ah_)))))) (rN (rN (rN (rN (rL aia) (rL aib)) (rN (rL aic) (rL aid))) (rN (rN (rL aie) (rL aif)) (rN (rL aig) (rN (rL aih) (rL aii))))) (rN (rN (rN (rL aij) (rL aik)) (rN (rL ail) (rL aim))) (rN (rN (rL ain) (rL aio)) (rN (rL aip) (rN (rL aiq) (rL air)))))))))
theorem XG {f:Nat} {e:(Code×Cx)×fQ}:abo f=some e->LO e:=(rN (rN (rN (rN (rN (rL (R:=λ_=>LO) l0) (rN (rL (R:=λ_=>LO) l1) (rL (R:=λ_=>LO) l2))) (rN (rN (rL (R:=λ_=>LO) l3) (rL (R:=λ_=>LO) l4)) (rN (rL (R:=λ_=>LO) l5) (rL (R:=λ_=>LO) l6)))) (rN (rN (rN (rL (R:=λ_=>LO) l7) (rL (R:=λ_=>LO) l8)) (rN (rL (R:=λ_=>LO) l9) (rL (R:=λ_=>LO) l10))) (rN (rN (rL (R:=λ_=>LO) l11) (rL (R:=λ_=>LO) l12)) (rN (rL (R:=λ_=>LO) l13) (rL (R:=λ_=>LO) l14))))) (rN (rN (rN (rN (rL (R:=λ_=>LO) l15) (rL (R:=λ_=>LO) l16)) (rN (rL (R:=λ_=>LO) l17) (rL (R:=λ_=>LO) l18))) (rN (rN (rL (R:=λ_=>LO) l19) (rL (R:=λ_=>LO) l20)) (rN (rL (R:=λ_=>LO) l21) (rL (R:=λ_=>LO) l22)))) (rN (rN (rN (rL (R:=λ_=>LO) l23) (rL (R:=λ_=>LO) l24)) (rN (rL (R:=λ_=>LO) l25) (rL (R:=λ_=>LO) l26))) (rN (rN (rL (R:=λ_=>LO) l27) (rL (R:=λ_=>LO) l28)) (rN (rL (R:=λ_=>LO) l29) (rL (R:=λ_=>LO) l30)))))) (rN (rN (rN (rN (rN (rL (R:=λ_=>LO) l31) (rL (R:=λ_=>LO) l32)) (rN (rL (R:=λ_=>LO) l33) (rL (R:=λ_=>LO) l34))) (rN (rN (rL (R:=λ_=>LO) l35) (rL (R:=λ_=>LO) l36)) (rN (rL (R:=λ_=>LO) l37) (rL (R:=λ_=>LO) l38)))) (rN (rN (rN (rL (R:=λ_=>LO) l39) (rL (R:=λ_=>LO) l40)) (rN (rL (R:=λ_=>LO) l41) (rL (R:=λ_=>LO) l42))) (rN (rN (rL (R:=λ_=>LO) l43) (rL (R:=λ_=>LO) l44)) (rN (rL (R:=λ_=>LO) l45) (rL (R:=λ_=>LO) l46))))) (rN (rN (rN (rN (rL (R:=λ_=>LO) l47) (rL (R:=λ_=>LO) l48)) (rN (rL (R:=λ_=>LO) l49) (rL (R:=λ_=>LO) l50))) (rN (rN (rL (R:=λ_=>LO) l51) (rL (R:=λ_=>LO) l52)) (rN (rL (R:=λ_=>LO) l53) (rL (R:=λ_=>LO) l54)))) (rN (rN (rN (rL (R:=λ_=>LO) l55) (rL (R:=λ_=>LO) l56)) (rN (rL (R:=λ_=>LO) l57) (rL (R:=λ_=>LO) l58))) (rN (rN (rL (R:=λ_=>LO) l59) (rL (R:=λ_=>LO) l60)) (rN (rL (R:=λ_=>LO) l61) (rL (R:=λ_=>LO) l62)))))))
theorem FV:IR Hb uW:=⟨λh=>(Lb h).1,XG⟩
theorem XF {f:Nat} {e:Func×fQ} (h:SU f=some e):Tryz.prog.funcs[f]? = some e.1∧aT Tryz.prog f∧okF y e.1=true:=(Lb h).2
end
end Go.Gx
end
namespace Go.Gx
open Go Go.Sx
section
variable {P:Program} {gs:xR} {w0:d_ gs} {tb:TB}
theorem NS:qP P w0 (λ_ _ _=>none):=λf b H g a h=>by cases h
theorem Hw:Gt P w0 tb (λ_ _ _ _=>none):=λb c d H a h=>by cases h
theorem ZQ {C:CH} {G:LH} (y:eI P tb) (Q:P.follows .mixedOrders=true) (k:∀w0:d_ gs,qP P w0 C) (l:Gt P w0 tb G) {f:Nat} {d:Func} {J:List GV} {H:GH} {c:Nu} (L:P.funcs[f]? = some d) (A:okF tb d=true) (h:Wl tb C G d J H=some c) (O:c.e = .ret) {t:dG} {w:World} {s:List Value} (R:eQ w0 t H w) (E:n_ t J s):
  Calls P f s.toArray w λe u=>∃v a,e = .returned v∧t.le a∧eQ w0 a c.H u∧Rl a (Up c.vs) v:=by
 obtain⟨M,N⟩:=Oz A;obtain⟨i,D,h⟩:=aB.1 (show ob d.body _=some c from h);obtain⟨K,m,h⟩:=pW h;rw[List.range_eq_range']at m;have r:=IT m;have S:s.length<=d.ntmps:=by rw[<-E.len,r];exact N
 refine rQ L D ?_;have F:kQ t d.ntmps K {tmps:=s.toArray++Array.replicate (d.ntmps - s.toArray.size) undef,defers:=[]}:=by
  refine LV Z (by simp;omega) E (λj v p=> ?_) m;have z:=a_ p;rw[Nat.zero_add,Array.getElem?_append_left (by simpa using z)];simpa using p
 refine BO y Q k l i _ _ _ ⟨K,H⟩ c t _ w _ (M i D) h F R ⟨λI a B u q b n o=> ?_,λid I a B u q b n o=> ?_,λI a B u q b n o=> ?_⟩
 ·obtain⟨x,v,p,g⟩:=FU (fn:=d) y Z n o q;exact Sx.body_end (.inr Z) n.defers g ⟨v,a,rfl,b,by rw[x];exact o,p⟩
 ·have:=zL q;rw[O]at this;cases this
 ·obtain⟨x,v,p,g⟩:=FU (fn:=d) y Z n o q;exact Sx.body_end (.inl Z) n.defers g ⟨v,a,rfl,b,by rw[x];exact o,p⟩
noncomputable def KD (tb:TB) (f:Nat) (a:Func):CH:=λg b H=>bif Nat.beq g f then La (Wl tb (λ_ _ _=>none) (λ_ _ _ _=>none) a b H)else none
theorem VQ (m:eI P tb) (p:P.follows .mixedOrders=true) {f:Nat} {c:Func} (k:P.funcs[f]? = some c) (n:aT P f) (i:okF tb c=true):qP P w0 (KD tb f c):=λg r H x j h t w s R q=>by
 unfold KD at h;cases b:Nat.beq g f with
 |false=>rw[b]at h;cases h
 |true=>
 rw[b]at h;have b:=Nat.eq_of_beq_eq_true b;subst b;replace h:La (Wl tb (λ_ _ _=>none) (λ_ _ _ _=>none) c r H)=some (x,j):=h;unfold La at h;obtain⟨o,l,a⟩:=aB.1 h;cases d:o.e with
 |normal=>rw[d]at a;cases a
 |exit id=>rw[d]at a;cases a
 |ret=>
  rw[d]at a;cases a;exact .inr ⟨n _ w,ZQ m p (λ_=>NS) Hw k i l d R q⟩
theorem UB {id:Nat} {o:Oper} {l:List Oper} {Q:Exit->Act->List Frame->World->Prop} {a:Act} {d:List Frame} {w:World} (x:l.all jB=true) (C:o.guard=none) (r:(execOp a.eval o).run P w = .ok .recover w)
  (q:recoverD d=none) (h:Sx.wpList P (o::l).toArray (λe g t=>Q e g d t) l (a.put o.dst .nilIface) w):(Code.region id (o::l).toArray false).wpSIn (FR none) 0 P Q a d w:=by
 intro b k B f u c;have y:(o::l).toArray[0]? = some o:=by simp
 obtain⟨e,g,t,E,i⟩:=wp_opsIn (F:=FR none) (n:=0) (Q:=λe g t=>Q e g d t) (ops:=(o::l).toArray) (List.range' 1 l.length) (a.put o.dst .nilIface) w
  (by rw[wpOpsIn_eq_wpListIn l 1 (by intro j;simp[Nat.add_comm 1 j])];exact Sx.wpList_in l _ w x h) b k d f u c
 have H:Region.wanted o (yielded (o::l).toArray a.tmps)=true:=by simp[Region.wanted,C]
 have A:(lone (b.atR a (.inRegion (o::l).toArray (0::List.range' 1 l.length)::k)) d w).fenced P (FR none):=fenced_oper u c y (λ_ _=>trivial);have p:=stepGR_op (P:=P) (b:=b) (k:=k) (cs:=d) (w:=w) (rest:=List.range' 1 l.length) y H;rw[f,Oper.semAt_none]at p;have m:∀v,(b.atR a (.inRegion (o::l).toArray (0::List.range' 1 l.length)::k)).finish v=b.atR (a.put o.dst v) (.inRegion (o::l).toArray (List.range' 1 l.length)::k):=by
  intro v;rw[Frame.finish_atR,y];rfl
 have D:(b.atR a (.inRegion (o::l).toArray (0::List.range' 1 l.length)::k)).kind = .deferred:=B;have s:=tryRecover_deferred D d;have G:List.range (o::l).toArray.size=0::List.range' 1 l.length:=by simp[List.range_eq_range',List.range'_succ]
 have z:=stepR_region (P:=P) (b:=b) (a:=a) (k:=k) (cs:=d) (w:=w) (id:=id) (ops:=(o::l).toArray);rw[G]at z;refine⟨e,g,d,t,rfl,E,.of_steps (.head (fenced_calm u c Z) z (.one A (step_lone_go ?_))) i⟩
 rw[p,<-m];simp only[Frame.atR,f]at s ⊢;simp[stepG.apply,r,s,q]
theorem TL {ch:CH} {lp:LH} (I:eI P tb) (hm:P.follows .mixedOrders=true) {f:Nat} {i:Func} {id m d:Nat} {o:Oper} {l:List Oper} {b:Code} {U:Cx} {q:Nu} {a:Array Value} {w:World}
  (c:∀w0:d_ noG,qP P w0 ch) (p:Gt P (d_.one w) tb lp) (X:P.funcs[f]? = some i) (V:i.body=some (.seq (.region id (o::l).toArray false) b)) (B:o.guard=none) (W:o.dst=some d) (A:d<i.ntmps)
  (u:∀ρ w,(execOp ρ o).run P w = .ok .recover w) (K:l.all (GU i.ntmps)=true) (hr:Gn tb i.ntmps b=true) (s:i.results = #[]) (aa:a.size<=i.ntmps)
  (h:Es tb ch (o::l) (ZP tb ch lp b m U (FS [])) l ⟨[(d,.inil)],H0⟩=some q) (J:q.e = .normal):
  CallsDIn (FR none) 0 P f a .returning w λe u' E=>∃v,e = .returned v∧u' = .returning∧LD w E:=by
 have D:l.all jB=true:=List.all_eq_true.2 λo C=>(r_ (List.all_eq_true.1 K o C)).1;refine callsDIn_of_wpSIn X V trivial λk T M=> ?_;have r:recoverD (k::T)=none:=by simp[recoverD,M]
 refine wpSIn_seq (UB D B (u _ _) r ?_);have F:kQ (λ_=>none) i.ntmps [(d,.inil)] (({tmps:=a++Array.replicate (i.ntmps - a.size) undef,defers:=[]}:Act).put o.dst .nilIface):=by
  rw[W];refine kQ.put ⟨rfl,by simp;omega,λt g B=>(by cases B)⟩ A ?_;exact .inil
 refine FC I (c (d_.one w)) l ⟨[(d,.inil)],H0⟩ _ _ w K F (eQ.start (d_.one w) Z) h λs' G S E Y L Q R=> ?_;refine wpSIn_of_wpIn Z ?_;refine BO I hm c p b _ _ _ s' q G S E _ hr Y Q R ⟨λN x H O j n y z=> ?_,λid N x H O j n y z=> ?_,λN x H O j n y z=> ?_⟩
 ·refine⟨y.defers,k.mode,rfl,.tuple #[],?_,_,rfl,M,z.ext.ext⟩
  simp[results,s]
 ·have:=zL j;rw[J]at this;cases this
 ·have:=MG j;rw[J]at this;cases this
theorem IA {o:Oper} {l:List Oper} {b:Array Oper} {Q:Exit->Act->World->Prop} {a:Act} {w w':World} {v:Value} (c:o.guard=none) (d:(execOp a.eval o).run P w = .ok (.value v) w') (h:Sx.wpList P b Q l (a.put o.dst v) w'):Sx.wpList P b Q (o::l) a w:=by
 unfold Sx.wpList;rw[if_pos (by simp[Region.wanted,c])];exact .inl (by simp only[Oper.wp,d,Oper.upon];exact h)
theorem PI {o:Oper} {l:List Oper} {b:Array Oper} {Q:Exit->Act->World->Prop} {a:Act} {w w':World} (c:o.guard=none) (d:(execOp a.eval o).run P w = .ok .skip w') (h:Sx.wpList P b Q l (a.put o.dst undef) w'):Sx.wpList P b Q (o::l) a w:=by
 unfold Sx.wpList;rw[if_pos (by simp[Region.wanted,c])];exact .inl (by simp only[Oper.wp,d,Oper.upon];exact h)
theorem UC {o:Oper} {l:List Oper} {b:Array Oper} {Q:Exit->Act->World->Prop} {a:Act} {w:World} {f:Nat} {args:Array Value} {S:Value->World->Prop} (d:o.guard=none) (g:(execOp a.eval o).run P w = .ok (.enter f args) w)
  (c:Calls P f args w λe w'=>∃v,e = .returned v∧S v w') (h:∀v w',S v w'->Sx.wpList P b Q l (a.put o.dst v) w'):Sx.wpList P b Q (o::l) a w:=by
 unfold Sx.wpList;rw[if_pos (by simp[Region.wanted,d])];refine .inl ?_;simp only[Oper.wp,g,Oper.upon];refine c.mono ?_;rintro e w' ⟨v,rfl,i⟩;exact h v w' i
theorem acB (M:eI P tb) {c cc T1 T2 i0 i1 i2 i3 y0 y1 y2 y3 y4 y5 y6 y7:Nat} {p0 p1 p2 p3 p4 p5 p6 p7:String} {e0 e1 e2 e3 e4 e5 e6 e7:Array Edge} {z:Func} (hf:P.funcs[c]? = some z) (ag:aT P c) (ah:aT P cc)
  (hb:z.body=some (.seq (.region i0 #[⟨some 2,.alloc T1,y0,p0,e0,none⟩,⟨some 3,.alloc T2,y1,p1,e1,none⟩] false)
   (.seq (.region i1 #[⟨some 4,.makeFunc (.func cc) #[] #[.tmp 2,.tmp 3],y2,p2,e2,none⟩,⟨none,.defer ⟨.value (.tmp 4),#[],#[]⟩,y3,p3,e3,none⟩] false)
   (.seq (.region i2 #[⟨some 5,.move (.tmp 0),y4,p4,e4,none⟩,⟨some 6,.call ⟨.value (.tmp 5),#[],#[]⟩,y5,p5,e5,none⟩] false)
   (.seq (.region i3 #[⟨none,.store T1 (.tmp 2) (.const (.int .i64 0)),y6,p6,e6,none⟩,⟨none,.store T2 (.tmp 3) (.const (.int .i64 0)),y7,p7,e7,none⟩] false) .ret)))))
  (hn:z.ntmps=7) (Q:z.results = #[.cell 2 T1,.cell 3 T2])
  (aa:∀H,mQ tb T1 H=some (.ptr H.n 0,H.new (.cells [wG]))) (ab:∀H,mQ tb T2 H=some (.ptr H.n 0,H.new (.cells [wG])))
  (ae:∀H h c,GH.cells H h=some [c]->lQ tb T1 (.ptr h 0) wG H=some (.un,H.set h (.cells [wG]))) (af:∀H h c,GH.cells H h=some [c]->lQ tb T2 (.ptr h 0) wG H=some (.un,H.set h (.cells [wG])))
  (ac:∀H h,GH.cells H h=some [wG]->tF tb T1 (.ptr h 0) H=some wG) (ad:∀H h,GH.cells H h=some [wG]->tF tb T2 (.ptr h 0) H=some wG)
  (N:∀o w,o.size=2->CallsDIn (FR none) 0 P cc o .returning w λe u' l=>∃v,e = .returned v∧u' = .returning∧LD w l)
  {G:dG} {g:Nat} {k j:List Value} {w:World} {H s:GH} {c1 c2:GV} (R:eQ w0 G H w) (hc:∀i l,G.le i->eQ w0 i ((H.new (.cells [wG])).new (.cells [wG])) l->∃x,jX P w0 i g (k++j) l x s) (h1:s.cells H.n=some [c1]) (J:s.cells (H.n+1)=some [c2]):
  jX P w0 G c [.func (.func g) k.toArray j.toArray] w (.tup [wG,wG]) ((((s.set H.n (.cells [wG])).set (H.n+1) (.cells [wG])).del H.n).del (H.n+1)):=by
 refine .inr ⟨ag _ w,?_⟩;refine NT (r:=none) (n:=0) (callsIn_of_wp_defers hf hb trivial ?_);rw[hn];obtain⟨b,w1,ap,aj,C,R1,U⟩:=Hi (P:=P) M R (aa H);obtain⟨d,y,I,ak,p,R2,V⟩:=Hi (P:=P) M R1 (ab _);obtain⟨x,hx⟩:=hc I y (dG.le_trans C p) R2;refine wpIn_seq (rO Z ?_);refine IA Z (v:=b) (w':=w1) (by simp[execOp,aj]) ?_;refine IA Z (v:=d) (w':=y) (by simp[execOp,ak]) ?_;show Code.wpIn (FR none) 0 P _ _ (⟨#[.func (.func g) k.toArray j.toArray,undef,b,d,undef,undef,undef],[]⟩:Act) y;refine wpIn_seq (wpIn_region_lit ?_);refine wpListIn_plain Z λK hK=>⟨λ_ _=>trivial,?_⟩
 have hm:(Oper.semAt (FR none).round (⟨#[.func (.func g) k.toArray j.toArray,undef,b,d,undef,undef,undef],[]⟩:Act).eval ⟨some 4,.makeFunc (.func cc) #[] #[.tmp 2,.tmp 3],y2,p2,e2,none⟩).run P y = .ok (.value (.func (.func cc) #[] #[b,d])) y:=by
  rw[show(FR none).round=none from rfl,Oper.semAt_none];simp[execOp,Instr.makeFunc,Act.eval]
 rw[hm];refine hK _ _ ?_;show wpListIn _ _ _ _ _ _ (⟨#[.func (.func g) k.toArray j.toArray,undef,b,d,.func (.func cc) #[] #[b,d],undef,undef],[]⟩:Act) y;refine wpListIn_plain Z λK hK=>⟨λ_ _=>trivial,?_⟩
 have hm:(Oper.semAt (FR none).round (⟨#[.func (.func g) k.toArray j.toArray,undef,b,d,.func (.func cc) #[] #[b,d],undef,undef],[]⟩:Act).eval ⟨none,.defer ⟨.value (.tmp 4),#[],#[]⟩,y3,p3,e3,none⟩).run P y = .ok (.defer ⟨.fn (.func cc) #[b,d],#[]⟩) y:=by
  rw[show(FR none).round=none from rfl,Oper.semAt_none];simp[execOp,resolve,Act.eval,Deferred.ofValue]
 rw[hm];refine hK _ _ ?_;show Code.wpIn (FR none) 0 P _ _ (⟨#[.func (.func g) k.toArray j.toArray,undef,b,d,.func (.func cc) #[] #[b,d],undef,undef],[⟨.fn (.func cc) #[b,d],#[]⟩]⟩:Act) y;refine wpIn_seq (rO Z ?_);refine IA Z (v:= .func (.func g) k.toArray j.toArray) (w':=y) (by simp[execOp,Act.eval]) ?_;show Sx.wpList _ _ _ _ (⟨#[.func (.func g) k.toArray j.toArray,undef,b,d,.func (.func cc) #[] #[b,d],.func (.func g) k.toArray j.toArray,undef],[⟨.fn (.func cc) #[b,d],#[]⟩]⟩:Act) y;have go:∀v D m,I.le m->eQ w0 m s D->Code.wpIn (FR none) 0 P (.seq (.region i3 #[⟨none,.store T1 (.tmp 2) (.const (.int .i64 0)),y6,p6,e6,none⟩,⟨none,.store T2 (.tmp 3) (.const (.int .i64 0)),y7,p7,e7,none⟩] false) .ret) (bodyPostDIn (FR none) 0 P z λe l=>∃v i,e = .returned v∧G.le i∧eQ w0 i ((((s.set H.n (.cells [wG])).set (H.n+1) (.cells [wG])).del H.n).del (H.n+1)) l∧Rl i (.tup [wG,wG]) v) (⟨#[.func (.func g) k.toArray j.toArray,undef,b,d,.func (.func cc) #[] #[b,d],.func (.func g) k.toArray j.toArray,v],[⟨.fn (.func cc) #[b,d],#[]⟩]⟩:Act) D:=by
  intro v D m a L;have hz:∀G,Rl G wG (.int .i64 0):=λG=> .int _ _;obtain⟨_,w4,aq,al,q,R4⟩:=Hj (P:=P) (T:=T1) M L ((U.le p).le a) (hz _) (ae _ _ _ h1);have Y:(s.set H.n (.cells [wG])).cells (H.n+1)=some [c2]:=by
   rw[iA]at J ⊢;rw[qQ,if_neg (by omega)];exact J
  obtain⟨_,X,W,am,u,R5⟩:=Hj (P:=P) (T:=T2) M R4 ((V.le a).le q) (hz _) (af _ _ _ Y);refine wpIn_seq (rO Z ?_);refine PI Z (w':=w4) (by simp[execOp,Act.eval,al]) ?_;refine PI Z (w':=X) (by simp[execOp,Act.eval,Act.put,am]) ?_;refine wpIn_ret ?_;show LeavesIn (FR none) 0 P z #[.func (.func g) k.toArray j.toArray,undef,b,d,.func (.func cc) #[] #[b,d],.func (.func g) k.toArray j.toArray,v] _ [⟨.fn (.func cc) #[b,d],#[]⟩] .returning X;refine leavesIn_cons (f:=cc) (args:= #[b,d]) (by simp) (by simp[FR,Fence.wide]) (by simp[invoke,ah _ X]) (λ_ _=>trivial) ?_;refine(N #[b,d] X Z).mono ?_;rintro e u' w6 ⟨x6,rfl,rfl,O⟩;have R6:=R5.ext' O;have F:kQ W 7 [(2,.ptr H.n 0),(3,.ptr (H.n+1) 0)] (⟨#[.func (.func g) k.toArray j.toArray,undef,b,d,.func (.func cc) #[] #[b,d],.func (.func g) k.toArray j.toArray,v],[]⟩:Act):=by
   refine⟨rfl,rfl,λt g B=> ?_⟩
   rw[zQ]at B;by_cases J:t=2
   ·rw[if_pos J]at B;cases B;rw[J];exact(((U.le p).le a).le q).le u
   ·rw[if_neg J,zQ]at B;by_cases h3:t=3
    ·rw[if_pos h3]at B;cases B;rw[h3];exact((V.le a).le q).le u
    ·rw[if_neg h3]at B;cases B
  have E:Re tb ⟨z.results.toList,0,[]⟩ ⟨[(2,.ptr H.n 0),(3,.ptr (H.n+1) 0)],(s.set H.n (.cells [wG])).set (H.n+1) (.cells [wG])⟩=some ⟨.ret,[wG,wG],(s.set H.n (.cells [wG])).set (H.n+1) (.cells [wG])⟩:=by
   rw[Q];have q1:tF tb T1 (.ptr H.n 0) ((s.set H.n (.cells [wG])).set (H.n+1) (.cells [wG]))=some wG:=ac _ _ (by rw[iA,qQ,if_neg (by omega),qQ,if_pos Z]);have q2:tF tb T2 (.ptr (H.n+1) 0) ((s.set H.n (.cells [wG])).set (H.n+1) (.cells [wG]))=some wG:=ad _ _ (by rw[iA,qQ,if_pos Z]);show ob (ob (tF tb T1 (.ptr H.n 0) _) λv=>ob (ob (tF tb T2 (.ptr (H.n+1) 0) _) λv=>ob (some []) λvs=>some (v::vs)) λvs=>some (v::vs)) _=_;rw[q1,q2];rfl
  obtain⟨_,v6,ao,an⟩:=FU (fn:=z) (P:=P) M Z F R6 E;exact⟨v6,an,v6,W,rfl,dG.le_trans C (dG.le_trans p (dG.le_trans a (dG.le_trans q u))),(R6.del _).del _,ao⟩
 rcases hx with⟨v,D,m,hr,a,L,_⟩|⟨hr,A⟩
 ·refine IA Z (v:=v) (w':=D) (by simpa [execOp,resolve,Act.eval,Deferred.ofValue,invoke]using hr) ?_;exact go v D m a L
 ·refine UC Z (f:=g) (args:=(k++j).toArray) (S:=λv l=>∃i,I.le i∧eQ w0 i s l) (by simpa [execOp,resolve,Act.eval,Deferred.ofValue,invoke]using hr) (A.mono ?_) λv D ⟨m,a,L⟩=>go v D m a L;rintro e l ⟨v,i,rfl,ai,R',_⟩;exact⟨v,rfl,i,ai,R'⟩
end
noncomputable section
def QI (n c:Nat) (a:Nat):Nat->Option Nat:=Nat.rec (motive:=λ_=>Nat->Option Nat) (λ_=>none) (λ_ b i=>Bool.casesOn (motive:=λ_=>Option Nat) (Nat.beq (Nat.mod (Nat.shiftRight n (Nat.mul 8 i)) 256) c) (b (Nat.succ i)) (some i)) a
def aix (k:IntKind):Bool:=match k with
 | .u8=>true
 |_=>false
def Wx (b:Nat) (f:Nat) (d:List GV):Option GV:=bif Nat.beq f b then List.casesOn (motive:=λ_=>Option GV) d none (λa r=>List.casesOn (motive:=λ_=>Option GV) r none λc r=>List.casesOn (motive:=λ_=>Option GV) r (ob a.asStr λs=>ob c.asI λp=>ob (asN p.2) λk=>
 bif aix p.1 then(bif Nat.blt k 256 then Option.casesOn (motive:=λ_=>Option GV) (QI s.1 k s.2 0) (some (.int .i64 (.negSucc 0))) (λi=>some (.int .i64 (.ofNat i)))else none)else none) λ_ _=>none)else none
theorem Sq (x:List UInt8) (c:Nat) (m:c<256):∀k i,i+k=x.length->(match QI (lD x) c k i with|none=>(-1:Int)|some j=>(j:Int))=(if Lib.indexByte (x.drop i) c.toUInt8 = -1 then -1 else Lib.indexByte (x.drop i) c.toUInt8+i)
 |0,i,h=>by
  rw[List.drop_of_length_le (by omega)];simp[QI,Lib.indexByte]
 | k + 1, i, h => by
  have o:=Sq x c m k (i+1) (by omega);have g:i<x.length:=by omega
  have e:QI (lD x) c (k+1) i=Bool.casesOn (motive:=λ_=>Option Nat) (Nat.beq (Nat.mod (Nat.shiftRight (lD x) (Nat.mul 8 i)) 256) c) (QI (lD x) c k (i+1)) (some i):=rfl;rw[e,Sf x i g,List.drop_eq_getElem_cons g];have a:(x[i]).toNat=c↔x[i]=c.toUInt8:=by
   rw[<-UInt8.toNat_inj];have:c.toUInt8.toNat=c:=by simp[Nat.toUInt8];omega
   rw[this]
  unfold Lib.indexByte;cases d:Nat.beq (x[i]).toNat c with
  |true=>
   have:=a.1 (Nat.eq_of_beq_eq_true d);simp[this]
  | false =>
   have f:¬x[i]=c.toUInt8:=λl=>by
    have:=a.2 l;rw[this]at d;simp at d
   have n:=Lib.indexByte_ge (x.drop (i+1)) c.toUInt8;simp only[beq_iff_eq,f,if_false];rw[o];by_cases b:Lib.indexByte (x.drop (i+1)) c.toUInt8 = -1
   ·simp[b]
   ·rw[if_neg b,if_neg b,if_neg (by omega)]
    push_cast;omega
section
variable {P:Program} {gs:xR} {w0:d_ gs}
theorem ZW {u:Nat} {l:Func} (F:P.funcs[u]? = some l) (e:(l.name == "runtime.NumGoroutine")=false) (D:l.body.isNone=true) (I:Extern.findNext l=none) (E:Extern.find l=some Extern.BytealgIndexByte.indexByte)
  {f:Nat} {i:List GV} {g:GV} (h:Wx u f i=some g) (q:dG) (w:World) (o:List Value) (H:GH) (R:eQ w0 q H w) (m:n_ q i o):jX P w0 q f o w g H:=by
 unfold Wx at h;replace h:=bL.1 h;have C:=Nat.eq_of_beq_eq_true h.1;replace h:=h.2;subst C;cases i with
 |nil=>cases h
 |cons a i=>
 cases i with
 |nil=>cases h
 |cons c i=>
 cases i with
 |cons _ _=>cases h
 |nil=>
 obtain⟨s,L,h⟩:=aB.1 (show ob a.asStr _=some g from h);obtain⟨p,J,h⟩:=aB.1 h;obtain⟨k,G,h⟩:=aB.1 h;obtain⟨x,h⟩:=bL.1 h;obtain⟨d,h⟩:=bL.1 h;obtain⟨v,o,rfl,y,m⟩:=m.of_cons;obtain⟨N,o,rfl,b,m⟩:=m.of_cons;rw[m.of_nil];rw[oQ L]at y;rw[m_ J]at b;obtain⟨S,rfl,A,M⟩:=y.str_inv;have b:=b.int_inv;subst b;have t:p.1 = .u8:=by cases K:p.1<;>rw[K]at x<;>first|rfl|cases x
 have r:p.2=(k:Int):=Gy G;have d:k<256:=by simpa using d
 refine .inl ⟨.int .i64 (Lib.indexByte S.data.toList p.2.toNat.toUInt8),w,q,?_,dG.le_refl _,R,?_⟩
 ·rw[run_callFunc_extern F e D I E,t,Lib.run_indexByteString];rfl
 ·have n:=Sq (bH S) k d s.2 0 (by omega);rw[A]at h;rw[List.drop_zero]at n;have B:Lib.indexByte S.data.toList p.2.toNat.toUInt8=(match QI (lD (bH S)) k s.2 0 with|none=>(-1:Int)|some j=>(j:Int)):=by
   rw[n,r];have:bH S=S.data.toList:=rfl;rw[this];simp only[Int.toNat_natCast];split
   ·assumption
   ·omega
  rw[B];cases z:QI (lD (bH S)) k s.2 0 with
  |none=>rw[z]at h;cases h;exact .int _ _
  |some j=>rw[z]at h;cases h;exact .int _ _
end
end
noncomputable section
def acH {a:Type} (c:Nat) (d:List GV->Option a) (n:Nat):List GV->Option (List a):=Nat.rec (motive:=λ_=>List GV->Option (List a)) (λ_=>some []) (λ_ e b=>ob (d (b.take c)) λy=>ob (e (b.drop c)) λf=>some (y::f)) n
def Mg {b:Type} (H:GH) (a:Nat) (d:List GV->Option b) (v:GV):Option (List b):=ob (rR H a v) λp=>bif Nat.ble p.1 1099511627776 then acH a d p.1 p.2 else none
def dI (k:IntKind) (a:List GV):Option Int:=List.casesOn (motive:=λ_=>Option Int) a none λc r=>List.casesOn (motive:=λ_=>Option Int) r (ob c.asI λp=>bif decide (p.1=k)then some p.2 else none) λ_ _=>none
def dP {b c:Type} (n:Nat) (d:List GV->Option b) (e:List GV->Option c) (a:List GV):Option (b×c):=ob (d (a.take n)) λx=>ob (e (a.drop n)) λy=>some (x,y)
def dS {a:Type} (H:GH) (e:Nat) (d:List GV->Option a) (b:List GV):Option (List a):=List.casesOn (motive:=λ_=>Option (List a)) b none λc r=>List.casesOn (motive:=λ_=>Option (List a)) r (Mg H e d c) λ_ _=>none
end
section
variable {P:Program} {gs:xR} {w0:d_ gs} {w:World} {ρ:dG} {H:GH} {S:Nat->Prop}
def All (_:Nat):Prop:=True
def gS {b c:Type} (S:Nat->Prop) (ρ:dG) (w:World) (d:List GV->Option c) (r:eD b) (e:b->c):Prop:=∀gs a y,n_ ρ gs a->d gs=some y->gs.length=r.sz->∃z,e z=y∧r.R w S a z
theorem gS.int (k:IntKind):gS S ρ w (dI k) (eD.int k) id:=λgs f y b h _=>by
 cases gs with
 |nil=>cases h
 |cons c gs=>
 cases gs with
 |cons _ _=>cases h
 |nil=>
 obtain⟨p,e,h⟩:=aB.1 (show ob c.asI _=some y from h);obtain⟨a,h⟩:=bL.1 h;cases h;obtain⟨v,f,rfl,d,b⟩:=b.of_cons;rw[b.of_nil];rw[m_ e]at d;rw[d.int_inv];have a:=of_decide_eq_true a;exact⟨p.2,rfl,by rw[a];rfl⟩
theorem gS.pair {q t b c:Type} {d:List GV->Option b} {e:List GV->Option c} {r:eD q} {s:eD t} {m:q->b} {n:t->c} (u:gS S ρ w d r m) (A:gS S ρ w e s n):gS S ρ w (dP r.sz d e) (eD.pair r s) (λz=>(m z.1,n z.2)):=λgs l y f h p=>by
 obtain⟨x,B,h⟩:=aB.1 (show ob (d (gs.take r.sz)) _=some y from h);obtain⟨F,j,h⟩:=aB.1 h;cases h;have p:gs.length=r.sz+s.sz:=p;have E:=f.len;obtain⟨z,rfl,C⟩:=u _ (l.take r.sz) _ (by simpa using f.sub 0 r.sz) B (by simp;omega);obtain⟨D,rfl,k⟩:=A _ (l.drop r.sz) _ ⟨by simp;omega,λi g v o a=>by rw[List.getElem?_drop]at o a;exact f.at' _ _ _ o a⟩ j (by simp;omega);exact⟨(z,D),rfl,_,_,(List.take_append_drop r.sz l).symm,C,k⟩
theorem Sd {C D:Type} {d:List GV->Option D} {r:eD C} {E:C->D} (F:gS S ρ w d r E) (b:Nat):∀(n:Nat) (f:List GV) (m:List Value) (a:Nat) (l:List D),acH r.sz d n f=some l->n_ ρ f m->f.length=n*r.sz->(∀(j:Nat) x,m[j]? = some x->w.cell? ⟨b,a+j,none⟩=some x)->
  ∃p:List C,p.map E=l∧p.length=n∧∀(i:Nat) z,p[i]? = some z->∃q,(∀(j:Nat) e,q[j]? = some e->w.cell? ⟨b,a+(i*r.sz+j),none⟩=some e)∧r.R w S q z
 |0,f,m,a,l,h,hr,hl,hc=>by
  cases h;exact⟨[],rfl,rfl,λi z t=>by simp at t⟩
 | n + 1, f, m, a, l, h, hr, hl, hc => by
  obtain⟨y,M,h⟩:=aB.1 (show ob (d (f.take r.sz)) (λy=>ob (acH r.sz d n (f.drop r.sz)) λl=>some (y::l))=some l from h);obtain⟨B,s,h⟩:=aB.1 h;cases h;rw[Nat.succ_mul]at hl;have O:=hr.len;obtain⟨z,rfl,t⟩:=F _ (m.take r.sz) _ (by simpa using hr.sub 0 r.sz) M (by simp;omega);obtain⟨p,rfl,u,A⟩:=Sd F b n (f.drop r.sz) (m.drop r.sz) (a+r.sz) B s ⟨by simp;omega,λi g v G o=>by rw[List.getElem?_drop]at G o;exact hr.at' _ _ _ G o⟩ (by simp;omega) (λj x J=>by
   rw[List.getElem?_drop]at J;rw[Nat.add_assoc];exact hc _ _ J)
  refine⟨z::p,rfl,by simp[u],λi N c=> ?_⟩
  cases i with
  | zero =>
   simp at c;subst c;refine⟨_,λj e k=> ?_,t⟩
   rw[List.getElem?_take]at k;by_cases I:j<r.sz
   ·rw[if_pos I]at k;have:=hc j e k;simpa using this
   ·rw[if_neg I]at k;cases k
  |succ i=>
   simp at c;obtain⟨q,K,L⟩:=A i N c;refine⟨q,λj e k=> ?_,L⟩
   have:=K j e k;rw[Nat.succ_mul];rw[show a+(i*r.sz+r.sz+j)=a+r.sz+(i*r.sz+j) by omega];exact this
theorem NW (R:eQ w0 ρ H w) {v:GV} {V:Value} {B:Nat} {p:Nat×List GV} (t:Rl ρ v V) (h:rR H B v=some p):
  p.2.length=p.1*B∧∃a c,V = .slice a p.1 c∧p.1<=c∧(p.1=0∨∃b i o,a=some ⟨b,i,none⟩∧w0.mine b∧n_ ρ p.2 o∧∀(j:Nat) x,o[j]? = some x->w.cell? ⟨b,i+j,none⟩=some x):=by
 obtain⟨o,C⟩:=BL R t h;refine⟨by rw[C.rel.len,C.len],?_⟩
 obtain⟨f,c,y,D,F⟩:=C.val;refine⟨f,c,y,D,?_⟩
 rcases F with⟨_,m,_⟩|⟨A,rfl,d⟩
 ·exact .inl m
 ·by_cases m:p.1=0
  ·exact .inl m
  ·refine .inr ?_;unfold rR at h;cases z:v.isSnil with
   |true=>rw[z]at h;cases h;exact absurd Z m
   | false =>
    rw[z]at h;obtain⟨s,I,h⟩:=aB.1 (show ob v.asS _=some p from h);rw[AV I,y]at t;obtain⟨l,u,K,G,e,E,n⟩:=t.sl_inv;injection e with k M N;injection k with k;rcases n with n|⟨n,_⟩
    ·omega
    ·rw[n]at k;subst k;have r:w0.mine l.b:=by
      obtain⟨_,h⟩:=bL.1 h;obtain⟨L,q,_⟩:=aB.1 h;obtain⟨O,g,r,_⟩:=R.live _ _ (iA.1 q);rw[G]at g;cases g;exact r
     exact⟨l.b,l.off+s.2.1,o,rfl,r,C.rel,λj x J=>by have:=d j x J;rwa[dM]at this⟩
theorem BM {m n:Type} {d:List GV->Option n} {r:eD m} {o:m->n} (R:eQ w0 ρ H w) (t:∀k,w0.mine k->S k) (u:gS S ρ w d r o) {v:GV} {V:Value} {j:List n} (B:Rl ρ v V) (h:Mg H r.sz d v=some j):∃l:List m,l.map o=j∧Gl r w S V l:=by
 obtain⟨p,z,h⟩:=aB.1 (show ob (rR H r.sz v) _=some j from h);obtain⟨g,h⟩:=bL.1 h;have g:p.1<=1099511627776:=by simpa using g
 obtain⟨i,a,f,rfl,E,x⟩:=NW R B z;rcases x with q|⟨b,e,D,rfl,y,A,c⟩
 ·rw[q]at h;cases h;exact⟨[],rfl,a,f,by rw[q];rfl,by simp,.inl Z⟩
 ·obtain⟨l,rfl,s,C⟩:=Sd u b p.1 p.2 D e j h A i c;exact⟨l,rfl,some ⟨b,e,none⟩,f,by rw[s],by rw[s];omega,.inr ⟨b,e,rfl,t b y,C⟩⟩
theorem gS.sl {e f:Type} {d:List GV->Option f} {r:eD e} {b:e->f} (R:eQ w0 ρ H w) (g:∀k,w0.mine k->S k) (i:gS S ρ w d r b):gS S ρ w (dS H r.sz d) (eD.sl r) (λz=>z.2.map b):=λgs vs y a h n=>by
 cases gs with
 |nil=>cases h
 |cons c gs=>
 cases gs with
 |cons _ _=>cases h
 |nil=>
 have h:Mg H r.sz d c=some y:=h;obtain⟨v,vs,rfl,j,a⟩:=a.of_cons;rw[a.of_nil];obtain⟨m,rfl,l⟩:=BM R g i j h;exact⟨(v,m),rfl,rfl,l⟩
end
noncomputable section
def tQ {c:Type} (e:Nat) (g:c->List GV) (a:List (List c)):GH->List GV×GH:=List.rec (motive:=λ_=>GH->List GV×GH) (λH=>([],H)) (λb _ d H=>let r:=d (H.new (.cells (b.flatMap g)));(.sl H.n 0 b.length e::r.1,r.2)) a
end
section
variable {P:Program} {gs:xR} {w0:d_ gs} {w:World} {ρ:dG} {H:GH}
def En (ρ:dG) (H:GH) (B:Nat->Prop):Prop:=∀h o l,H.get h=some o->ρ h=some l->¬B l.b
theorem En.mono {B b:Nat->Prop} (h:En ρ H B) (f:∀k,b k->B k):En ρ H b:=λa o l c d e=>h a o l c d (f _ e)
theorem En.start (R:eQ w0 ρ H w):En ρ H (λk=>w.heap.size<=k):=λh o l b c e=>by
 obtain⟨f,a,_,d⟩:=R.live h o b;rw[c]at a;cases a;have:=d.lt;omega
theorem GL {N:Type} {e:cO N} {d:List N} {cs:List GV} {v:Value} {B F:Nat->Prop} (R:eQ w0 ρ H w) (A:En ρ H B) (U:∀k,B k->w0.mine k) (s:∀k,F k->B k) (V:Cy e w F v d) (E:d≠[]) (t:n_ ρ cs (cellsOf e d)):
  ∃f,ρ.le f∧eQ w0 f (H.new (.cells cs)) w∧Rl f (.sl H.n 0 d.length e.sz) v∧En f (H.new (.cells cs)) (λk=>B k∧¬F k):=by
 obtain⟨_,y,W⟩:=V;rcases W with⟨_,S⟩|⟨b,p,r,T,c,rfl,C,I,D,G,a⟩
 ·exact absurd S E
 have M:(cellsOf e d).length=d.length*e.sz:=by
  rw[<-a];simp;have:d.length*e.sz<=r*e.sz:=Nat.mul_le_mul_right _ D;omega
 have u:ρ.le (ρ.upd H.n ⟨b,p,c.size,.cells c T (0,0),.cells cs⟩):=wO (R.fresh _ (Nat.le_refl _));have J:d.length*e.sz<=r*e.sz:=Nat.mul_le_mul_right _ D;obtain⟨_,O⟩:=R.new (o:= .cells cs) (l:=⟨b,p,c.size,.cells c T (0,0),.cells cs⟩) R.ext (λh o' Y j m=>⟨rfl,λQ=>A h o' Y j m (by rw[Q];exact s _ C)⟩) (U _ (s _ C)) ⟨c,T,I,rfl,by
   show p+cs.length<=c.size;have:=t.len;omega,λi g j=>by
   obtain⟨x,q,X⟩:=t.get j;refine⟨x,?_,X.le u,List.all_eq_true.1 y x (List.mem_of_getElem? q)⟩
   rw[<-a,List.getElem?_take]at q;by_cases K:i<d.length*e.sz
   ·rw[if_pos K,List.getElem?_drop,Array.getElem?_toList]at q;exact q
   ·rw[if_neg K]at q;cases q⟩ I
 refine⟨_,u,O,.sl (by simp[dG.upd];rfl) D (.inr ⟨rfl,G⟩),λh o l j m L=> ?_⟩
 rw[pJ]at j;by_cases z:h=H.n
 ·rw[z]at m;simp[dG.upd]at m;subst m;exact L.2 C
 ·rw[if_neg z]at j;simp only[dG.upd,if_neg z]at m;exact A h o l j m L.1
theorem Mk {b:Type} {e:cO b} {g:b->List GV} (c:∀x,n_ ρ (g x) (e.enc x)):∀a:List b,n_ ρ (a.flatMap g) (cellsOf e a)
 | []=> .nil
 |x::a=>(c x).append (Mk c a)
theorem Js {o:Type} {e:cO o} {g:o->List GV} (r:∀ρ x,n_ ρ (g x) (e.enc x)):∀(a:List (List o)) (vs:List Value) (G:Nat->Nat->Prop) (B:Nat->Prop) (ρ:dG) (H:GH),eQ w0 ρ H w->En ρ H B->(∀k,B k->w0.mine k)->vs.length=a.length->
  (∀xs∈a,xs≠[])->(∀i v xs,vs[i]? = some v->a[i]? = some xs->Cy e w (G i) v xs)->(∀i k,G i k->B k)->(∀i j k,G i k->G j k->i=j)->
  ∃c,ρ.le c∧eQ w0 c (tQ e.sz g a H).2 w∧n_ c (tQ e.sz g a H).1 vs∧En c (tQ e.sz g a H).2 (λk=>B k∧∀i,¬G i k)
 | [],vs,G,B,ρ,H,R,A,hB,hl,_,h1,h2,h3=>by
  have:vs=[]:=List.eq_nil_of_length_eq_zero hl;subst this;exact⟨ρ,dG.le_refl _,R,.nil,A.mono λk b=>b.1⟩
 |xs::a,[],G,B,ρ,H,R,A,hB,hl,_,h1,h2,h3=>by simp at hl
 |xs::a,v::vs,G,B,ρ,H,R,A,hB,hl,hne,h1,h2,h3=>by
  obtain⟨p,f,u,F,s⟩:=GL R A hB (h2 0) (h1 0 v xs Z Z) (hne xs (by simp)) (Mk (r ρ) xs);obtain⟨q,d,z,l,t⟩:=Js r a vs (λi=>G (i+1)) _ p _ u s (λk b=>hB k b.1) (by simpa using hl) (λy I=>hne y (by simp[I])) (λi J n h m=>h1 (i+1) J n (by simpa using h) (by simpa using m)) (λi k b=>⟨h2 _ k b,λC=>by have:=h3 _ _ k b C;omega⟩) (λi j k D E=>by have:=h3 _ _ k D E;omega);refine⟨q,dG.le_trans f d,z,.cons (F.le d) l,t.mono λk b=>⟨⟨b.1,b.2 0⟩,λi=>b.2 (i+1)⟩⟩
theorem K_:∀vs:List Value,cellsOf cO.raw vs=vs
 | []=>rfl
 |v::vs=>by show v::cellsOf cO.raw vs=_;rw[K_ vs]
end
end Go.Gx