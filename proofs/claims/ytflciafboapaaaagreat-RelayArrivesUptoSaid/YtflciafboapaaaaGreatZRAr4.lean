/- Models and proofs. Conditions: none. -/
import Derived.Test.YtflciafboapaaaaGreatZRAr3
import Derived.RecoverIn
import Derived.Lib.Bytealg
set_option linter.unusedVariables false
set_option linter.unusedSimpArgs false
set_option maxHeartbeats 4000000
set_option maxRecDepth 20000
open Go.Proofs.Tryz
namespace Go.Gx
open Go Go.Sx Go.RowKit
section
variable {R α:Type}
theorem BI (r:OR) (k:GV->GH->V1 R):fN r k=fN (fN r Iq) k:=by
 cases r with
 |none=>rfl
 |some p=>rfl
theorem eO (x:V1 α) {f:α->V1 R} {g:α->OR} {k:GV->GH->V1 R} (h:∀a,f a=fN (g a) k):ob x f=fN (ob x g) k:=by
 cases x with
 |none=>rfl
 |some a=>exact h a
theorem afb {n:TB} {s:CH} {d:GF} {H:GH} (o:Op) (k:GV->GH->V1 R):Sg n s o d H k=fN (Sg n s o d H Iq) k:=by
 have e:∀x (f:GV->V1 GV),k1 x f d H k=fN (k1 x f d H Iq) k:=λx f=>eO _ λx=>eO _ λv=>eO _ λg=>rfl;have j:∀x y (f:GV->GV->V1 GV),k2 x y f d H k=fN (k2 x y f d H Iq) k:=λx y f=>eO _ λx=>eO _ λv=>eO _ λu=>eO _ λg=>rfl;have B:∀x y z (f:GV->GV->GV->V1 GV),k3 x y z f d H k=fN (k3 x y z f d H Iq) k:=λx y z f=>eO _ λx=>eO _ λv=>eO _ λu=>eO _ λt=>eO _ λg=>rfl;cases o with
 |move x=>exact eO _ λv=>rfl
 |assign x=>exact eO _ λv=>rfl
 |pick c x y=>exact B _ _ _ _
 |alloc T=>exact BI _ _
 |box T x=>exact eO _ λv=>BI _ _
 |build T G=>exact eO _ λJ=>eO _ λg=>rfl
 |buildSlice T m G=>exact eO _ λx=>BI _ _
 |load T x=>exact eO _ λv=>eO _ λg=>rfl
 |store T x y=>exact eO _ λv=>eO _ λu=>BI _ _
 |nilCheck x=>exact e _ _
 |binOp F T x y A=>exact j _ _ _
 |unOp F T x=>exact e _ _
 |convert S D x=>exact e _ _
 |makeFunc C first r=>
  cases C with
  |func f=>exact eO _ λI=>eO _ λJ=>rfl
  |_=>rfl
 |makeMap T q=>
  cases q with
  |none=>exact BI _ _
  |some x=>rfl
 |makeSlice T x y=>exact eO _ λv=>eO _ λu=>BI _ _
 |slice T x L K E=>
  cases E with
  |none=>exact eO _ λv=>eO _ λl=>eO _ λh=>eO _ λg=>rfl
  |some y=>rfl
 |fieldAddr T x f=>exact e _ _
 |field T x f=>exact e _ _
 |indexAddr T x y=>exact j _ _ _
 |index T x y=>exact j _ _ _
 |lookup T x y M=>exact eO _ λv=>eO _ λu=>eO _ λg=>rfl
 |mapUpdate T x y z=>exact eO _ λv=>eO _ λu=>eO _ λt=>BI _ _
 |extract x i=>exact e _ _
 | call c =>
  have⟨p,a,w⟩:=c;cases p with
  |value f=>exact eO _ λv=>eO _ λg=>eO _ λI=>BI _ _
  |invoke x m=>rfl
  | builtin b =>
   show VE n a w b d H k=fN (VE n a w b d H Iq) k;have⟨a⟩:=a;cases b with
   |len=>
    match a with
    | []=>rfl
    | [x]=>exact eO _ λT=>eO _ λv=>eO _ λg=>rfl
    |_::_::_=>rfl
   |max=>
    match a with
    | []=>rfl
    | [x]=>rfl
    | [x,y]=>exact j _ _ _
    |_::_::_::_=>rfl
   |min=>
    match a with
    | []=>rfl
    | [x]=>rfl
    | [x,y]=>exact j _ _ _
    |_::_::_::_=>rfl
   |append=>
    match a with
    | []=>rfl
    | [x]=>rfl
    | [x,y]=>exact eO _ λT=>eO _ λA=>eO _ λv=>eO _ λu=>BI _ _
    |_::_::_::_=>rfl
   |copy=>
    match a with
    | []=>rfl
    | [x]=>rfl
    | [x,y]=>exact eO _ λT=>eO _ λv=>eO _ λu=>BI _ _
    |_::_::_::_=>rfl
   |cap=>
    match a with
    | []=>rfl
    | [x]=>exact eO _ λT=>eO _ λv=>eO _ λg=>rfl
    |_::_::_=>rfl
   |_=>rfl
 |_=>rfl
theorem Fg {b a:GF}:∀{xs:V6 V3},(∀x∈xs,lH b x=lH a x)->IL b xs=IL a xs
 | [],_=>rfl
 |x::xs,h=>by
  show ob (lH b x) (λv=>ob (IL b xs) λc=>some (v::c))=ob (lH a x) (λv=>ob (IL a xs) λc=>some (v::c));rw[h x zAd,Fg λy d=>h y (zAk _ d)]
theorem Fh {b a:GF}:∀{xs:V6 (Nat×V3)},(∀x∈xs,lH b x.2=lH a x.2)->xU b xs=xU a xs
 | [],_=>rfl
 |x::xs,h=>by
  show ob (lH b x.2) (λv=>ob (xU b xs) λc=>some ((x.1,v)::c))=ob (lH a x.2) (λv=>ob (xU a xs) λc=>some ((x.1,v)::c));rw[h x zAd,Fh λy d=>h y (zAk _ d)]
theorem ND {b a:GF} {o:V1 V3} (h:∀x∈o.toArray,lH b x=lH a x):Kz b o=Kz a o:=by
 cases o with
 |none=>rfl
 |some x=>
  show ob (lH b x) (λv=>some (some v))=ob (lH a x) (λv=>some (some v));rw[h x V8]
theorem YZ {n:TB} {G:CH} {j a:GF} {H:GH} {o:Op} {k:GV->GH->V1 R} (h:∀x∈o.operands,lH j x=lH a x):Sg n G o j H k=Sg n G o a H k:=by
 have s:∀x (f:GV->V1 GV),lH j x=lH a x->k1 x f j H k=k1 x f a H k:=λx f e=>by simp only[k1,ob,e]
 have t:∀x y (f:GV->GV->V1 GV),lH j x=lH a x->lH j y=lH a y->k2 x y f j H k=k2 x y f a H k:=λx y f e w=>by simp only[k2,ob,e,w]
 have J:∀x y z (f:GV->GV->GV->V1 GV),lH j x=lH a x->lH j y=lH a y->lH j z=lH a z->k3 x y z f j H k=k3 x y z f a H k:=λx y z f e w A=>by simp only[k3,ob,e,w,A]
 cases o with
 |move x=>show LF x j H k=LF x a H k;simp only[LF,ob,h x (by simp[Op.operands])]
 |assign x=>show LF x j H k=LF x a H k;simp only[LF,ob,h x (by simp[Op.operands])]
 |pick c x y=>exact J _ _ _ _ (h _ (by simp[Op.operands])) (h _ (by simp[Op.operands])) (h _ (by simp[Op.operands]))
 |alloc T=>rfl
 |box T x=>show afj x j H k=afj x a H k;simp only[afj,ob,h x (by simp[Op.operands])]
 | build T ps =>
  show ob (xU j ps.toList) _=ob (xU a ps.toList) _;rw[Fh λx d=>h x.2 (by
   have:x∈ps:=by simpa using d
   simp only[Op.operands,List.mem_toArray,zAr];exact⟨x,d,rfl⟩)]
 | buildSlice T m ps =>
  show ob (xU j ps.toList) _=ob (xU a ps.toList) _;rw[Fh λx d=>h x.2 (by
   simp only[Op.operands,List.mem_toArray,zAr];exact⟨x,d,rfl⟩)]
 |load T x=>show Xu n T x j H k=Xu n T x a H k;simp only[Xu,ob,h x (by simp[Op.operands])]
 |store T x y=>show Rk n T x y j H k=Rk n T x y a H k;simp only[Rk,ob,h x (by simp[Op.operands]),h y (by simp[Op.operands])]
 |nilCheck x=>exact s _ _ (h _ (by simp[Op.operands]))
 |binOp L T x y M=>exact t _ _ _ (h _ (by simp[Op.operands])) (h _ (by simp[Op.operands]))
 |unOp L T x=>exact s _ _ (h _ (by simp[Op.operands]))
 |convert S D x=>exact s _ _ (h _ (by simp[Op.operands]))
 | makeFunc fn first caps =>
  cases fn with
  | func f =>
   show ob (IL j first.toList) _=ob (IL a first.toList) _;rw[Fg λx d=>h x (by simp only[Op.operands,Array.mem_append];exact .inl (by simpa using d)),
    Fg (xs:=caps.toList) λx d=>h x (by simp only[Op.operands,Array.mem_append];exact .inr (by simpa using d))]
  |_=>rfl
 |makeMap T q=>
  cases q with
  |none=>rfl
  |some x=>rfl
 |makeSlice T x y=>show Xw n T x y j H k=Xw n T x y a H k;simp only[Xw,ob,h x (by simp[Op.operands]),h y (by simp[Op.operands])]
 | slice T x lo hi mx =>
  cases mx with
  |none=>
   show ob (some x) (λx=>ob (lH j x) λv=>ob (Kz j lo) λl=>ob (Kz j hi) λh=>ob (DD n T v l h H) λg=>k g H)=ob (some x) (λx=>ob (lH a x) λv=>ob (Kz a lo) λl=>ob (Kz a hi) λh=>ob (DD n T v l h H) λg=>k g H);have C:Kz j lo=Kz a lo:=ND λy F=>h y (by simp only[Op.operands,Array.mem_append];exact .inl (.inl (.inr F)));have B:Kz j hi=Kz a hi:=ND λy F=>h y (by simp only[Op.operands,Array.mem_append];exact .inl (.inr F));have d:lH j x=lH a x:=h x (by simp only[Op.operands,Array.mem_append];exact .inl (.inl (.inl V8)));simp only[ob,C,B,d]
  |some y=>rfl
 |fieldAddr T x f=>exact s _ _ (h _ (by simp[Op.operands]))
 |field T x f=>exact s _ _ (h _ (by simp[Op.operands]))
 |indexAddr T x y=>exact t _ _ _ (h _ (by simp[Op.operands])) (h _ (by simp[Op.operands]))
 |index T x y=>exact t _ _ _ (h _ (by simp[Op.operands])) (h _ (by simp[Op.operands]))
 |lookup T x y I=>show Xv n T x y I j H k=Xv n T x y I a H k;simp only[Xv,ob,h x (by simp[Op.operands]),h y (by simp[Op.operands])]
 |mapUpdate T x y z=>show Rj n T x y z j H k=Rj n T x y z a H k;simp only[Rj,ob,h x (by simp[Op.operands]),h y (by simp[Op.operands]),h z (by simp[Op.operands])]
 |extract x i=>exact s _ _ (h _ (by simp[Op.operands]))
 | call c =>
  have⟨u,p,r⟩:=c;cases u with
  |value f=>
   have K:lH j f=lH a f:=h f (by simp[Op.operands,Call.operands]);have E:IL j p.toList=IL a p.toList:=Fg λx d=>h x (by simp[Op.operands,Call.operands];exact .inr (by simpa using d));show ob (lH j f) _=ob (lH a f) _;simp only[ob,K,E]
  |invoke x m=>rfl
  | builtin b =>
   show VE n p r b j H k=VE n p r b a H k;have d:∀x∈p,lH j x=lH a x:=λx d=>h x (by simp[Op.operands,Call.operands];exact d);have⟨p⟩:=p;cases b with
   |len=>
    match p,d with
    | [],_=>rfl
    | [x],d=>show Zg n r.toList x j H k=Zg n r.toList x a H k;simp only[Zg,ob,d x V8]
    |_::_::_,_=>rfl
   |max=>
    match p,d with
    | [],_=>rfl
    | [x],_=>rfl
    | [x,y],d=>exact t _ _ _ (d _ V8) (d _ V8)
    |_::_::_::_,_=>rfl
   |min=>
    match p,d with
    | [],_=>rfl
    | [x],_=>rfl
    | [x,y],d=>exact t _ _ _ (d _ V8) (d _ V8)
    |_::_::_::_,_=>rfl
   |append=>
    match p,d with
    | [],_=>rfl
    | [x],_=>rfl
    | [x,y],d=>show abG n r.toList x y j H k=abG n r.toList x y a H k;simp only[abG,ob,d x V8,d y V8]
    |_::_::_::_,_=>rfl
   |copy=>
    match p,d with
    | [],_=>rfl
    | [x],_=>rfl
    | [x,y],d=>show Tv n r.toList x y j H k=Tv n r.toList x y a H k;simp only[Tv,ob,d x V8,d y V8]
    |_::_::_::_,_=>rfl
   |cap=>
    match p,d with
    | [],_=>rfl
    | [x],d=>show Zf n r.toList x j H k=Zf n r.toList x a H k;simp only[Zf,ob,d x V8]
    |_::_::_,_=>rfl
   |_=>rfl
 |_=>rfl
end
noncomputable def HS (c:TB) (b:CH) (all:V6 V5) (o:V5) (a:GF) (H:GH):OR:=Option.casesOn (motive:=λ_=>OR) o.guard (Sg c b o.op a H Iq) λg=>ob (Kh all g.1) λe=>ob e.dst λd=>ob (HT a d) λv=>evG c b o ⟨a,H⟩ g.2 v
theorem aeW {b:TB} {a:CH} {all:V6 V5} {o:V5} {k:GS->RS} {s:GS}:Nw b a all o k s=fN (HS b a all o s.σ s.H) (opK o.dst s k):=by
 unfold Nw HS;cases o.guard with
 |none=>exact afb _ _
 |some g=>exact eO _ λd=>eO _ λc=>eO _ λv=>rfl
theorem Hu {d:TB} {c:CH} {all:V6 V5} {o:V5} {k:GS->RS} {s:GS} {a:SE} (h:Nw d c all o k s=some a):∃g b,HS d c all o s.σ s.H=some (g,b)/\k ⟨putD o.dst g s.σ,b⟩=some a:=by
 rw[aeW]at h;have⟨g,b,e,f⟩:=nP h;exact⟨g,b,e,f⟩
theorem Vt {c:TB} {b:CH} {all:V6 V5} {o:V5} {d a:GF} {H:GH} (h:∀t∈o.looksAt all.toArray,HT d t=HT a t):HS c b all o d H=HS c b all o a H:=by
 have e:Sg c b o.op d H Iq=Sg c b o.op a H Iq:=YZ λx l=>by
  cases x with
  |tmp t=>exact h t (List.mem_append_left _ (List.mem_filterMap.2 ⟨.tmp t,by simpa using l,rfl⟩))
  |_=>rfl
 unfold HS;cases j:o.guard with
 |none=>exact e
 | some g =>
  show ob (Kh all g.1) _=ob (Kh all g.1) _;cases f:Kh all g.1 with
  |none=>rfl
  | some oj =>
   show ob oj.dst _=ob oj.dst _;cases i:oj.dst with
   |none=>rfl
   | some dj =>
    have k:dj∈o.looksAt all.toArray:=by
     rw[xV]at f;simp[Oper.looksAt,j,f,i]
    show ob (HT d dj) (λv=>evG c b o ⟨d,H⟩ g.2 v)=ob (HT a dj) (λv=>evG c b o ⟨a,H⟩ g.2 v);rw[h dj k];cases HT a dj with
    |none=>rfl
    | some v =>
     show evG c b o ⟨d,H⟩ g.2 v=evG c b o ⟨a,H⟩ g.2 v;cases v with
     |bool q=>
      show Bool.casesOn (motive:=λ_=>OR) (Xo q g.2) (some (.un,H)) (Sg c b o.op d H Iq)=Bool.casesOn (motive:=λ_=>OR) (Xo q g.2) (some (.un,H)) (Sg c b o.op a H Iq);rw[e]
     |_=>rfl
section
variable {P:Program} {tb:TB} {gs:Cf} {w0:fO gs}
theorem Ht {u:CH} {all:V6 V5} {n:Nat} {o:V5} {r:GF} {H k:GH} {g:GV} {ρ:fE} {a:Act} (F:mE ρ n r a) (h:HS tb u all o r H=some (g,k)):
  (Region.wanted o (yielded all.toArray a.tmps)=true/\Sg tb u o.op r H Iq=some (g,k))\/(Region.wanted o (yielded all.toArray a.tmps)=false/\g = .un/\k=H):=by
 unfold HS at h;cases l:o.guard with
 |none=>
  rw[l]at h;exact .inl ⟨by simp[Region.wanted,l],h⟩
 | some gd =>
  rw[l]at h;have⟨A,m,h⟩:=aE.1 (show ob (Kh all gd.1) _=some (g,k)from h);have⟨i,s,h⟩:=aE.1 h;have⟨v,y,j⟩:=aE.1 h;have e:=F.slot i v y;rw[xV]at m;have t:yielded all.toArray a.tmps gd.1=(match a.tmps[i]? with|some (.bool b)=>some b|_=>none):=by
   unfold yielded;have:(all.toArray[gd.1]?).bind (·.dst)=some i:=by simp[m,s]
   rw[this];rfl
  cases v with
  | bool q =>
   have d:=e.bool_inv;have x:a.tmps[i]?=some (.bool q):=by
    simp only[Act.eval,Array.getD_eq_getD_getElem?]at d;cases p:a.tmps[i]? with
    |none=>rw[p]at d;cases d
    |some z=>rw[p]at d;simp at d;rw[d]
   rw[x]at t;have c:Bool.casesOn (motive:=λ_=>OR) (Xo q gd.2) (some (.un,H)) (Sg tb u o.op r H Iq)=some (g,k):=j;rw[IJ]at c;have w:Region.wanted o (yielded all.toArray a.tmps)=(q==gd.2):=by
    simp only[Region.wanted,l];rw[t];cases q<;>cases gd.2<;>rfl
   cases f:(q==gd.2)with
   |true=>rw[f]at c;exact .inl ⟨by rw[w,f],c⟩
   |false=>rw[f]at c;cases c;exact .inr ⟨by rw[w,f],rfl,rfl⟩
  | un =>
   have d:=e.un_inv;cases j;refine .inr ⟨?_,rfl,rfl⟩;simp only[Region.wanted,l];rw[t];have:(match a.tmps[i]? with|some (.bool b)=>some b|_=>none)=(none:V1 V4):=by
    simp only[Act.eval,Array.getD_eq_getD_getElem?]at d;cases p:a.tmps[i]? with
    |none=>rfl
    |some z=>rw[p]at d;simp at d;rw[d];rfl
   rw[this];rfl
  |_=>cases j
theorem Mz {f:CH} (k:gQ P tb) (c:uP P w0 f) {all:V6 V5} {n:Nat} {o:V5} {e:GF} {H b:GH} {g:GV} {d:fE} {a:Act} {w:V2} (p:KP n o=true) (F:mE d n e a) (R:g_ w0 d H w) (h:HS tb f all o e H=some (g,b)):
  (Region.wanted o (yielded all.toArray a.tmps)=true/\Et P w0 d e a w o g H b)\/(Region.wanted o (yielded all.toArray a.tmps)=false/\g = .un/\b=H):=by
 have⟨_,_,j⟩:=wT p;rcases Ht F h with⟨r,l⟩|h
 .have⟨s,i,m,q⟩:=Vx k c F R j l;cases m;exact .inl ⟨r,q⟩
 .exact .inr h
def ada (tb:TB) (T:V9):V4:=match tb T with
 |some t=>(match t.desc with|.array .. =>false|_=>true)
 |none=>false
def pureOp (tb:TB):Op->V4
 | .move _ | .assign _ | .pick .. | .build .. | .nilCheck _ | .binOp .. | .unOp .. | .convert .. | .makeFunc .. | .fieldAddr .. | .field .. | .indexAddr .. | .index .. | .extract .. =>true
 | .slice T _ _ _ _=>ada tb T
 | .call ⟨.builtin .len,_,_⟩ | .call ⟨.builtin .max,_,_⟩ | .call ⟨.builtin .min,_,_⟩=>true
 |_=>false
def isFloat:Op->V4
 | .buildSlice .. | .alloc .. | .box .. | .makeSlice .. =>true
 |_=>false
theorem iS {b:fE} {g:GV} {s:Sem V0} {a:Act} {o:V5} (h:EP P b s g) (c:∀w v,s.run P w = .ok v w->(execOp a.eval o).run P w = .ok (.value v) w):∃v,Rl b g v/\∀w,(execOp a.eval o).run P w = .ok (.value v) w:=
 let ⟨v,hv,hr⟩:=h;⟨v,hv,λw=>c w v (hr w)⟩
theorem aby {ih:CH} (E:gQ P tb) {ρ:fE} {n:Nat} {s:GF} {a:Act} (F:mE ρ n s a) {o:V5} {H r:GH} {g:GV} (R:pureOp tb o.op=true) (aa:NY o.op=true) (h:Sg tb ih o.op s H Iq=some (g,r)):
  r=H/\∃v,Rl ρ g v/\∀w,(execOp a.eval o).run P w = .ok (.value v) w:=by
 have⟨d,W,J,ad,ac,gd⟩:=o;cases W with
 |move x=>
  have⟨v,q,h⟩:=aE.1 (show ob (lH s x) _=some (g,r)from h);cases h;exact⟨rfl,_,cV F q,λw=>by simp[execOp]⟩
 |assign x=>
  have⟨v,q,h⟩:=aE.1 (show ob (lH s x) _=some (g,r)from h);cases h;exact⟨rfl,_,cV F q,λw=>by simp[execOp]⟩
 |pick c x y=>
  have⟨v,q,h⟩:=aE.1 (show ob (lH s c) _=some (g,r)from h);have⟨u,C,h⟩:=aE.1 h;have⟨t,ht,h⟩:=aE.1 h;have⟨z,k,h⟩:=aE.1 h;cases h;have⟨b,hb,k⟩:=aE.1 (show ob v.asB _=some g from k);have Y:=cV F q;rw[Ef hb]at Y;cases b with
  |true=>cases k;exact⟨rfl,_,cV F C,λw=>by simp[execOp,Y.bool_inv,asBool]⟩
  |false=>cases k;exact⟨rfl,_,cV F ht,λw=>by simp[execOp,Y.bool_inv,asBool]⟩
 | build T ps =>
  have⟨vs,N,h⟩:=aE.1 (show ob (xU s ps.toList) _=some (g,r)from h);have⟨z,k,h⟩:=aE.1 h;cases h;exact⟨rfl,iS (Qk E (EB F N) k) (λw v j=>by
   have e:(ps.toList.map λp=>(p.1,a.eval p.2)).toArray=ps.map λp=>(p.1,a.eval p.2):=by apply Array.toList_inj.1;simp
   rw[e]at j;simp[execOp,j])⟩
 |nilCheck x=>
  have⟨v,q,h⟩:=aE.1 (show ob (lH s x) _=some (g,r)from h);have⟨z,k,h⟩:=aE.1 h;cases h;obtain⟨rfl,j⟩:=TI (P:=P) (cV F q) k;exact⟨rfl,_,cV F q,λw=>j _ x a.eval Z Z w⟩
 | binOp W T x y T' =>
  have⟨v,q,h⟩:=aE.1 (show ob (lH s x) _=some (g,r)from h);have⟨u,C,h⟩:=aE.1 h;have⟨z,k,h⟩:=aE.1 h;cases h;exact⟨rfl,iS (Yg E x y (cV F q) (cV F C) k) (λw v j=>by
   simp only[execOp];simp at j ⊢;cases V:Sem.run P (eqGuard W T x y (a.eval x) (a.eval y)) w with
   |ok u w1=>rw[V]at j;simp at j;simp[j]
   |halt h1 w1=>rw[V]at j;cases j)⟩
 |unOp W T x=>
  have⟨v,q,h⟩:=aE.1 (show ob (lH s x) _=some (g,r)from h);have⟨z,k,h⟩:=aE.1 h;cases h;exact⟨rfl,iS (adw (cV F q) k) (λw v j=>by simp[execOp,j])⟩
 |convert S D x=>
  have⟨v,q,h⟩:=aE.1 (show ob (lH s x) _=some (g,r)from h);have⟨z,k,h⟩:=aE.1 h;cases h;exact⟨rfl,iS (Ux E (cV F q) k) (λw v j=>by simp[execOp,j])⟩
 | makeFunc fn first caps =>
  cases fn with
  |func f=>
   have⟨us,ab,h⟩:=aE.1 (show ob (IL s first.toList) _=some (g,r)from h);have⟨vs,N,h⟩:=aE.1 h;cases h;refine⟨rfl,_,Rl.fn' (Hv F ab) (Hv F N),λw=>?_⟩
   have e1:(first.toList.map a.eval).toArray=first.map a.eval:=by apply Array.toList_inj.1;simp
   have e2:(caps.toList.map a.eval).toArray=caps.map a.eval:=by apply Array.toList_inj.1;simp
   rw[e1,e2];simp[execOp,Instr.makeFunc]
  |_=>cases h
 |fieldAddr T x f=>
  have⟨v,q,h⟩:=aE.1 (show ob (lH s x) _=some (g,r)from h);have⟨z,k,h⟩:=aE.1 h;cases h;exact⟨rfl,iS (Ql E (cV F q) k) (λw v j=>by simp[execOp,j])⟩
 |field T x f=>
  have⟨v,q,h⟩:=aE.1 (show ob (lH s x) _=some (g,r)from h);have⟨z,k,h⟩:=aE.1 h;cases h;exact⟨rfl,iS (UA E (cV F q) k) (λw v j=>by simp[execOp,j])⟩
 |indexAddr T x y=>
  have⟨v,q,h⟩:=aE.1 (show ob (lH s x) _=some (g,r)from h);have⟨u,C,h⟩:=aE.1 h;have⟨z,k,h⟩:=aE.1 h;cases h;exact⟨rfl,iS (Qm E (cV F q) (cV F C) k) (λw v j=>by simp[execOp,j])⟩
 |index T x y=>
  have⟨v,q,h⟩:=aE.1 (show ob (lH s x) _=some (g,r)from h);have⟨u,C,h⟩:=aE.1 h;have⟨z,k,h⟩:=aE.1 h;cases h;exact⟨rfl,iS (adn E (cV F q) (cV F C) k) (λw v j=>by simp[execOp,j])⟩
 | slice T x lo hi mx =>
  cases mx with
  | none =>
   have⟨v,q,h⟩:=aE.1 (show ob (lH s x) _=some (g,r)from h);have⟨l,hl,h⟩:=aE.1 h;have⟨e,he,h⟩:=aE.1 h;have⟨z,k,h⟩:=aE.1 h;cases h;have hA:∀t,tb T=some t->tdA t.desc=none:=λt ht=>by
    have U:ada tb T=true:=R;unfold ada at U;rw[ht]at U;simp only at U;cases V:t.desc<;>rw[V]at U<;>first|rfl|cases U
   exact⟨rfl,iS (Qn (gs:=noG) E (.inr hA) (cV F q) (MC F hl) (MC F he) k) (λw v j=>by simp[execOp,j])⟩
  |some y=>cases h
 |extract x i=>
  have⟨v,q,h⟩:=aE.1 (show ob (lH s x) _=some (g,r)from h);have⟨z,k,h⟩:=aE.1 h;cases h;exact⟨rfl,iS (Yi (cV F q) k) (λw v j=>by simp[execOp,j])⟩
 | call c =>
  have⟨X,Q,B⟩:=c;cases X with
  |value f=>cases R
  |invoke x m=>cases R
  | builtin b =>
   have A:B.size=Q.size:=zA5 aa;have h:VE tb Q B b s H Iq=some (g,r):=h;cases b with
   | len =>
    have⟨x,O,h⟩:=Fi (show NP Q.toList (Zg tb B.toList) s H Iq=some (g,r)from h);have⟨T,M,h⟩:=aE.1 (show ob (Kh B.toList 0) _=some (g,r)from h);have⟨v,q,h⟩:=aE.1 h;have⟨z,k,h⟩:=aE.1 h;cases h;have L:=MM O;subst L;have K:B = #[T]:=by
     rw[xV]at M;have⟨l⟩:=B
     match l,A with
     | [t],_=>simp at M;subst M;rfl
    subst K;exact⟨rfl,iS (Yj E (ty:=J) (cV F q) k) (λw v j=>by simp[execOp,resolve,invoke,builtin,j])⟩
   | cap =>
    have⟨x,O,h⟩:=Fi (show NP Q.toList (Zf tb B.toList) s H Iq=some (g,r)from h);have⟨T,M,h⟩:=aE.1 (show ob (Kh B.toList 0) _=some (g,r)from h);have⟨v,q,h⟩:=aE.1 h;have⟨z,k,h⟩:=aE.1 h;cases h;have L:=MM O;subst L;have K:B = #[T]:=by
     rw[xV]at M;have⟨l⟩:=B
     match l,A with
     | [t],_=>simp at M;subst M;rfl
    subst K;exact⟨rfl,iS (Yh E (ty:=J) (cV F q) k) (λw v j=>by simp[execOp,resolve,invoke,builtin,j])⟩
   | max =>
    have⟨x,y,O,h⟩:=BB (show GD Q.toList (λx y=>k2 x y Wu) s H Iq=some (g,r)from h);have⟨v,q,h⟩:=aE.1 (show ob (lH s x) _=some (g,r)from h);have⟨u,C,h⟩:=aE.1 h;have⟨z,k,h⟩:=aE.1 h;cases h;have L:=HN O;subst L;obtain⟨G,I,K⟩:∃G I,B = #[G,I]:=by
     have⟨l⟩:=B
     match l,A with
     | [t,t'],_=>exact⟨t,t',rfl⟩
    subst K;exact⟨rfl,iS (Yk (t1:=G) (t2:=I) (ty:=J) (cV F q) (cV F C) k) (λw v j=>by simp[execOp,resolve,invoke,builtin,j])⟩
   | min =>
    have⟨x,y,O,h⟩:=BB (show GD Q.toList (λx y=>k2 x y adu) s H Iq=some (g,r)from h);have⟨v,q,h⟩:=aE.1 (show ob (lH s x) _=some (g,r)from h);have⟨u,C,h⟩:=aE.1 h;have⟨z,k,h⟩:=aE.1 h;cases h;have L:=HN O;subst L;obtain⟨G,I,K⟩:∃G I,B = #[G,I]:=by
     have⟨l⟩:=B
     match l,A with
     | [t,t'],_=>exact⟨t,t',rfl⟩
    subst K;exact⟨rfl,iS (Yl (t1:=G) (t2:=I) (ty:=J) (cV F q) (cV F C) k) (λw v j=>by simp[execOp,resolve,invoke,builtin,j])⟩
   |_=>cases R
 |_=>cases R
theorem Uw (hG:gQ P tb) {T:TypeId} {n:Nat} {l:List (Nat×GV)} {parts:List (Nat×V0)} {ρ:fE} {H H':GH} {g:GV} (hp:RlP ρ l parts) (h:uM tb T n l H=some (g,H')):
  ∃cs a' T' len sz,H'=H.new (.cells cs)/\g = .sl H.n 0 len sz/\WC ρ cs a'/\cs.length=a'.size/\∀w:World,∃V,(Instr.buildSlice T n parts.toArray).run P w = .ok V (w.alloc (.cells a' T'))/\∀ρ':fE,ρ' H.n=some ⟨w.heap.size,0,a'.size,.cells a' T',.cells cs⟩->Rl ρ' g V:=by
 obtain⟨te,hte,h⟩:=aE.1 (show ob (Cj tb T) _=some (g,H')from h);obtain⟨zc,hz,h⟩:=aE.1 h;obtain⟨hlen,h⟩:=bV.1 h;obtain⟨hbig,h⟩:=bV.1 h;obtain⟨h0,h⟩:=lG.1 h;obtain⟨cs,hfill,h⟩:=aE.1 h;rw[jR]at h;cases h;obtain⟨⟨d,hd,hde⟩,hE,htab⟩:=zX hG hte;obtain⟨dz,hdz,_,hC⟩:=xK (ρ:=ρ) hG hz;rw[htab]at hdz;cases hdz;have hlen:zc.length=te.2.size:=zA5 hlen;have h0:te.2.size≠0:=λe=>by rw[e]at h0;cases h0
 have hbig:n*te.2.size<16777216:=by simpa [zAy]using hbig
 have hrep:=JJ hC (by omega) n;rw[hlen]at hrep;obtain⟨a',f1,f2⟩:=Hw hp hrep hfill;have hsz0:cs.length=a'.size:=by have:=f2.r.len;simpa using this
 have hsz:a'.size=n*te.2.size:=by
  have e1:=f2.r.len;have:cs.length=(UN zc n).length:=IM hfill;rw[this,JI,hlen]at e1;simp at e1;omega
 refine⟨cs,a',te.1,n,te.2.size,rfl,rfl,f2,hsz0,λw=>⟨.slice (some ⟨w.heap.size,0,none⟩) n n,?_,λρ' hρ=>.sl (l:=⟨w.heap.size,0,a'.size,.cells a' te.1,.cells cs⟩) hρ (zAg _) (.inr ⟨rfl,by simp[hsz]⟩)⟩⟩
 have hu:=hd.run_und w;rw[hde]at hu;by_cases hn:n*te.2.size=0
 .have hz0:n=0:=by rcases Nat.mul_eq_zero.1 hn with h|h;exact h;exact absurd h h0
  subst hz0;have e0:(Array.range (0*te.2.size)).map (te.2.zero.cells[· % te.2.zero.cells.size]!)=(#[]:Array V0):=by simp
  rw[e0]at f1;have e1:(Array.range 0).map (λ_=>(default:V0)) = #[]:=by simp
  simp[Instr.buildSlice,hu,hE.run_size w,newRow];simp[e1,f1]
 .simp[Instr.buildSlice,hu,hE.run_size w,hE.run_zero w,hn,f1,newRow,show¬(16777216<n*te.2.size) by omega]
theorem aal {t u w:fE} (x:∀h A l,t h=some A->u h=some l->w h=some l) {g:GV} {v:V0} (C:Rl u g v):∀{r:V0},Rl t g r->Rl w g v:=by
 induction C with
 |int k n=>exact λ_=>.int k n
 |bool b=>exact λ_=>.bool b
 |str s=>exact λ_=>.str s
 |ptr y q=>exact λj=>by cases j with|ptr _ m=>exact .ptr y (x _ _ _ m q)
 |pnil=>exact λ_=>.pnil
 |sl q E D=>exact λj=>by cases j with|sl m _ _=>exact .sl (x _ _ _ m q) E D
 |snil=>exact λ_=>.snil
 |map q=>exact λj=>by cases j with|map m=>exact .map (x _ _ _ m q)
 | fn f a b c d ihb ihd =>
   intro r j;cases j with
   | fn _ z p B d0 =>
    refine .fn f a (λi g v e o=>?_) c (λi g v e o=>?_)
    .have:=bH e;exact ihb i g v e o (p i g _ e (zA0 V7))
    .have:=bH e;exact ihd i g v e o (d0 i g _ e (zA0 V7))
 |fnil=>exact λ_=>.fnil
 |inil=>exact λ_=>.inil
 | agg a b c ihb =>
   intro r j;cases j with
   |agg z p B=>
    refine .agg a (λi g v e o=>?_) c;have:=bH e;exact ihb i g v e o (p i g _ e (zA0 V7))
 | tup a b ihb =>
   intro r j;cases j with
   |tup z p=>
    refine .tup a (λi g v e o=>?_);have:=bH e;exact ihb i g v e o (p i g _ e (zA0 V7))
 |un=>exact λ_=>.un
 |bad v=>exact λ_=>.bad v
 | opn v h hx =>
   intro r j;have⟨A,a,_⟩:=j.opn_inv;exact .opn v (x _ _ _ a h) hx
structure Trc (tb:TB) (ih:CH) (all l:List Oper) (S:Nat->GF) (HH:Nat->GH) (gg:Nat->GV):Prop where
 st:∀i o,l[i]?=some o->HS tb ih all o (S i) (HH i)=some (gg i,HH (i+1))
 up:∀i o,l[i]?=some o->S (i+1)=putD o.dst (gg i) (S i)
theorem PC {d:CH} {all:V6 V5} {k:GS->RS} {b:SE}:∀(l:V6 V5) (s:GS),Il tb d all k l s=some b->∃S c e,S 0=s.σ/\c 0=s.H/\Trc tb d all l S c e/\k ⟨S l.length,c l.length⟩=some b
 | [],s,h=>⟨λ_=>s.σ,λ_=>s.H,λ_=>.un,rfl,rfl,⟨λi o a=>by simp at a,λi o a=>by simp at a⟩,h⟩
 | o :: l, s, h =>by
  have⟨g,t,p,q⟩:=Hu (show Nw tb d all o (Il tb d all k l) s=some b from h);have⟨S,c,e,m,n,j,r⟩:=PC l _ q;refine⟨λi=>Nat.casesOn i s.σ S,λi=>Nat.casesOn i s.H c,λi=>Nat.casesOn i g e,rfl,rfl,⟨λi f a=>?_,λi f a=>?_⟩,r⟩
  .cases i with
   |zero=>simp at a;subst a;show HS tb d all o s.σ s.H=some (g,c 0);rw[p,n]
   |succ i=>exact j.st i f (by simpa using a)
  .cases i with
   |zero=>simp at a;subst a;exact m
   |succ i=>exact j.up i f (by simpa using a)
theorem Di {o:Op} (h:pW o=true):fS o=false:=by
 cases o<;>first|rfl|cases h
structure Vrs (all l:List Oper) (m:List Nat) (i:Nat) (S:Nat->GF) (HH:Nat->GH) (pr:List (Nat×Option (Nat×Nat))) (hs:List (Nat×GH)):Prop where
 pr:∀q h v,(q,some (h,v))∈pr->∀j oj,l[j]?=some oj->fS oj.op=true->before m (i+j) q=false->(HH (j+1)).ver h=some v
 hs:∀k ok h,l[k]?=some ok->pW ok.op=true->ldH (S k) ok.op=some h->∃v,(HH k).ver h=some v/\∀q Hq,(q,Hq)∈hs->before m (i+k) q=false->Hq.ver h=some v
 lo:∀k ok h v,l[k]?=some ok->pW ok.op=true->ldH (S k) ok.op=some h->(HH k).ver h=some v->
  (∀j oj,j<k->l[j]?=some oj->fS oj.op=true->before m (i+k) (i+j)=false->(HH j).ver h=some v)/\(∀j oj,k<j->l[j]?=some oj->fS oj.op=true->before m (i+j) (i+k)=false->(HH (j+1)).ver h=some v)
theorem Vrs.cons {all l:V6 V5} {m:V6 Nat} {i:Nat} {S:Nat->GF} {B:Nat->GH} {G x:V6 (Nat×V1 (Nat×Nat))} {F u:V6 (Nat×GH)} {o:V5} {L:GF} {H:GH} (V:Vrs all l m (i+1) S B x u)
  (E:∀p∈G,p∈x) (C:∀p∈F,p∈u) (I:fS o.op=true->(i,H)∈u/\∀p∈G,before m i p.1=false->∀d,p.2=some d->(B 0).ver d.1=some d.2)
  (J:pW o.op=true->∀h,ldH L o.op=some h->∃v,H.ver h=some v/\(i,some (h,v))∈x/\∀q y,(q,y)∈F->before m i q=false->y.ver h=some v):
  Vrs all (o::l) m i (λj=>Nat.casesOn j L S) (λj=>Nat.casesOn j H B) G F:=by
 have e:∀j,i+(j+1)=i+1+j:=λj=>by omega
 refine⟨λq h v z j w g s f=>?_,λk A h n s t=>?_,λk A h v n s t d=>⟨λj w D g r f=>?_,λj w D g r f=>?_⟩⟩
 .cases j with
  |zero=>simp at g;subst g;exact(I s).2 _ z (by simpa using f) _ Z
  |succ j=>exact V.pr q h v (E _ z) j w (by simpa using g) s (by rw[<-e];exact f)
 .cases k with
  |zero=>
   simp at n;subst n;have⟨v,a,_,c⟩:=J s h t;exact⟨v,a,λq y z f=>c q y z (by simpa using f)⟩
  |succ k=>
   have⟨v,a,b⟩:=V.hs k A h (by simpa using n) s t;exact⟨v,a,λq y z f=>b q y (C _ z) (by rw[<-e];exact f)⟩
 .cases k with
  |zero=>omega
  | succ k =>
   have n:l[k]?=some A:=by simpa using n
   cases j with
   |zero=>
    simp at g;subst g;have⟨K,a,b⟩:=V.hs k A h n s t;have a:(B k).ver h=some K:=a;have d:(B k).ver h=some v:=d;rw[a]at d;cases d;exact b i H (I r).1 (by rw[<-e];simpa using f)
   |succ j=>exact(V.lo k A h v n s t d).1 j w V7 (by simpa using g) r (by rw[<-e,<-e];exact f)
 .cases j with
  |zero=>omega
  | succ j =>
   have g:l[j]?=some w:=by simpa using g
   cases k with
   |zero=>
    simp at n;subst n;have⟨K,a,b,_⟩:=J s h t;have d:H.ver h=some v:=d;rw[a]at d;cases d;exact V.pr i h v b j w g r (by rw[<-e];simpa using f)
   |succ k=>exact(V.lo k A h v (by simpa using n) s t d).2 j w V7 g r (by rw[<-e,<-e];exact f)
theorem MA {x:CH} {all:V6 V5} {m:V6 Nat} {k:GS->RS} {A:SE}:∀(l:V6 V5) (i:Nat) (J:V6 (Nat×V1 (Nat×Nat))) (D:V6 (Nat×GH)) (s:GS),evW tb x all m k l i J D s=some A->
  ∃S a r,S 0=s.σ/\a 0=s.H/\Trc tb x all l S a r/\Vrs all l m i S a J D/\k ⟨S l.length,a l.length⟩=some A
 | [],i,J,D,s,h=>⟨λ_=>s.σ,λ_=>s.H,λ_=>.un,rfl,rfl,⟨λi o d=>by simp at d,λi o d=>by simp at d⟩,⟨λ_ _ _ _ j Y V=>by simp at V,λk X h f=>by simp at f,λk X h v f=>by simp at f⟩,h⟩
 | o :: l, i, J, D, s, h =>by
  have t:abk tb x all m o (evW tb x all m k l) i J D s=some A:=h;have B:∀{g:GV} {C:GH} {S:Nat->GF} {a:Nat->GH} {r:Nat->GV},HS tb x all o s.σ s.H=some (g,C)->S 0=putD o.dst g s.σ->a 0=C->Trc tb x all l S a r->Trc tb x all (o::l) (λj=>Nat.casesOn j s.σ S) (λj=>Nat.casesOn j s.H a) (λj=>Nat.casesOn j g r):=λ{g C S a r} z y n w=>⟨λi O d=>by
    cases i with
    |zero=>simp at d;subst d;show HS tb x all o s.σ s.H=some (g,a 0);rw[z,n]
    |succ i=>exact w.st i O (by simpa using d),λi O d=>by
    cases i with
    |zero=>simp at d;subst d;exact y
    |succ i=>exact w.up i O (by simpa using d)⟩
  unfold abk at t;cases b:fS o.op with
  |true=>
   rw[b]at t;have⟨g,C,z,E⟩:=Hu t;have⟨_,u,K⟩:=aE.1 E;have u:=Gw u;have⟨S,a,r,y,n,w,I,f⟩:=MA l _ _ _ _ K;refine⟨_,_,_,rfl,rfl,B z y n w,I.cons (λ_ h=>h) (λp G=>zAk _ G) (λ_=>⟨zAd,λp G L M U=>by rw[n];exact u p G L M U⟩) (λc=>by rw[Di c]at b;cases b),f⟩
  | false =>
   rw[b]at t;cases c:pW o.op with
   |true=>
    simp only[c]at t;have⟨g,C,z,E⟩:=Hu t;have⟨e,u,K⟩:=aE.1 E;have⟨S,a,r,y,n,w,I,f⟩:=MA l _ _ _ _ K;refine⟨_,_,_,rfl,rfl,B z y n w,I.cons (λp G=>zAk _ G) (λ_ h=>h) (λh=>by rw[b]at h;cases h) (λ_ Q F=>?_),f⟩
    rw[F]at u;have⟨v,N,u⟩:=aE.1 (show ob (s.H.ver Q) (λv=>Nq m i Q v D)=some e from u);obtain⟨rfl,T⟩:=Gy u;exact⟨v,N,zAd,λq R W L=>T (q,R) W L⟩
   |false=>
    simp only[c]at t;have⟨g,C,z,E⟩:=Hu t;have⟨S,a,r,y,n,w,I,f⟩:=MA l _ _ _ _ E;exact⟨_,_,_,rfl,rfl,B z y n w,I.cons (λ_ h=>h) (λ_ h=>h) (λh=>by rw[b]at h;cases h) (λh=>by rw[c]at h;cases h),f⟩
theorem abj {s:CH} (t:gQ P tb) (p:uP P w0 s) {all:V6 V5} {n:Nat} {o:V5} {q:GF} {H k:GH} {g:GV} {d:fE} {a:Act} {w:V2} (r:KP n o=true) (F:mE d n q a) (R:g_ w0 d H w) (h:HS tb s all o q H=some (g,k)):
  ∃b i e,d.le b/\g_ w0 b k e/\mE b n (putD o.dst g q) i:=by
 have⟨_,c,_⟩:=wT r;rcases Mz t p r F R h with⟨_,x⟩|⟨_,rfl,rfl⟩
 .rcases x with⟨_,_,_,rfl,v,f,_⟩|⟨_,_,rfl,v,_,_,_,_,_,f,_⟩|⟨_,_,rfl,v,f,_⟩|⟨_,u⟩
  .exact⟨d,_,w,fE.le_refl _,R,F.putD c f⟩
  .exact⟨d,_,w,fE.le_refl _,R,F.putD c f⟩
  .exact⟨d,_,w,fE.le_refl _,R,F.putD c f⟩
  .obtain⟨i,e,b,v,j,l,m,rfl⟩:=TK (u (λi e=>∃b v,d.le b/\g_ w0 b k e/\Rl b g v/\i=a.put o.dst v) λb e v j l m=>⟨b,v,j,l,m,rfl⟩);exact⟨b,_,e,j,l,(F.le j).putD c m⟩
 .exact⟨d,_,w,fE.le_refl _,R,F.putD c .un⟩
theorem Qb {q:CH} (p:gQ P tb) (f:uP P w0 q) {all:V6 V5} {n:Nat} (c:all.all (KP n)=true) {S:Nat->GF} {g:Nat->GH} {u:Nat->GV} (T:Trc tb q all all S g u) {k:fE} {a:Act} {w:V2} (F:mE k n (S 0) a) (R:g_ w0 k (g 0) w):
    ∀m,m<=all.length->∃b:Nat->fE,(∀i,i<=m->∃a w,g_ w0 (b i) (g i) w/\mE (b i) n (S i) a)/\∀i,i<m->(b i).le (b (i+1))
  | 0, _ =>⟨λ_ =>k, λi h =>by
      have : i = 0 := by omega
      subst this;exact⟨a,w,R,F⟩,λi h=>V7⟩
  | m + 1, hm =>by
    have⟨b,o,v⟩:=Qb p f c T F R m V7;have⟨A,B,s,r⟩:=o m (zAg _);have d:all[m]?=some all[m]:=zA0 V7;have⟨l,t,z,j,x,y⟩:=abj p f (zA7.1 c _ (List.getElem_mem V7)) r s (T.st m _ d);refine⟨λi=>if i<=m then b i else l,λi h=>?_,λi h=>?_⟩
    · by_cases e:i<=m
      · simp only[e,if_true];exact o i e
      · have:i=m+1:=V7
        subst this;simp only[e,if_false];exact⟨t,z,x,by rw[T.up m _ d];exact y⟩
    · by_cases e:i+1<=m
      · simp only[e,show i<=m by omega,if_true];exact v i V7
      · have:i=m:=V7
        subst this;simp only[e,zAg,if_true,if_false];exact j
theorem Us {a:Nat->GH} {m:Nat} (b:∀i,i<m->(a i).n<=(a (i+1)).n) {i:Nat}:∀{j:Nat},i<=j->j<=m->(a i).n<=(a j).n
  | 0, h, _ =>by
      have : i = 0 := by omega
      subst this;exact zAg _
  | j + 1, h, hj =>by
    by_cases e:i=j+1
    · subst e;exact zAg _
    · exact zB6 (Us b V7 V7) (b j V7)
theorem Ox {w:CH} {all:V6 V5} {S:Nat->GF} {u:Nat->GH} {n:Nat->GV} (T:Trc tb w all all S u n) {t:Nat} {g:GV}:∀k,k<=all.length->HT (S k) t=some g->
  (∃i o,i<k/\all[i]?=some o/\o.dst=some t/\n i=g/\∀j a,i<j->j<k->all[j]?=some a->a.dst≠some t)\/((∀j a,j<k->all[j]?=some a->a.dst≠some t)/\HT (S 0) t=some g)
 |0,_,h=>.inr ⟨λj a s=>V7,h⟩
 | k + 1, hk, h =>by
  have c:all[k]?=some all[k]:=zA0 V7;rw[T.up k _ c]at h;have m:all[k].dst≠some t->HT (S k) t=some g->_:=λl h=>
   match Ox T k V7 h with
   | .inl ⟨i, o, q, p, h3, h4, h5⟩ =>(.inl ⟨i, o, by omega, p, h3, h4, λj a r s b =>by
     by_cases e:j=k
     .subst e;rw[c]at b;cases b;exact l
     .exact h5 j a r V7 b⟩:(∃i o,i<k+1/\all[i]?=some o/\o.dst=some t/\n i=g/\∀j a,i<j->j<k+1->all[j]?=some a->a.dst≠some t)\/((∀j a,j<k+1->all[j]?=some a->a.dst≠some t)/\HT (S 0) t=some g))
   | .inr ⟨q, p⟩ =>.inr ⟨λj a s b =>by
     by_cases e:j=k
     .subst e;rw[c]at b;cases b;exact l
     .exact q j a V7 b,p⟩
  cases f:all[k].dst with
  |none=>
   rw[f]at h;exact m (by rw[f];simp) h
  | some d =>
   rw[f]at h;have h:HT ((d,n k)::S k) t=some g:=h;rw[De]at h;by_cases e:t=d
   .subst e;rw[if_pos Z]at h;cases h;exact .inl ⟨k,_,V7,c,f,rfl,λj a q p=>V7⟩
   .rw[if_neg e]at h;exact m (by rw[f];intro v;cases v;exact e Z) h
def tQ (o:Op):V4:=fS o && !isFloat o
def NS (tb:TB) (x o:Op):V4:=pureOp tb x||pureOp tb o||isFloat o||(!fS x && !fS o)||(pW x&&fS o)||(fS x&&pW o)
def chkF (tb:TB) (l:V6 V5) (m:V6 Nat):V4:=
 (List.range l.length).all λi=>match l[i]? with
  |none=>false
  |some o=>
   (xL o).all (λe=>Nat.blt e i&&before m i e&&(List.range i).all (λk=> !before m e k||before m i k)) &&
   (List.range l.length).all (λk=> !before m i k||(Nat.blt k i&&(xL o).any (λe=>Nat.beq e k||before m e k))) &&
   !EC o.op &&
   (List.range i).all (λx=>before m i x||(match l[x]? with|none=>false|some a=>a.apart l.toArray o&&NS tb a.op o.op))
structure ZR (tb:TB) (l:List Oper) (m:List Nat):Prop where
 edge:∀(i:Nat) (o:Oper),l[i]?=some o->∀e∈xL o,e<i/\before m i e=true
 trans:∀(i:Nat) (o:Oper),l[i]?=some o->∀k,before m i k=true->k<l.length->k<i/\∃e∈xL o,e=k\/before m e k=true
 ind:∀(i x:Nat) (oi ox:Oper),l[i]?=some oi->l[x]?=some ox->x<i->before m i x=false->ox.apart l.toArray oi=true/\NS tb ox.op oi.op=true
theorem Kr {l:V6 V5} {m:V6 Nat} (h:chkF tb l m=true):ZR tb l m:=by
 have b:∀(i:Nat) (o:V5),l[i]?=some o->
   ((xL o).all (λe=>Nat.blt e i&&before m i e&&(List.range i).all (λk=> !before m e k||before m i k))=true)/\
   ((List.range l.length).all (λk=> !before m i k||(Nat.blt k i&&(xL o).any (λe=>Nat.beq e k||before m e k)))=true)/\EC o.op=false/\
   ((List.range i).all (λx=>before m i x||(match l[x]? with|none=>false|some g=>g.apart l.toArray o&&NS tb g.op o.op))=true):=by
  intro i o c;have:=zA7.1 h i (zAj.2 (bH c));simp only[c,zA8,Bool.not_eq_true']at this;exact⟨this.1.1.1,this.1.1.2,this.1.2,this.2⟩
 refine⟨?_,?_,?_⟩
 .intro i o c e f;have:=zA7.1 (b i o c).1 e f;simp only[zA8,zAy]at this;exact⟨this.1.1,this.1.2⟩
 .intro i o c k q a;have:=zA7.1 (b i o c).2.1 k (zAj.2 a);simp only[q,Bool.not_true,Bool.false_or,zA8,zAy,List.any_eq_true,zB5]at this;have⟨j,e,f,d⟩:=this;refine⟨j,e,f,?_⟩
  rcases d with d|d
  .exact .inl (zA5 d)
  .exact .inr d
 .intro i x s g p r a n;have:=(b i s p).2.2.2;have:=zA7.1 this x (zAj.2 a);simp only[n,Bool.false_or,r,zA8]at this;exact this
theorem ZC (G:gQ P tb) {T:V9} {ρ:fE} {H x:GH} {g v u:GV} {V U:V0} (J:Rl ρ v V) (I:Rl ρ u U) (h:OA tb T v u H=some (g,x)):
  ∃t m F,x=H.new (.cells t)/\WC ρ t m/\t.length=m.size/\∀w:V2,∃X,(Instr.makeSlice T V U).run P w = .ok X (w.alloc (.cells m F))/\∀l:fE,l H.n=some ⟨w.heap.size,0,m.size,.cells m F,.cells t⟩->Rl l g X:=by
 have⟨j,C,h⟩:=aE.1 (show ob (Cj tb T) _=some (g,x)from h);have⟨zc,Y,h⟩:=aE.1 h;have⟨k,R,h⟩:=aE.1 h;have⟨c,O,h⟩:=aE.1 h;have⟨f,h⟩:=bV.1 h;have⟨n,S,h⟩:=aE.1 h;have⟨a,h⟩:=bV.1 h;have⟨o,h⟩:=bV.1 h;have⟨q,h⟩:=bV.1 h;have⟨y,h⟩:=lG.1 h;rw[Tn,jR]at h;cases h;have⟨⟨d,Q,A⟩,M,s⟩:=zX G C;have⟨dz,p,_,L⟩:=xK (ρ:=ρ) G Y;rw[s]at p;cases p;have a:zc.length=j.2.size:=zA5 a;have y:j.2.size≠0:=λe=>by rw[e]at y;cases y
 have o:n*j.2.bytes<16777216:=by simpa [zAy]using o
 have q:n<16777216:=by simpa [zAy]using q
 rw[nS R]at J;rw[nS O]at I;rw[Kx]at f;have f:=zB7 f;rw[J.int_inv,I.int_inv,<-f,IF S];have b:=JJ L V7 n;rw[a]at b;have⟨K,B,W,N,D⟩:=M.info;have i:=Q.und;rw[A]at i;have z:(K.bytes:Int)*(n:Int)<=281474976710656:=by
  have e:(j.2.bytes:Int)*(n:Int)=((n*j.2.bytes:Nat):Int):=by rw[Nat.mul_comm];simp
  rw[N,e];omega
 refine⟨_,_,j.1,rfl,b,by have:=b.r.len;simpa using this,λw=>⟨_,?_,λl E=>.sl E (zAg n) (.inr ⟨rfl,?_⟩)⟩⟩
 .rw[run_make (P:=P) w T j.1 K j.2.zero i B D k.1 c.1 n n V7 (Int.le_refl _) z V7];simp[madeCells,W]
 .simp
theorem PL {ih:CH} (K:gQ P tb) {all:V6 V5} {n:Nat} {o:V5} {B:GF} {H c:GH} {g:GV} {D:fE} {a:Act} (W:isFloat o.op=true) (F:mE D n B a) (h:HS tb ih all o B H=some (g,c)):
  (Region.wanted o (yielded all.toArray a.tmps)=false/\g = .un/\c=H)\/
  (Region.wanted o (yielded all.toArray a.tmps)=true/\∃j f A,c=H.new (.cells j)/\WC D j f/\j.length=f.size/\∀w:V2,∃V,(execOp a.eval o).run P w = .ok (.value V) (w.alloc (.cells f A))/\∀i:fE,i H.n=some ⟨w.heap.size,0,f.size,.cells f A,.cells j⟩->Rl i g V):=by
 rcases Ht F h with⟨Y,b⟩|h
 .refine .inr ⟨Y,?_⟩;have⟨d,op,ty,ab,R,gd⟩:=o;cases op with
  |buildSlice T m M=>
   have⟨vs,L,b⟩:=aE.1 (show ob (xU B M.toList) _=some (g,c)from b);have⟨E,k,b,q⟩:=nP b;cases q;have⟨j,f,A,aa,sz,C,h2,G,I,J⟩:=Uw (P:=P) K (EB F L) b;refine⟨j,f,A,C,G,I,λw=>?_⟩
   have⟨V,s,t⟩:=J w;refine⟨V,?_,t⟩
   have e:(M.toList.map λp=>(p.1,a.eval p.2)).toArray=M.map λp=>(p.1,a.eval p.2):=by apply Array.toList_inj.1;simp
   rw[e]at s;simp[execOp,s]
  |alloc T=>
   have⟨E,k,b,q⟩:=nP (show fN (sL tb T H) Iq=some (g,c)from b);cases q;have⟨Q,hz,b⟩:=aE.1 (show ob (En tb T) _=some (g,c)from b);rw[jR]at b;cases b;have⟨d,hd,S,N⟩:=xK (ρ:=D) K hz;refine⟨Q,d.zero.cells,T,rfl,N,by have:=N.r.len;simpa using this,λw=>⟨_,?_,λi z=>.ptr (l:=⟨w.heap.size,0,d.zero.cells.size,.cells d.zero.cells T,.cells Q⟩) 0 z⟩⟩
   simp[execOp,KX w S]
  |makeSlice T x y=>
   have⟨v,t,b⟩:=aE.1 (show ob (lH B x) (λv=>ob (lH B y) λu=>fN (OA tb T v u H) Iq)=some (g,c)from b);have⟨u,X,b⟩:=aE.1 b;have⟨E,k,b,q⟩:=nP b;cases q;have⟨j,f,A,C,G,I,J⟩:=ZC (P:=P) K (cV F t) (cV F X) b;refine⟨j,f,A,C,G,I,λw=>?_⟩
   have⟨V,s,t⟩:=J w;refine⟨V,?_,t⟩
   simp[execOp,s]
  |box T x=>
   have⟨v,t,b⟩:=aE.1 (show ob (lH B x) (λv=>fN (Gh v H) Iq)=some (g,c)from b);have⟨E,k,b,q⟩:=nP b;cases q;have⟨O,U,b⟩:=aE.1 (show ob v.cells _=some (g,c)from b);rw[jR]at b;cases b;have⟨vs,e,s,C⟩:=(cV F t).cells U;refine⟨O,(a.eval x).cells,T,rfl,by rw[e];exact⟨s,C⟩,by rw[e];have:=s.len;simpa using this,λw=>⟨_,?_,λi z=>.ptr (l:=⟨w.heap.size,0,(a.eval x).cells.size,.cells (a.eval x).cells T,.cells O⟩) 0 z⟩⟩
   simp[execOp,Instr.box,newVar,newRow]
  |_=>cases W
 .exact .inl h
end
def IY (b a:fE):fE:=λh=>match b h with
 |some l=>some l
 |none=>a h
theorem Az {a b:fE} {h:Nat} {l:Pj} (e:a h=some l):IY a b h=some l:=by simp[IY,e]
theorem Ay {b a:fE} {h:Nat} (e:b h=none):IY b a h=a h:=by simp[IY,e]
theorem JA {a b:fE}:a.le (IY a b):=λ_ _ e=>Az e
def SlD (all:V6 V5) (b:GF) (c:Nat->GV) (D:Nat->V4) (t:Nat) (g:GV):Prop:=
 (∃i o,D i=true/\all[i]?=some o/\o.dst=some t/\c i=g/\∀j a,D j=true->all[j]?=some a->a.dst=some t->j<=i)\/((∀j a,D j=true->all[j]?=some a->a.dst≠some t)/\HT b t=some g)
def ins (D:Nat->V4) (k:Nat):Nat->V4:=λj=>j==k||D j
theorem Dg (D:Nat->V4) (k:Nat):ins D k k=true:=by simp[ins]
theorem Co {D:Nat->V4} {k j:Nat} (h:j≠k):ins D k j=D j:=by simp[ins,h]
theorem Df {D:Nat->V4} {k j:Nat} (h:D j=true):ins D k j=true:=by simp[ins,h]
noncomputable def FN (σ:GF) (L:mX):GF:=L.filterMap λt=>(HT σ t).map λg=>(t,g)
theorem EA {σ:GF} {t:Nat}:∀{L:mX},HT (FN σ L) t=if t∈L then HT σ t else none
 | []=>rfl
 | x :: L =>by
  have c:=EA (σ:=σ) (t:=t) (L:=L);cases b:HT σ x with
  |none=>
   have e:FN σ (x::L)=FN σ L:=by simp[FN,b]
   rw[e,c];by_cases a:t=x
   .subst a;simp[b]
   .simp[a]
  |some g=>
   have e:FN σ (x::L)=(x,g)::FN σ L:=by simp[FN,b]
   rw[e,De,c];by_cases a:t=x
   .subst a;simp[b]
   .simp[a]
section
variable {P:Program} {tb:TB} {gs:Cf} {w0:fO gs} {ih:CH} {all:V6 V5} {n:Nat} {S:Nat->GF} {HH:Nat->GH} {gg:Nat->GV}
structure zL (P:Program) (tb:TB) {gs:Cf} (w0:fO gs) (ih:CH) (all:List Oper) (n:Nat) (S:Nat->GF) (HH:Nat->GH) (gg:Nat->GV):Prop where
 tab:gQ P tb
 call:∀w0:fO gs,uP P w0 ih
 ops:all.all (KP n)=true
 chk:ZR tb all (rB all)
 trc:Trc tb ih all all S HH gg
 vrs:∀k ok h v,all[k]?=some ok->pW ok.op=true->ldH (S k) ok.op=some h->(HH k).ver h=some v->
  (∀j oj,j<k->all[j]?=some oj->fS oj.op=true->before (rB all) k j=false->(HH j).ver h=some v)/\(∀j oj,k<j->all[j]?=some oj->fS oj.op=true->before (rB all) j k=false->(HH (j+1)).ver h=some v)
 chain:∃ρs:Nat->fE,(∀i,i<=all.length->∃a w,g_ w0 (ρs i) (HH i) w/\mE (ρs i) n (S i) a)/\∀i,i<all.length->(ρs i).le (ρs (i+1))
theorem zL.ghost (E:zL P tb w0 ih all n S HH gg) (i:Nat) (c:i<=all.length):∃b a w,g_ w0 b (HH i) w/\mE b n (S i) a:=
 let ⟨ρs,h,_⟩:=E.chain
 ⟨ρs i,h i c⟩
theorem zL.mono (E:zL P tb w0 ih all n S HH gg) (i:Nat) (a:i<all.length):(HH i).n<=(HH (i+1)).n:=by
 have⟨e,h,b⟩:=E.chain;have⟨_,_,c,_⟩:=h i (Nat.le_of_lt a);have⟨_,_,d,_⟩:=h (i+1) a;exact c.mono d (b i a)
theorem Tf {a:Nat->fE} {m:Nat} (h:∀i,i<m->(a i).le (a (i+1))) {i:Nat}:∀{j:Nat},i<=j->j<=m->(a i).le (a j)
  | 0, h1, _ =>by
      have : i = 0 := by omega
      subst this;exact fE.le_refl _
  | j + 1, h1, hj =>by
    by_cases e:i=j+1
    · subst e;exact fE.le_refl _
    · exact fE.le_trans (Tf h V7 V7) (h j V7)
theorem zL.same (E:zL P tb w0 ih all n S HH gg) {i j:Nat} (b:i<=j) (u:j<=all.length) {h v:Nat} (q:(HH i).ver h=some v) (r:(HH j).ver h=some v):(HH i).get h=(HH j).get h:=by
 have⟨J,s,e⟩:=E.chain;have A:=Tf e b u;have⟨_,K,l,_⟩:=s i V7;have⟨_,L,m,_⟩:=s j u;have a:∀{k:Nat},(HH k).ver h=some v->∃o,(HH k).get h=some o:=λ{k} hv=>by
  have⟨p,B,_⟩:=aE.1 (show ob ((HH k).t.get h) _=some v from hv);exact⟨p.2,by unfold GH.get;rw[B];rfl⟩
 have⟨H,f⟩:=a q;have⟨I,g⟩:=a r;have⟨C,c,_⟩:=l.live h H f;have⟨D,d,_⟩:=m.live h I g;have⟨F,w,_,y⟩:=l.vers h v C q c;have⟨G,x,_,z⟩:=m.vers h v D r d;have:=A _ _ w;rw[x]at this;cases this;rw[y,z]
theorem zL.op (E:zL P tb w0 ih all n S HH gg) {k:Nat} {o:V5} (a:all[k]?=some o):KP n o=true:=zA7.1 E.ops o (zA1 a)
theorem zL.quiet (E:zL P tb w0 ih all n S HH gg) {k:Nat} {o:V5} (b:all[k]?=some o) (c:fS o.op=false):HH (k+1)=HH k:=by
 have⟨e,a,w,R,F⟩:=E.ghost k (Nat.le_of_lt (bH b));rcases Mz E.tab (E.call w0) (E.op b) F R (E.trc.st k o b)with⟨_,d⟩|⟨_,_,h⟩
 .rcases d with⟨_,_,_,h,_⟩|⟨_,_,h,_⟩|⟨_,_,h,_⟩|⟨h,_⟩
  .exact h
  .exact h
  .exact h
  .rw[c]at h;cases h
 .exact h
theorem zL.floats (E:zL P tb w0 ih all n S HH gg) {k:Nat} {o:V5} (c:all[k]?=some o) (d:isFloat o.op=true):HH (k+1)=HH k\/∃b,HH (k+1)=(HH k).new (.cells b):=by
 have⟨e,a,w,R,F⟩:=E.ghost k (Nat.le_of_lt (bH c));rcases PL (P:=P) E.tab d F (E.trc.st k o c)with⟨_,_,h⟩|⟨_,b,_,_,h,_⟩
 .exact .inl h
 .exact .inr ⟨b,h⟩
theorem ach {H:GH} {o:GO} (h:H=H.new o):False:=by
 have:H.n=H.n+1:=congrArg GH.n h;omega
theorem Zi {H:GH} {c a:V6 GV} (h:H.new (.cells c)=H.new (.cells a)):c=a:=by
 have b:=sR H (.cells c) H.n;have d:=sR H (.cells a) H.n;rw[if_pos Z]at b d;rw[h,d]at b;cases b;rfl
theorem zL.mono' (E:zL P tb w0 ih all n S HH gg) {i j:Nat} (h:i<=j) (a:j<=all.length):(HH i).n<=(HH j).n:=Us E.mono h a
theorem zL.apart (E:zL P tb w0 ih all n S HH gg) {i j:Nat} {b c:V6 GV} (k:i<all.length) (l:j<all.length) (d:HH (i+1)=(HH i).new (.cells b)) (f:HH (j+1)=(HH j).new (.cells c)) (h:(HH i).n=(HH j).n):i=j:=by
 have e:(HH (i+1)).n=(HH i).n+1:=by rw[d];rfl
 have g:(HH (j+1)).n=(HH j).n+1:=by rw[f];rfl
 rcases Nat.lt_trichotomy i j with a|a|a
 .have:=E.mono' (i:=i+1) (j:=j) V7 V7;omega
 .exact a
 .have:=E.mono' (i:=j+1) (j:=i) V7 V7;omega
structure Af {gs:Cf} (w0:fO gs) (ρb:fE) (n:Nat) (all:List Oper) (S0:GF) (HH:Nat->GH) (gg:Nat->GV) (D:Nat->Bool) (a:Act) (w:World) (t:Nat) (ρ pm:fE):Prop where
 tm:t<=all.length
 lou:∀j o,all[j]?=some o->tQ o.op=true->(D j=true↔j<t)
 flo:∀j o,all[j]?=some o->isFloat o.op=true->j<t->D j=true
 rel:g_ w0 ρ (HH t) w
 up:ρb.le ρ
 defers:a.defers=[]
 size:a.tmps.size=n
 slot:∀s g,SlD all S0 gg D s g->Rl (IY ρ pm) g (a.eval (.tmp s))
 pend:∀i o cs,all[i]?=some o->isFloat o.op=true->HH (i+1)=(HH i).new (.cells cs)->t<=i->D i=true->∃l,pm (HH i).n=some l/\w0.mine l.b/\¬ZV ρ (HH t) l.b/\w.heap[l.b]?=some l.x/\Bl (IY ρ pm) w l (.cells cs)/\l.o = .cells cs
 only:∀h l,pm h=some l->∃i o cs,all[i]?=some o/\isFloat o.op=true/\HH (i+1)=(HH i).new (.cells cs)/\t<=i/\D i=true/\h=(HH i).n
 inj:∀h h' l l',pm h=some l->pm h'=some l'->l.b=l'.b->h=h'
variable {D:Nat->V4} {a:Act} {w:V2} {t:Nat} {ρ pm ρb:fE}
theorem Af.low (E:zL P tb w0 ih all n S HH gg) (I:Af w0 ρb n all (S 0) HH gg D a w t ρ pm) {h:Nat} {l:Pj} (d:pm h=some l):(HH t).n<=h:=by
 obtain⟨i,o,e,b,_,_,c,_,rfl⟩:=I.only h l d;exact E.mono' c (Nat.le_of_lt (bH b))
theorem Af.adopt (E:zL P tb w0 ih all n S HH gg) (I:Af w0 ρb n all (S 0) HH gg D a w t ρ pm) {o:V5} (Y:all[t]?=some o) (hl:tQ o.op=false) (hf:isFloat o.op=true->D t=true):
  ∃c b,Af w0 ρb n all (S 0) HH gg D a w (t+1) c b/\IY c b=IY ρ pm:=by
 have ht:=bH Y;have G:∀j o,all[j]?=some o->tQ o.op=true->(D j=true↔j<t+1):=λj oj N Q=>by
  have q:j≠t:=λe=>by subst e;rw[Y]at N;cases N;rw[hl]at Q;cases Q
  rw[I.lou j oj N Q];omega
 have C:∀j o,all[j]?=some o->isFloat o.op=true->j<t+1->D j=true:=λj oj N ab ah=>by
  by_cases e:j=t
  .subst e;rw[Y]at N;cases N;exact hf ab
  .exact I.flo j oj N ab V7
 -- nothing is taken up
 have H:HH (t+1)=HH t->∃c b,Af w0 ρb n all (S 0) HH gg D a w (t+1) c b/\IY c b=IY ρ pm:=λe=>
  ⟨ρ,pm,⟨ht,G,C,by rw[e];exact I.rel,I.up,I.defers,I.size,I.slot,λi W B f r y h4 K=>by rw[e];exact I.pend i W B f r y V7 K,λh l hp=>by
   have⟨i,W,B,f,r,y,h4,K,h6⟩:=I.only h l hp;refine⟨i,W,B,f,r,y,?_,K,h6⟩
   by_cases e':i=t
   .subst e';rw[e]at y;exact(ach y).elim
   .omega,I.inj⟩,rfl⟩
 cases z:isFloat o.op with
 |false=>exact H (E.quiet Y (by simpa [tQ,z]using hl))
 | true =>
  rcases E.floats Y z with e|⟨B,e⟩
  .exact H e
  have⟨l,hp,U,M,hx,ad,ag⟩:=I.pend t o B Y z e (zAg _) (hf z);have m:ρ (HH t).n=none:=I.rel.fresh _ (zAg _);let c:=ρ.upd (HH t).n l;let b:fE:=λh=>if h=(HH t).n then none else pm h;have k:c (HH t).n=some l:=by simp[c,fE.upd]
  have u:∀h,h≠(HH t).n->c h=ρ h:=λh hh=>by simp[c,fE.upd,hh]
  have O:IY c b=IY ρ pm:=by
   funext h;by_cases d:h=(HH t).n
   .subst d;rw[Az k,Ay m,hp]
   .unfold IY;rw[u h d];simp[b,d]
  have hn:(HH (t+1)).n=(HH t).n+1:=by rw[e];rfl
  -- what the object holds is older
  have aa:∀{g:GV} {v v0:V0} {x:fE},(∀h l,x h=some l->h<(HH (t+1)).n)->Rl (IY ρ pm) g v->Rl x g v0->Rl c g v:=λ{g v v0 x} hlow f h0=>by
   refine aal (λh l0 l1 e0 X=>?_) f h0;have ah:=hlow h l0 e0;by_cases d:h=(HH t).n
   .subst d;rw[Ay m,hp]at X;rw[k];exact X
   .rw[u h d];cases hr:ρ h with
    |some l2=>rw[Az hr]at X;exact X
    |none=>
     rw[Ay hr]at X;have:=I.low E X;omega
  have⟨x,a0,wg,R0,F0⟩:=E.ghost (t+1) ht;have R:∀h l,x h=some l->h<(HH (t+1)).n:=λh l hl=>by
   rcases zAx h (HH (t+1)).n with J|J
   .exact J
   .rw[R0.fresh h J]at hl;cases hl
  have L:(HH (t+1)).get (HH t).n=some (.cells B):=by rw[e,sR,if_pos Z]
  have⟨l0,_,_,ac⟩:=R0.live _ _ L;have⟨ai,T0,q1,q2,q3,q4⟩:=ac;have V:Bl c w l (.cells B):=by
   have⟨ae,T,p1,p2,p3,p4⟩:=ad;refine⟨ae,T,p1,p2,p3,λi g F=>?_⟩
   have⟨v,r1,r2,r3⟩:=p4 i g F;have⟨v0,_,s2,_⟩:=q4 i g F;exact⟨v,r1,aa R r2 s2,r3⟩
  have⟨af,R'⟩:=I.rel.new (o:= .cells B) (l:=l) I.rel.ext (λh o' l' F p=>⟨rfl,λeb=>M ⟨h,o',l',F,p,eb⟩⟩) U V hx ag;rw[<-e]at R';refine⟨c,b,⟨ht,G,C,R',fE.le_trans I.up af,I.defers,I.size,λs g hs=>by rw[O];exact I.slot s g hs,λi W ci f r y h4 K=>?_,λh l1 A=>?_,λh J l1 l2 f r hb=>?_⟩,O⟩
  .have⟨li,a1,a2,a3,a4,a5,a6⟩:=I.pend i W ci f r y V7 K;have q:(HH i).n≠(HH t).n:=λd=>by
    have:=E.apart (bH f) ht y e d;omega
   refine⟨li,by simp[b,q,a1],a2,?_,a4,by rw[O];exact a5,a6⟩
   rintro⟨h,o',l',F,p,eb⟩;rw[e,sR]at F;by_cases d:h=(HH t).n
   .subst d;rw[k]at p;cases p;exact q (I.inj _ _ _ _ a1 hp eb.symm)
   .rw[if_neg d]at F;rw[u h d]at p;exact a3 ⟨h,o',l',F,p,eb⟩
  .have q:h≠(HH t).n:=λd=>by subst d;simp[b]at A
   have A:pm h=some l1:=by simpa [b,q]using A
   have⟨i,W,ci,f,r,y,h4,K,h6⟩:=I.only h l1 A;refine⟨i,W,ci,f,r,y,?_,K,h6⟩
   by_cases e':i=t
   .subst e';exact absurd h6 q
   .omega
  .have f:pm h=some l1:=by
    by_cases d:h=(HH t).n
    .simp[b,d]at f
    .simpa [b,d]using f
   have r:pm J=some l2:=by
    by_cases d:J=(HH t).n
    .simp[b,d]at r
    .simpa [b,d]using r
   exact I.inj h J l1 l2 f r hb
theorem Af.adoptTo (E:zL P tb w0 ih all n S HH gg):∀(d t k:Nat) (ρ pm:fE),Af w0 ρb n all (S 0) HH gg D a w t ρ pm->t+d=k->k<=all.length->(∀j o,t<=j->j<k->all[j]?=some o->tQ o.op=false/\(isFloat o.op=true->D j=true))->
  ∃c b,Af w0 ρb n all (S 0) HH gg D a w k c b/\IY c b=IY ρ pm
 |0,t,k,ρ,pm,I,hd,hk,_=>by
  have:t=k:=V7
  subst this;exact⟨ρ,pm,I,rfl⟩
 |d+1,t,k,ρ,pm,I,hd,hk,h=>by
  have p:all[t]?=some all[t]:=zA0 V7;have⟨m,e⟩:=h t _ (zAg _) V7 p;have⟨i,f,q,s⟩:=I.adopt E p m e;have⟨l,g,r,u⟩:=Af.adoptTo E d (t+1) k i f q V7 hk (λj o m e=>h j o V7 e);exact⟨l,g,r,by rw[u,s]⟩
def Cl (all:V6 V5) (D:Nat->V4):Prop:=∀j k,D j=true->before (rB all) j k=true->k<all.length->D k=true
structure U_ (all:List Oper) (D:Nat->Bool) (k:Nat) (o:Oper):Prop where
 get:all[k]?=some o
 undone:D k=false
 past:∀j,before (rB all) k j=true->j<all.length->D j=true
theorem U_.behind (C:ZR tb all (rB all)) (c:Cl all D) {k:Nat} {o:V5} (e:U_ all D k o) {j:Nat} {b:V5} (h:all[j]?=some b) (g:D j=true) (d:k<j):o.apart all.toArray b=true/\NS tb o.op b.op=true:=by
 cases f:before (rB all) j k with
 |false=>exact C.ind j k b o h e.get d f
 |true=>
  have:=c j k g f (bH e.get);rw[e.undone]at this;cases this
theorem U_.ahead (C:ZR tb all (rB all)) {k:Nat} {o:V5} (f:U_ all D k o) {j:Nat} {b:V5} (e:all[j]?=some b) (c:j<k):D j=true\/b.apart all.toArray o=true/\NS tb b.op o.op=true:=by
 cases d:before (rB all) k j with
 |true=>exact .inl (f.past j d (bH e))
 |false=>exact .inr (C.ind k j o b f.get e c d)
theorem U_.look (E:zL P tb w0 ih all n S HH gg) (q:Cl all D) {k:Nat} {o:V5} (p:U_ all D k o) {s:Nat} {g:GV} (u:s∈o.looksAt all.toArray) (y:HT (S k) s=some g):SlD all (S 0) gg D s g:=by
 have b:∀j c,D j=true->all[j]?=some c->c.dst=some s->j<k:=λj c d f e=>by
  rcases Nat.lt_trichotomy j k with h|h|h
  .exact h
  .subst h;rw[p.undone]at d;cases d
  .have⟨l,_⟩:=p.behind E.chk q f d h;exact absurd u ((Oper.apart_spec l).2.2 s e)
 rcases Ox E.trc k (Nat.le_of_lt (bH p.get)) y with⟨i,z,l,m,r,v,x⟩|⟨l,m⟩
 .refine .inl ⟨i,z,?_,m,r,v,λj c d f e=>?_⟩
  .rcases p.ahead E.chk m l with h|⟨h,_⟩
   .exact h
   .exact absurd u ((Oper.apart_spec h).1 s r)
  .have:=b j c d f e;rcases zAx i j with h|h
   .exact absurd e (x j c h this f)
   .exact h
 .exact .inr ⟨λj c d f e=>l j c (b j c d f e) f e,m⟩
theorem U_.slot (C:ZR tb all (rB all)) (F:Cl all D) {K:GF} {k:Nat} {o:V5} (y:U_ all D k o) (x:∀d,o.dst=some d->d<n) (I:a.tmps.size=n) {z u:fE} (G:z.le u) (q:∀s g,SlD all K gg D s g->Rl z g (a.eval (.tmp s))) {v:V0} (Q:Rl u (gg k) v):
  ∀s g,SlD all K gg (ins D k) s g->Rl u g ((a.put o.dst v).eval (.tmp s)):=λs g L=>by
 have c:∀j r,D j=true->all[j]?=some r->o.dst=some s->r.dst=some s->j<k:=λj r m O f p=>by
  rcases Nat.lt_trichotomy j k with h|h|h
  .exact h
  .subst h;rw[y.undone]at m;cases m
  .have⟨b,_⟩:=y.behind C F O m h;exact absurd p ((Oper.apart_spec b).2.1 s f)
 by_cases f:o.dst=some s
 .have N:gg k=g:=by
   rcases L with⟨i,J,b,l,A,B,E⟩|⟨b,_⟩
   .have R:=E k o (Dg D k) y.get f;by_cases e:i=k
    .subst e;exact B
    .rw[Co e]at b;have:=c i J b l f A;omega
   .exact absurd f (b k o (Dg D k) y.get)
  rw[f,<-N];have H:=x s f;have:(a.put (some s) v).eval (.tmp s)=v:=by simp[Act.put,Act.eval,I,H]
  rw[this];exact Q
 .have M:(a.put o.dst v).eval (.tmp s)=a.eval (.tmp s):=Act.eval_put λd p e=>by cases e;exact f p
  rw[M];refine(q s g ?_).le G;rcases L with⟨i,J,b,l,A,B,E⟩|⟨b,l⟩
  .have e:i≠k:=λe=>by subst e;rw[y.get]at l;cases l;exact f A
   rw[Co e]at b;exact .inl ⟨i,J,b,l,A,B,λj r m=>E j r (Df m)⟩
  .exact .inr ⟨λj r m=>b j r (Df m),l⟩
theorem HL (a:Act) (d:V1 Tmp) (v:V0):(a.put d v).defers=a.defers/\(a.put d v).tmps.size=a.tmps.size:=by
 cases d with
 |none=>exact⟨rfl,rfl⟩
 |some d=>exact⟨rfl,by simp[Act.put]⟩
theorem Af.plain (E:zL P tb w0 ih all n S HH gg) (u:Cl all D) (I:Af w0 ρb n all (S 0) HH gg D a w t ρ pm) {k:Nat} {o:V5} (q:U_ all D k o) (F:tQ o.op=false) (C:isFloat o.op=true->HH (k+1)=HH k) {v:V0} (H:Rl (IY ρ pm) (gg k) v):
  Af w0 ρb n all (S 0) HH gg (ins D k) (a.put o.dst v) w t ρ pm:=by
 have⟨_,f,_⟩:=wT (E.op q.get);have⟨J,K⟩:=HL a o.dst v;refine⟨I.tm,λj A g b=>?_,λj A g x y=>Df (I.flo j A g x y),I.rel,I.up,by rw[J];exact I.defers,by rw[K];exact I.size,q.slot E.chk u f I.size (fE.le_refl _) I.slot H,λi z r c m d s p=>?_,λh l G=>?_,I.inj⟩
 .have e:j≠k:=λe=>by subst e;rw[q.get]at g;cases g;rw[F]at b;cases b
  rw[Co e];exact I.lou j A g b
 .have e:i≠k:=λe=>by
   subst e;rw[q.get]at c;cases c;rw[C m]at d;exact ach d
  rw[Co e]at p;exact I.pend i z r c m d s p
 .have⟨i,z,r,c,m,d,s,p,B⟩:=I.only h l G;exact⟨i,z,r,c,m,d,s,Df p,B⟩
def QD (all:V6 V5) (D:Nat->V4) (t:Nat):Prop:=t=0\/∃o,all[t - 1]?=some o/\tQ o.op=true/\D (t - 1)=true
theorem QD.ins {k:Nat} (h:QD all D t):QD all (ins D k) t:=by
 rcases h with h|⟨o,b,c,d⟩
 .exact .inl h
 .exact .inr ⟨o,b,c,Df d⟩
theorem HK {o:Op} (h:pureOp tb o=true):fS o=false:=by
 unfold pureOp at h;split at h<;>first|rfl|cases h
theorem IK {o:Op} (h:isFloat o=true):fS o=true:=by
 unfold isFloat at h;split at h<;>first|rfl|cases h
theorem NA {o:Op} (h:isFloat o=true):pureOp tb o=false:=by
 cases b:pureOp tb o with
 |false=>rfl
 |true=>have:=HK b;rw[IK h]at this;cases this
theorem Af.reach (E:zL P tb w0 ih all n S HH gg) (u:Cl all D) (I:Af w0 ρb n all (S 0) HH gg D a w t ρ pm) (i:QD all D t) {k:Nat} {o:V5} (r:U_ all D k o) (z:pureOp tb o.op=false) (B:isFloat o.op=false) (m:pW o.op=false):
  ∃q p,Af w0 ρb n all (S 0) HH gg D a w k q p/\IY q p=IY ρ pm:=by
 have F:=bH r.get;have C:t<=k:=by
  rcases i with h|⟨d,x,f,s⟩
  .omega
  .rcases zAx (t - 1) k with h|h
   .omega
   .exfalso;by_cases e:t - 1=k
    .rw[e,r.undone]at s;cases s
    .have⟨_,A⟩:=r.behind E.chk u x s V7;simp only[tQ,zA8,Bool.not_eq_true']at f;have:pureOp tb d.op=false:=by
      cases v:pureOp tb d.op with
      |false=>rfl
      |true=>have:=HK v;rw[f.1]at this;cases this
     have c:pW d.op=false:=by
      cases v:pW d.op with
      |false=>rfl
      |true=>rw[Di v]at f;cases f.1
     simp[NS,z,this,f.1,f.2,m,c]at A
 refine I.adoptTo E (k - t) t k ρ pm V7 V7 λj d x f y=>?_;have g:D j=true\/fS d.op=false\/pureOp tb d.op=true:=by
  rcases r.ahead E.chk y f with h|⟨_,h⟩
  .exact .inl h
  .simp only[NS,z,B,m,Bool.or_false,Bool.and_false,zB5,zA8,Bool.not_eq_true']at h;rcases h with(h|h)|h
   .exact .inr (.inr h)
   .exact .inr (.inl h.1)
   .exact .inr (.inl (Di h.1))
 refine⟨?_,λl=>?_⟩
 .cases c:tQ d.op with
  |false=>rfl
  |true=>
   exfalso;have b:=c;simp only[tQ,zA8,Bool.not_eq_true']at b;rcases g with h|h|h
   .have:=(I.lou j d y c).1 h;omega
   .rw[b.1]at h;cases h
   .have:=HK h;rw[b.1]at this;cases this
 .rcases g with h|h|h
  .exact h
  .rw[IK l]at h;cases h
  .rw[NA l]at h;cases h
theorem Af.frame (E:zL P tb w0 ih all n S HH gg) (c:Cl all D) (I:Af w0 ρb n all (S 0) HH gg D a w t ρ pm) {k:Nat} {o:V5} (e:U_ all D k o):mE (IY ρ pm) n (FN (S k) (o.looksAt all.toArray)) a:=
 ⟨I.defers,I.size,λs g b=>by
  rw[EA]at b;by_cases d:s∈o.looksAt all.toArray
  .rw[if_pos d]at b;exact I.slot s g (e.look E c d b)
  .rw[if_neg d]at b;cases b⟩
theorem Af.frame' (E:zL P tb w0 ih all n S HH gg) (e:Cl all D) {k:Nat} (I:Af w0 ρb n all (S 0) HH gg D a w k ρ pm) {o:V5} (i:U_ all D k o):mE ρ n (FN (S k) (o.looksAt all.toArray)) a:=by
 have F:=I.frame E e i;have⟨u,v,z,p,m⟩:=E.ghost k (Nat.le_of_lt (bH i.get));refine⟨F.defers,F.size,λs g b=>?_⟩
 have q:=F.slot s g b;rw[EA]at b;by_cases j:s∈o.looksAt all.toArray
 .rw[if_pos j]at b;refine aal (λh x l f d=>?_) q (m.slot s g b);cases c:ρ h with
  |some y=>rw[Az c]at d;exact d
  |none=>
   rw[Ay c]at d;have r:=I.low E d;rw[p.fresh h r]at f;cases f
 .rw[if_neg j]at b;cases b
theorem zL.st (E:zL P tb w0 ih all n S HH gg) {k:Nat} {o:V5} (b:all[k]?=some o):HS tb ih all o (FN (S k) (o.looksAt all.toArray)) (HH k)=some (gg k,HH (k+1)):=by
 rw[<-E.trc.st k o b];exact Vt λs c=>by rw[EA,if_pos c]
theorem Af.loads (E:zL P tb w0 ih all n S HH gg) (N:Cl all D) (I:Af w0 ρb n all (S 0) HH gg D a w t ρ pm) (s:QD all D t) {k:Nat} {o:V5} (z:U_ all D k o) (c:pW o.op=true) {h:Nat} {W:GO} (hh:ldH (S k) o.op=some h) (i:(HH k).get h=some W):
    ∃p K J,Af w0 ρb n all (S 0) HH gg D a w p K J/\IY K J=IY ρ pm/\(HH p).get h=some W:=by
  have hk:=bH z.get;have hq:=Di c;have ae:pureOp tb o.op=false:=by cases Q:o.op<;>rw[Q]at c<;>first|rfl|cases c
  have aa:isFloat o.op=false:=by cases Q:o.op<;>rw[Q]at c<;>first|rfl|cases c
  obtain⟨v,V⟩:∃v,(HH k).ver h=some v:=by
    have⟨p,hp,_⟩:=aE.1 (show Gx.ob ((HH k).t.get h) _=some W from i);exact⟨p.1,by unfold GH.ver;rw[hp];rfl⟩
  have⟨v1,v2⟩:=E.vrs k o h v z.get c hh V;rcases zAx k t with H|H
  · -- later than in the text
    rcases s with e|⟨b,y,B,q⟩
    · omega
    have F:=B;simp only[tQ,zA8]at F;have r:before (rB all) (t - 1) k=false:=by
      cases r:before (rB all) (t - 1) k with
      |false=>rfl
      |true=>have:=N _ _ q r hk;rw[z.undone]at this;cases this
    have ab:t - 1≠k:=λe=>by rw[e,z.undone]at q;cases q
    have:=v2 (t - 1) b V7 y F.1 r;rw[show t - 1+1=t by omega]at this;exact⟨t,ρ,pm,I,rfl,by rw[<-E.same (Nat.le_of_lt H) I.tm V this];exact i⟩
  · -- earlier,or there
    let f:Nat->V5->V4:=λj b=>tQ b.op||(isFloat b.op && !D j)
    have first:∀d g,g+d=k->t<=g->(∀j b,t<=j->j<g->all[j]?=some b->f j b=false)->∃p,t<=p/\p<=k/\(∀j b,t<=j->j<p->all[j]?=some b->f j b=false)/\(p=k\/∃A,all[p]?=some A/\f p A=true):=by
      intro d
      induction d with
      |zero=>exact λg e U h=>⟨g,U,V7,h,.inl V7⟩
      | succ d ihd =>
        intro g e U h;have m:all[g]?=some all[g]:=zA0 V7;cases hl:f g all[g]with
        |true=>exact⟨g,U,V7,h,.inr ⟨_,m,hl⟩⟩
        | false =>
          refine ihd (g+1) V7 V7 λj b y B C=>?_;by_cases e:j=g
          · subst e;rw[m]at C;cases C;exact hl
          · exact h j b y V7 C
    have⟨p,ac,ad,R,T⟩:=first (k - t) t V7 (zAg _) (λj b y B=>V7)
    have⟨Y,X,I1,e1⟩:=I.adoptTo E (p - t) t p ρ pm V7 V7 λj b y B C=>by
      have q:=R j b y B C;simp only[f,Bool.or_eq_false_iff,Bool.and_eq_false_iff,Bool.not_eq_false']at q;exact ⟨q.1, λO =>by
          rcases q.2 with L | L; · rw [O] at L; cases L
          · exact L⟩
    refine⟨p,Y,X,I1,e1,?_⟩
    rcases T with e|⟨A,l,x⟩
    · rw[e];exact i
    · simp only[f,zB5,zA8,Bool.not_eq_true']at x;have u:fS A.op=true:=by
        rcases x with h|h
        · simp only[tQ,zA8]at h;exact h.1
        · exact IK h.1
      have G:p<k:=by
        rcases zAx p k with h|h
        · exact h
        · have:p=k:=V7
          subst this;rw[z.get]at l;cases l;rw[hq]at u;cases u
      have M:D p=false:=by
        rcases x with h|h
        · cases hd:D p with
          |false=>rfl
          |true=>have:=(I.lou p A l h).1 hd;omega
        · exact h.2
      have r:before (rB all) k p=false:=by
        cases r:before (rB all) k p with
        |false=>rfl
        |true=>have:=z.past p r V7;rw[M]at this;cases this
      rw[E.same (Nat.le_of_lt G) (Nat.le_of_lt hk) (v1 p A G l u r) V];exact i
theorem Af.step (E:zL P tb w0 ih all n S HH gg) (z:Cl all D) (I:Af w0 ρb n all (S 0) HH gg D a w t ρ pm) (m:QD all D t) {k:Nat} {o:V5} (A:U_ all D k o) {Q:Exit->Act->V2->Prop} {K:Act->V2->Prop}
  (hK:∀a' w' t' aY O,Af w0 ρb n all (S 0) HH gg (ins D k) a' w' t' aY O->QD all (ins D k) t'->K a' w'):Sx.wpOp P all.toArray Q k K a w:=by
 have hk:=bH A.get;have⟨_,ai,aS⟩:=wT (E.op A.get);have am:=E.st A.get;unfold Sx.wpOp;simp only[List.getElem?_toArray,A.get];cases hp:pureOp tb o.op with
 | true =>
  have Y:tQ o.op=false:=by simp[tQ,HK hp]
  have aF:isFloat o.op=false:=by
   cases hf:isFloat o.op with
   |false=>rfl
   |true=>rw[NA hf]at hp;cases hp
  have F:=I.frame E z A;rcases Ht F am with⟨N,C⟩|⟨N,C,hH⟩
  .rw[if_pos N];have aG:NY o.op=true:=by
    rcases aS with h|⟨c,f,y,G⟩
    .exact h
    .have⟨a8,xs,ts⟩:=c;simp only at G;rw[y,G]at hp;cases hp
   have⟨_,v,hv,u⟩:=aby (P:=P) E.tab F hp aG C;left;simp only[Oper.wp,u w,Oper.upon];exact hK _ _ t ρ pm (I.plain E z A Y (λh=>by rw[aF]at h;cases h) hv) m.ins
  .rw[if_neg (by rw[N];simp)];exact hK _ _ t ρ pm (I.plain E z A Y (λh=>by rw[aF]at h;cases h) (by rw[C];exact .un)) m.ins
 | false =>
  cases hf:isFloat o.op with
  | true =>
   have Y:tQ o.op=false:=by simp[tQ,hf]
   have F:=I.frame E z A;rcases PL (P:=P) E.tab hf F am with⟨N,C,hH⟩|⟨N,cs,a',T',hH,hC,a0,u⟩
   .rw[if_neg (by rw[N];simp)];exact hK _ _ t ρ pm (I.plain E z A Y (λ_=>hH) (by rw[C];exact .un)) m.ins
   .rw[if_pos N];have⟨V,hV,aI⟩:=u w;left;simp only[Oper.wp,hV,Oper.upon];have aJ:t<=k:=by
     rcases zAx k t with h|h
     .have:=I.flo k o A.get hf h;rw[A.undone]at this;cases this
     .exact h
    let l:Pj:=⟨w.heap.size,0,a'.size,.cells a' T',.cells cs⟩
    have e:Qx w (w.alloc (.cells a' T')):=(Below.refl _ _).alloc (zAg _) _;have aX:ρ (HH k).n=none:=I.rel.fresh _ (E.mono' aJ V7);have aT:pm (HH k).n=none:=by
     cases U:pm (HH k).n with
     |none=>rfl
     |some W=>
      have⟨i,L,R,y,G,h3,h4,h5,h6⟩:=I.only _ _ U;have:=E.apart (bH y) hk h3 hH h6.symm;subst this;rw[A.undone]at h5;cases h5
    let O:=pm.upd (HH k).n l;have M:O (HH k).n=some l:=by simp[O,fE.upd]
    have J:∀h,h≠(HH k).n->O h=pm h:=λh hh=>by simp[O,fE.upd,hh]
    have ad:(IY ρ pm).le (IY ρ O):=λh W y=>by
     cases H:ρ h with
     |some l2=>rw[Az H]at y;rw[Az H];exact y
     |none=>
      rw[Ay H]at y;rw[Ay H,J h (λeh=>by subst eh;rw[aT]at y;cases y)];exact y
    have aP:IY ρ O (HH k).n=some l:=by rw[Ay aX,M]
    have⟨p1,p2⟩:=HL a o.dst V;have az:∀h W,pm h=some W->W.b<w.heap.size:=λh W y=>by
     obtain⟨i,L,R,q1,q2,q3,q4,q5,rfl⟩:=I.only _ _ y;have⟨l2,r1,_,_,r4,_⟩:=I.pend i L R q1 q2 q3 q4 q5;rw[y]at r1;cases r1;exact(zAh.1 r4).1
    refine hK _ _ t ρ O ⟨I.tm,λj oj hj ak=>?_,λj oj hj ao aD=>Df (I.flo j oj hj ao aD),I.rel.ext' e,I.up,by rw[p1];exact I.defers,by rw[p2];exact I.size,A.slot E.chk z ai I.size ad I.slot (aI _ aP),λi L R y G h3 h4 h5=>?_,λh W ar=>?_,λh h' W l2 y G hb=>?_⟩ m.ins
    .have e:j≠k:=λe=>by subst e;rw[A.get]at hj;cases hj;rw[Y]at ak;cases ak
     rw[Co e];exact I.lou j oj hj ak
    .by_cases ei:i=k
     .subst ei;rw[hH]at h3;have:=Zi h3;subst this;refine⟨l,M,.inl I.rel.ext.size,?_,heap_alloc_new w _,⟨a',T',heap_alloc_new w _,rfl,by show 0+cs.length<=a'.size;omega,λj g C=>?_⟩,rfl⟩
      .rintro⟨h,o',l',C,ax,eb⟩;have⟨l2,r1,_,r3⟩:=I.rel.live h o' C;rw[ax]at r1;cases r1;have:=r3.lt;rw[eb]at this;exact absurd this (Nat.lt_irrefl _)
      .have⟨x,hx,aU⟩:=hC.r.get C;rw[zAl]at hx;exact⟨x,by show a'[0+j]?=some x;simpa using hx,aU.le ad,Rb hC.one hx⟩
     .rw[Co ei]at h5;have⟨W,a1,a2,a3,a4,a5,a6⟩:=I.pend i L R y G h3 h4 h5;have aR:(HH i).n≠(HH k).n:=λeh=>ei (E.apart (bH y) hk h3 hH eh);have hb:=az _ _ a1;exact⟨W,by rw[J _ aR];exact a1,a2,a3,by rw[e.block _ hb];exact a4,a5.move ad (e.block _ hb),a6⟩
    .by_cases eh:h=(HH k).n
     .exact⟨k,o,cs,A.get,hf,hH,aJ,Dg D k,eh⟩
     .rw[J h eh]at ar;have⟨i,L,R,q1,q2,q3,q4,q5,q6⟩:=I.only h W ar;exact⟨i,L,R,q1,q2,q3,q4,Df q5,q6⟩
    .by_cases eh:h=(HH k).n
     .by_cases ah:h'=(HH k).n
      .rw[eh,ah]
      .rw[J h' ah]at G;subst eh;rw[M]at y;cases y;have:=az _ _ G;rw[<-hb]at this;exact absurd this (Nat.lt_irrefl _)
     .rw[J h eh]at y;by_cases ah:h'=(HH k).n
      .subst ah;rw[M]at G;cases G;have:=az _ _ y;rw[hb]at this;exact absurd this (Nat.lt_irrefl _)
      .rw[J h' ah]at G;exact I.inj h h' W l2 y G hb
  | false =>
   cases aj:pW o.op with
   | true =>
    have Y:tQ o.op=false:=by simp[tQ,Di aj]
    have F0:=I.frame E z A;rcases Ht F0 am with⟨N,C⟩|⟨N,C,hH⟩
    .rw[if_pos N];have aH:∃T x,o.op = .load T x:=by
      cases ho:o.op<;>rw[ho]at aj<;>first|exact⟨_,_,rfl⟩|cases aj
     have⟨T,x,al⟩:=aH;rw[al]at C;have⟨va,aL,C⟩:=aE.1 (show ob (lH (FN (S k) (o.looksAt all.toArray)) x) _=some (gg k,HH (k+1))from C);have⟨g',av,aQ⟩:=aE.1 C;have eg:g'=gg k:=by
      have:=congrArg (λo=>o.map Prod.fst) (show some (g',HH k)=some (gg k,HH (k+1))from aQ);simpa using this
     rw[eg]at av;have⟨q,U,hc⟩:=aE.1 (show ob va.asP _=some (gg k)from av);have⟨cs,aO,hc⟩:=aE.1 hc;have aA:=jT.1 aO;have aW:∀s,x = .tmp s->s∈o.looksAt all.toArray:=λs e=>List.mem_append_left _ (List.mem_filterMap.2 ⟨.tmp s,by rw[al,e];simp[Op.operands],rfl⟩);have aM:lH (S k) x=some va:=by
      rw[<-aL];cases x with
      |tmp s=>
       show HT (S k) s=HT (FN (S k) (o.looksAt all.toArray)) s;rw[EA,if_pos (aW s Z)]
      |_=>rfl
     have hh:ldH (S k) o.op=some q.1:=by
      rw[al];show ob (lH (S k) x) _=_;rw[aM];show ob va.asP _=_;rw[U];rfl
     have⟨p,ag,af,B,ap,aB⟩:=I.loads E z m A aj hh aA;have aK:=cV F0 aL;have aV:Rl ag va (a.eval x):=by
      rw[Gu U]at aK ⊢;have⟨l,Y,e⟩:=aK.ptr_inv;have⟨W,aC,_⟩:=B.rel.live _ _ aB;rw[<-ap,Az aC]at Y;cases Y;rw[e];exact .ptr _ aC
     have ay:wE tb T va (HH p)=some (gg k):=by
      show ob va.asP _=_;rw[U];show ob ((HH p).cells q.1) _=_;rw[jT.2 aB];exact hc
     have⟨X,_,l,_,_,_,hX,u⟩:=Oz (P:=P) E.tab B.rel aV ay;left;have H:(execOp a.eval o).run P w = .ok (.value X) w:=by
      have:=u w Z;have⟨d,op,ty,a9,a7,gd⟩:=o;simp only at al;subst al;simp[execOp,this]
     simp only[Oper.wp,H,Oper.upon];exact hK _ _ t ρ pm (I.plain E z A Y (λh=>by rw[hf]at h;cases h) (by rw[<-ap];exact hX.le JA)) m.ins
    .rw[if_neg (by rw[N];simp)];exact hK _ _ t ρ pm (I.plain E z A Y (λh=>by rw[hf]at h;cases h) (by rw[C];exact .un)) m.ins
   |false=>
   have⟨ag,af,B,ap⟩:=I.reach E z m A hp hf aj;have F:=B.frame' E z A;cases ae:fS o.op with
   | false =>
    have Y:tQ o.op=false:=by simp[tQ,ae]
    have an:∀v,Rl ag (gg k) v->Af w0 ρb n all (S 0) HH gg (ins D k) (a.put o.dst v) w t ρ pm:=λv hv=>
     I.plain E z A Y (λh=>by rw[hf]at h;cases h) (by rw[<-ap];exact hv.le JA)
    rcases Mz E.tab (E.call w0) (E.op A.get) F B.rel am with⟨N,hs⟩|⟨N,C,hH⟩
    .rw[if_pos N];left;rcases hs with⟨_,_,_,_,v,hv,u⟩|⟨_,_,_,v,_,_,_,_,_,hv,u⟩|⟨_,_,_,v,hv,u⟩|⟨U,_⟩
     .simp only[Oper.wp,u w,Oper.upon];exact hK _ _ t ρ pm (an v hv) m.ins
     .simp only[Oper.wp,u w Z,Oper.upon];exact hK _ _ t ρ pm (an v hv) m.ins
     .simp only[Oper.wp,u,Oper.upon];exact hK _ _ t ρ pm (an v hv) m.ins
     .rw[ae]at U;cases U
    .rw[if_neg (by rw[N];simp)];exact hK _ _ t ρ pm (an undef (by rw[C];exact .un)) m.ins
   | true =>
    have Y:tQ o.op=true:=by simp[tQ,ae,hf]
    have aq:∀(i:Nat) (L:V5) (R:V6 GV),all[i]?=some L->isFloat L.op=true->i≠k:=λi L R y G e=>by
     subst e;rw[A.get]at y;cases y;rw[hf]at G;cases G
    have aw:∀j o,all[j]?=some o->tQ o.op=true->(ins D k j=true↔j<k+1):=λj oj hj ak=>by
     by_cases e:j=k
     .subst e;simp[Dg]
     .rw[Co e,B.lou j oj hj ak];omega
    have au:∀j o,all[j]?=some o->isFloat o.op=true->j<k+1->ins D k j=true:=λj oj hj ao aD=>by
     have:=aq j oj [] hj ao;exact Df (B.flo j oj hj ao V7)
    have aa:∀h l,af h=some l->∃i o cs,all[i]?=some o/\isFloat o.op=true/\HH (i+1)=(HH i).new (.cells cs)/\k+1<=i/\ins D k i=true/\h=(HH i).n:=λh l ar=>by
     have⟨i,L,R,q1,q2,q3,q4,q5,q6⟩:=B.only h l ar;have:=aq i L R q1 q2;exact⟨i,L,R,q1,q2,q3,V7,Df q5,q6⟩
    have ac:QD all (ins D k) (k+1):= .inr ⟨o,by simpa using A.get,Y,by simp[Dg]⟩;rcases Mz E.tab (E.call B.rel.base) (E.op A.get) F B.rel.rebase am with⟨N,hs⟩|⟨N,C,hH⟩
    .rw[if_pos N];left;rcases hs with⟨U,_⟩|⟨U,_⟩|⟨U,_⟩|⟨_,u⟩
     .rw[ae]at U;cases U
     .rw[ae]at U;cases U
     .rw[ae]at U;cases U
     refine NX (u _ λaN w2 v ad R2 hv=>hK _ _ (k+1) aN af ?_ ac);have⟨R3,ab⟩:=B.rel.back R2;have hj:(IY ag af).le (IY aN af):=λh l y=>by
      cases H:ag h with
      |some l2=>rw[Az H]at y;cases y;exact Az (ad _ _ H)
      |none=>
       rw[Ay H]at y;obtain⟨i,L,R,q1,q2,q3,q4,q5,rfl⟩:=aa h l y;rw[Ay (R2.fresh _ (E.mono' q4 (Nat.le_of_lt (bH q1))))];exact y
     have⟨p1,p2⟩:=HL a o.dst v;refine⟨hk,aw,au,R3,fE.le_trans B.up ad,by rw[p1];exact B.defers,by rw[p2];exact B.size,A.slot E.chk z ai B.size hj B.slot (hv.le JA),λi L R y G h3 h4 h5=>?_,aa,B.inj⟩
     rw[Co (aq i L R y G)]at h5;have⟨W,a1,a2,a3,a4,a5,a6⟩:=B.pend i L R y G h3 V7 h5;have hb:W.b<w.heap.size:=(zAh.1 a4).1;refine⟨W,a1,a2,?_,by rw[ab _ hb a3];exact a4,a5.move hj (ab _ hb a3),a6⟩
     rintro⟨h,o',l',C,ax,eb⟩;have⟨l2,r1,r2,_⟩:=R2.live h o' C;rw[ax]at r1;cases r1;rw[eb]at r2;rcases r2 with r2|r2
     .have:w.heap.size<=W.b:=r2;omega
     .exact a3 r2
    .rw[if_neg (by rw[N];simp)];have⟨p1,p2⟩:=HL a o.dst undef;refine hK _ _ (k+1) ag af ⟨hk,aw,au,by rw[hH];exact B.rel,B.up,by rw[p1];exact B.defers,by rw[p2];exact B.size,A.slot E.chk z ai B.size (fE.le_refl _) B.slot (by rw[C];exact .un),λi L R y G h3 h4 h5=>?_,aa,B.inj⟩ ac;rw[Co (aq i L R y G)]at h5;rw[hH];exact B.pend i L R y G h3 V7 h5
theorem Af.done (E:zL P tb w0 ih all n S HH gg) (I:Af w0 ρb n all (S 0) HH gg D a w t ρ pm) (b:∀i,i<all.length->D i=true):∃f,ρb.le f/\g_ w0 f (HH all.length) w/\mE f n (S all.length) a:=by
 have⟨d,e,k,_⟩:=I.adoptTo E (all.length - t) t all.length ρ pm (by have:=I.tm;omega) (zAg _) λj q m p c=>by
  refine⟨?_,λ_=>b j p⟩
  cases B:tQ q.op with
  |false=>rfl
  |true=>have:=(I.lou j q c B).1 (b j p);omega
 refine⟨d,k.up,k.rel,k.defers,k.size,λs g A=>?_⟩
 have r:∀h,e h=none:=λh=>by
  cases C:e h with
  |none=>rfl
  |some l=>
   have⟨i,H,G,m,_,_,u,_⟩:=k.only h l C;have:=bH m;omega
 have c:IY d e=d:=by
  funext h;unfold IY;rw[r];cases d h<;>rfl
 have F:SlD all (S 0) gg D s g:=by
  rcases Ox E.trc all.length (zAg _) A with⟨i,o,m,p,v,u,x⟩|⟨m,p⟩
  .refine .inl ⟨i,o,b i m,p,v,u,λj q y c z=>?_⟩;rcases zAx i j with h|h
   .exact absurd z (x j q h (bH c) c)
   .exact h
  .exact .inr ⟨λj q y c=>m j q (bH c) c,p⟩
 have:=k.slot s g F;rwa[c]at this
theorem YU (E:zL P tb w0 ih all n S HH gg) {Q:Exit->Act->V2->Prop} (hQ:∀c K M,ρb.le c->g_ w0 c (HH all.length) M->mE c n (S all.length) K->Q .normal K M):
  ∀(d:Nat) (L:V6 Nat) (b:Array V4) (a:Act) (w:V2) (t:Nat) (ρ pm:fE),L.length<=d->b.size=all.length->(∀i,i<all.length->b.getD i false=false->i∈L)->Cl all (λj=>b.getD j false)->
  Af w0 ρb n all (S 0) HH gg (λj=>b.getD j false) a w t ρ pm->QD all (λj=>b.getD j false) t->Sx.wpAny P .any all.toArray Q d b a w:=by
 intro d
 induction d with
 | zero =>
  intro L b a w t ρ pm G J g m I h;have hL:L=[]:=zAo V7;subst hL;have f:∀i,i<all.length->b.getD i false=true:=λi r=>by
   cases u:b.getD i false with
   |true=>rfl
   |false=>have:=g i r u;simp at this
  refine⟨?_,?_⟩
  .rw[List.eq_nil_iff_forall_not_mem];intro i r;have⟨l,o,s,_⟩:=mem_ready.1 r;have W:i<all.length:=by have:=(zAh.1 s).1;simpa using this
   have:=f i W;have hs:i<b.size:=V7
   simp[hs]at this l;rw[l]at this;cases this
  .have⟨c,l,N,O⟩:=I.done E f;exact hQ c a w l N O
 | succ d ihf =>
  intro L b a w t ρ pm G J g m I h;refine⟨λY=>?_,λk hk=>?_⟩
  .have f:∀i,i<all.length->b.getD i false=true:=by
    intro i
    induction i using Nat.strongRecOn with
    | ind i ihi =>
     intro r;cases u:b.getD i false with
     |true=>rfl
     | false =>
      exfalso;have s:all[i]?=some all[i]:=zA0 r;have H:i∈Region.ready .any all.toArray b:=by
       refine mem_ready.2 ⟨?_,all[i],V8,λe R v=>?_⟩
       .have hs:i<b.size:=V7
        simp[hs]at u ⊢;exact u
       .have U:e.on∈xL all[i]:=zAr.2 ⟨e,List.mem_filter.2 ⟨by simpa using R,v⟩,rfl⟩;have:=(E.chk.edge i _ s e.on U).1;exact ihi e.on this V7
      rw[Y]at H;simp at H
   have⟨c,l,N,O⟩:=I.done E f;exact hQ c a w l N O
  .have⟨l,o,X,q⟩:=mem_ready.1 hk;have s:all[k]?=some o:=by simpa using X
   have V:k<all.length:=bH s;have F:k<b.size:=V7
   have x:b.getD k false=false:=by simp[F]at l ⊢;exact l
   have hr:U_ all (λj=>b.getD j false) k o:=by
    refine⟨s,x,λj v B=>?_⟩
    have⟨_,e,R,hej⟩:=E.chk.trans k o s j v B;obtain⟨ed,T,rfl⟩:=zAr.1 R;have⟨z,A⟩:=List.mem_filter.1 T;have hl:=q ed (by simpa using z) A;rcases hej with rfl|hej
    .exact hl
    .exact m _ _ hl hej B
   have y:(λj=>(b.setIfInBounds k true).getD j false)=ins (λj=>b.getD j false) k:=by
    funext j;by_cases e:j=k
    .subst e;rw[Dg];simp[F]
    .rw[Co e];exact getD_set_ne false (Ne.symm e)
   refine I.step E m h hr λK M t' c aa I' p=>ihf (L.erase k) _ K M t' c aa ?_ (by simp[J]) (λi r u=>?_) ?_ (by rw[y];exact I') (by rw[y];exact p)
   .have hm:=g k V x;rw[List.length_erase_of_mem hm];omega
   .have e:i≠k:=λe=>by
     subst e;have:=congrFun y i;rw[Dg]at this;rw[u]at this;cases this
    have:b.getD i false=false:=by
     have:=congrFun y i;rw[Co e]at this;rw[<-this];exact u
    exact(List.mem_erase_of_ne e).2 (g i r this)
   .rw[y];intro j k' B v C;by_cases e:j=k
    .subst e;exact Df (hr.past k' v C)
    .rw[Co e]at B;exact Df (m j k' B v C)
theorem Q_ (hG:gQ P tb) (e:∀w0:fO gs,uP P w0 ih) (hm:P.follows .mixedOrders=true) {b:V6 V5} {id:Nat} (f:b.all (KP n)=true) (N:chkF tb b (rB b)=true) {k:GS->RS} {s:GS} {p:SE} {ρ:fE} {a:Act} {w:V2} {Q:Exit->Act->V2->Prop} (F:mE ρ n s.σ a) (R:g_ w0 ρ s.H w) (h:(Il tb ih b k b s=some p/\HD b pW=true)\/evW tb ih b (rB b) k b 0 [] [] s=some p)
  (r:∀G m I L,k G=some p->ρ.le m->mE m n G.σ I->g_ w0 m G.H L->Q .normal I L):(Code.region id b.toArray true).wpr none P Q a w:=by
 have W:b.all kC=true:=zA7.2 λo U=>(wT (zA7.1 f o U)).1;obtain⟨S,HH,gg,z,A,T,C,c⟩:∃S HH gg,S 0=s.σ/\HH 0=s.H/\Trc tb ih b b S HH gg/\(∀k y h v,b[k]?=some y->pW y.op=true->ldH (S k) y.op=some h->(HH k).ver h=some v->
   (∀j u,j<k->b[j]?=some u->fS u.op=true->before (rB b) k j=false->(HH j).ver h=some v)/\(∀j u,k<j->b[j]?=some u->fS u.op=true->before (rB b) j k=false->(HH (j+1)).ver h=some v))/\k ⟨S b.length,HH b.length⟩=some p:=by
  rcases h with⟨h,ho⟩|h
  .have⟨S,HH,gg,z,A,T,c⟩:=PC b s h;refine⟨S,HH,gg,z,A,T,λk y h v r K _ _=>⟨λj u O q x B=>?_,λj u O q x B=>?_⟩,c⟩
   .rcases JG ho r q K x with d|d
    .rw[d]at B;cases B
    .have:=((Kr N).trans j u q k d (bH r)).1;omega
   .rcases JG ho r q K x with d|d
    .have:=((Kr N).trans k y r j d (bH q)).1;omega
    .rw[d]at B;cases B
  .have⟨S,HH,gg,z,A,T,V,c⟩:=MA b 0 [] [] s h;exact⟨S,HH,gg,z,A,T,λk y h v r K hh hv=>by have:=V.lo k y h v r K hh hv;simpa using this,c⟩
 rw[<-z]at F;rw[<-A]at R;have E:zL P tb w0 ih b n S HH gg:=⟨hG,e,f,Kr N,T,C,Qb hG (e w0) f T F R _ (zAg _)⟩
 have J:∀j,(Array.replicate b.length false).getD j false=false:=λj=>by
  by_cases h:j<b.length<;>simp[h]
 refine Hk W hm ?_;have Y:b.toArray.size=b.length:=V8
 rw[Y];refine YU (ρb:=ρ) E (λm I L h0 d M=>r ⟨S b.length,HH b.length⟩ m I L c h0 M d) b.length (List.range b.length) _ a _ 0 ρ (λ_=>none) V8 V8 (λi hi _=>zAj.2 hi) (λj k' q=>by simp only[J]at q;cases q) ?_ (.inl Z);refine⟨Nat.zero_le _,λj o _ _=>by simp only[J];simp,λj o _ _ h=>absurd h (zB8 j),R.ext' ((Below.refl _ _).drew),fE.le_refl _,F.defers,F.size,λG g hs=>?_,λi o cs _ _ _ _ h5=>(by simp only[J]at h5;cases h5),λh l X=>(by cases X),λh h' l l' X=>(by cases X)⟩
 rcases hs with⟨i,o,d,_⟩|⟨_,M⟩
 .simp only[J]at d;cases d
 .exact(F.slot G g M).le JA
end
def Ki (c:TB) (n:Nat):Code->V4
 | .skip | .exit _ | .ret=>true
 | .region _ ops dr=>ops.toList.all (KP n)&&(!dr||chkF c ops.toList (rB ops.toList))
 | .seq a b=>Ki c n a&&Ki c n b
 | .cond _ a b=>Ki c n a&&Ki c n b
 | .block _ b=>Ki c n b
 | .loop b=>Ki c n b
 |_=>false
section
variable {P:Program} {G:GP} {tb:TB} {Fs:FT} {gs:Cf} {w0:fO gs}
def Gm (P:Program) (c:Code) (Q:Exit->Act->V2->Prop) (a:Act) (w:V2):Prop:=
 ∀(b:Frame) (k:V6 Item) (d:V6 Frame),b.roundOf=(FR none).round->(FR none).fn b.fn->(FR none).room (d.length+1+0)->
  ∃e f g,Q e f g/\ArrivesIn (Machine.fenced P (FR none)) P (lone (b.atR a (.code c :: .inLoop c::k)) d w) b k d e f g
theorem Gm.loop {c:Code} {Q:Exit->Act->V2->Prop} {a:Act} {w:V2} (h:Gm P c Q a w):(Code.loop c).wpr none P Q a w:=by
 intro b k l f g i;have⟨e,j,n,m,d⟩:=h b k l f g i;exact⟨e,j,n,m,.of_steps (.one (fenced_calm g i Z) stepR_loop) d⟩
theorem Gm.round {c:Code} {Q:Exit->Act->V2->Prop} {a:Act} {w:V2} (h:c.wpr none P (Exit.then (Gm P c Q) Q) a w):Gm P c Q a w:=by
 intro b k t p r s;have⟨e,f,g,m,d⟩:=h b (.inLoop c::k) t p r s;cases e with
 |normal=>
  have⟨o,n,q,j,i⟩:=m b k t p r s;exact⟨o,n,q,j,.of_steps (StepsIn.trans d (.one (fenced_calm r s Z) stepR_inLoop)) i⟩
 |exit id=>exact⟨_,f,g,m,.pass (x:= .inLoop c) Z (λ_ _=>.inl V8) d⟩
 |goto l=>exact⟨_,f,g,m,.pass (x:= .inLoop c) Z (λ_ _=>.inl V8) d⟩
 |ret=>exact⟨_,f,g,m,.pass (x:= .inLoop c) Z (λ_ _=>.inl V8) d⟩
 |panic u=>exact⟨_,f,g,m,.pass (x:= .inLoop c) Z (λ_ _=>.inl V8) d⟩
 |outgrown=>exact⟨_,f,g,m,.pass (x:= .inLoop c) Z (λ_ _=>.inl V8) d⟩
noncomputable def MB (a:Cx) (id:Nat) (s:GS):RS:=some ⟨.exit id,EI s.σ (mT (Ei a.env id)),s.H⟩
structure aac {gs:Cf} (w0:fO gs) (tb:TB) (n:Nat) (cx:Cx) (k:GS->RS) (out:SE) (ρ:fE) (Q:Exit->Act->World->Prop):Prop where
 k:∀s' ρ' a' w',k s'=some out->ρ.le ρ'->mE ρ' n s'.σ a'->g_ w0 ρ' s'.H w'->Q .normal a' w'
 x:∀id s' ρ' a' w',MB cx id s'=some out->ρ.le ρ'->mE ρ' n s'.σ a'->g_ w0 ρ' s'.H w'->Q (.exit id) a' w'
 r:∀s' ρ' a' w',VZ tb cx s'=some out->ρ.le ρ'->mE ρ' n s'.σ a'->g_ w0 ρ' s'.H w'->Q .ret a' w'
def Kn (P:Program) {gs:Cf} (w0:fO gs) (tb:TB) (l:LH):Prop:=∀b h j H d,l b h j H=some d->∀n k i a w Q,Ki tb n b=true->lD (mT (live (.loop b) 0 h)) j some=some k->mE i n k a->g_ w0 i H w->
 (∀id e c f g,MB h id e=some d->i.le c->mE c n e.σ f->g_ w0 c e.H g->Q (.exit id) f g)->
 (∀e c f g,VZ tb h e=some d->i.le c->mE c n e.σ f->g_ w0 c e.H g->Q .ret f g)->Gm P b Q a w
theorem RA {b:Cx} {s:GS} {a:SE} (h:VZ tb b s=some a):a.e = .ret:=by
 have⟨c,_,h⟩:=aE.1 (show ob (Ud tb s b.res) _=some a from h);cases h;rfl
theorem CY {b:Cx} {id:Nat} {s:GS} {a:SE} (h:MB b id s=some a):a.e = .exit id:=by cases h;rfl
theorem VX {b:V6 Nat} {s:GS} {a:SE} (h:JK b s=some a):a.e = .normal/\a.vs=EI s.σ b/\a.H=s.H:=by cases h;exact⟨rfl,rfl,rfl⟩
theorem VD {n:Nat} {m:Cx} {j:V6 Nat} {k:GS->RS} {o b:SE} {l:fE} {Q:Exit->Act->V2->Prop} (L:aac w0 tb n m k b l Q) (h:lD j o.vs (λg=>k ⟨g,o.H⟩)=some b) {c:GS} {a:fE} {d:Act} {f:V2}
  (r:o.vs=EI c.σ j) (q:o.H=c.H) (e:l.le a) (F:mE a n c.σ d) (R:g_ w0 a c.H f):Q .normal d f:=by
 have⟨g,i,p⟩:=tG h;rw[r]at i;exact L.k ⟨g,o.H⟩ a d f p e (MH F i) (by rw[q];exact R)
theorem Fe {M:CH} {W:LH} (O:gQ P tb) (V:P.follows .mixedOrders=true) (j:∀w0:fO gs,uP P w0 M) (p:Kn P w0 tb W) {n:Nat}:∀(c:Code) (m:Nat) (f:Cx) (k:GS->RS) (s:GS) (d:SE) (q:fE) (a:Act) (w:V2) (Q:Exit->Act->V2->Prop),
  Ki tb n c=true->evC tb M W c m f k s=some d->mE q n s.σ a->g_ w0 q s.H w->aac w0 tb n f k d q Q->c.wpr none P Q a w
 | .skip,m,f,k,s,d,q,a,w,Q,_,h,F,R,L=>UK (L.k s q a w h (fE.le_refl _) F R)
 | .region id ops dr, m, f, k, s, d, q, a, w, Q, ho, h, F, R, L =>by
  have l:ops.toList.all (KP n)=true/\(!dr||chkF tb ops.toList (rB ops.toList))=true:=by simpa [Ki]using ho
  have ad:ops.toList.all kC=true:=zA7.2 λo ac=>(wT (zA7.1 l.1 o ac)).1;have N:Bool.casesOn (motive:=λ_=>RS) (aja dr ops.toList) (Il tb M ops.toList k ops.toList s) (evW tb M ops.toList (rB ops.toList) k ops.toList 0 [] [] s)=some d:=h;have e:ops=ops.toList.toArray:=V8
  cases dr with
  |false=>
   rw[e];exact wF ad (Js O (j w0) ops.toList s q a w l.1 F R N L.k)
  | true =>
   rw[e];have hF:chkF tb ops.toList (rB ops.toList)=true:=by simpa using l.2
   have u:(Il tb M ops.toList k ops.toList s=some d/\HD ops.toList pW=true)\/evW tb M ops.toList (rB ops.toList) k ops.toList 0 [] [] s=some d:=by
    cases T:aja true ops.toList with
    |true=>rw[T]at N;exact .inr N
    |false=>
     rw[T]at N;have:(!HD ops.toList pW)=false:=T;exact .inl ⟨N,by simpa using this⟩
   exact Q_ O j V l.1 hF F R u L.k
 | .seq x y,m,f,k,s,d,q,a,w,Q,ho,h,F,R,L=>by
  have l:Ki tb n x=true/\Ki tb n y=true:=by simpa [Ki]using ho
  refine Yr (Fe O V j p x (live y m f) f (evC tb M W y m f k) s d q a w _ l.1 h F R ⟨λA t E I z g B C=>?_,L.x,L.r⟩);exact Fe O V j p y m f k A d t E I Q l.2 z B C ⟨λs2 K X w2 J u=>L.k s2 K X w2 J (fE.le_trans g u),λid s2 K X w2 J u=>L.x id s2 K X w2 J (fE.le_trans g u),λs2 K X w2 J u=>L.r s2 K X w2 J (fE.le_trans g u)⟩
 | .cond x thn els, m, f, k, s, d, q, a, w, Q, ho, h, F, R, L =>by
  have l:Ki tb n thn=true/\Ki tb n els=true:=by simpa [Ki]using ho
  have⟨v,hv,h⟩:=aE.1 (show ob (lH s.σ x) _=some d from h);have⟨b,U,h⟩:=aE.1 h;have⟨o,J,h⟩:=aE.1 (show ob _ (λo=>Ex.casesOn (motive:=λ_=>RS) o.e (lD (mT m) o.vs λσ=>k ⟨σ,o.H⟩) (λ_=>some o) (some o))=some d from h);have hx:=cV F hv;rw[Ef U]at hx;have L':aac w0 tb n f (JK (mT m)) o q Q:=by
   refine⟨λA t E I z g B C=>?_,λid A t E I z g B C=>?_,λA t E I z g B C=>?_⟩
   .have⟨D,e2,e3⟩:=VX z;rw[D]at h;exact VD L h e2 e3 g B C
   .have D:=CY z;rw[D]at h;cases h;exact L.x id A t E I z g B C
   .have D:=RA z;rw[D]at h;cases h;exact L.r A t E I z g B C
  refine Hj hx.bool_inv (λab=>?_) (λaa=>?_)
  .rw[ab]at J;exact Fe O V j p thn m f (JK (mT m)) s o q a w Q l.1 J F R L'
  .rw[aa]at J;exact Fe O V j p els m f (JK (mT m)) s o q a w Q l.2 J F R L'
 | .block id b, m, f, k, s, d, q, a, w, Q, ho, h, F, R, L =>by
  have l:Ki tb n b=true:=by simpa [Ki]using ho
  have⟨o2,u,h⟩:=aE.1 (show ob (nB id (evC tb M W b m ⟨f.res,f.retm,(id,m)::f.env⟩ (JK (mT m)) s)) (λo=>Ex.casesOn (motive:=λ_=>RS) o.e (lD (mT m) o.vs λσ=>k ⟨σ,o.H⟩) (λ_=>some o) (some o))=some d from h);have⟨o,J,u⟩:=aE.1 (show ob (evC tb M W b m ⟨f.res,f.retm,(id,m)::f.env⟩ (JK (mT m)) s) (λo=>Ex.casesOn (motive:=λ_=>RS) o.e (some o) (λi=>Bool.casesOn (motive:=λ_=>RS) (Nat.beq i id) (some o) (some ⟨.normal,o.vs,o.H⟩)) (some o))=some o2 from u);refine Qr (Fe O V j p b m _ (JK (mT m)) s o q a w _ l J F R ⟨λA t E I z g B C=>?_,λi A t E I z g B C=>?_,λA t E I z g B C=>?_⟩)
  .have⟨D,e2,e3⟩:=VX z;rw[D]at u;cases u;rw[D]at h;exact VD L h e2 e3 g B C
  .have D:=CY z;rw[D]at u;by_cases hi:i=id
   .subst hi;have U:Nat.beq i i=true:=V8
    simp only[U]at u;cases u;show Exit.inBlock i Q (.exit i) E I;simp only[Exit.inBlock,if_true];have S:o=⟨.exit i,EI A.σ (mT (Ei ((i,m)::f.env) i)),A.H⟩:=by cases z;rfl
    have he:Ei ((i,m)::f.env) i=m:=by
     show(bif Nat.beq i i then m else Ei f.env i)=m;rw[U];rfl
    rw[he]at S;exact VD (o:=⟨.normal,o.vs,o.H⟩) L h (by rw[S]) (by rw[S]) g B C
   .have U:Nat.beq i id=false:=oO hi;simp only[U]at u;cases u;rw[D]at h;cases h;show Exit.inBlock id Q (.exit i) E I;simp only[Exit.inBlock,if_neg hi];refine L.x i A t E I ?_ g B C;have he:Ei ((id,m)::f.env) i=Ei f.env i:=by
     show(bif Nat.beq id i then m else Ei f.env i)=_;rw[oO (Ne.symm hi)];rfl
    rw[<-z];show MB f i A=some ⟨.exit i,EI A.σ (mT (Ei ((id,m)::f.env) i)),A.H⟩;rw[he];rfl
  .have D:=RA z;rw[D]at u;cases u;rw[D]at h;cases h;exact L.r A t E I z g B C
 | .loop b,m,f,k,s,d,q,a,w,Q,ho,h,F,R,L=>by
  have l:Ki tb n b=true:=by simpa [Ki]using ho
  have N:W b f (EI s.σ (mT (live (.loop b) 0 f))) s.H=some d:=h;have ae:=Ru s.σ (mT (live (.loop b) 0 f));have⟨σ,Y⟩:=ae;exact Gm.loop (p b f _ s.H d N n σ q a w Q l Y (MH F Y) R L.x L.r)
 | .exit id,m,f,k,s,d,q,a,w,Q,_,h,F,R,L=>UJ (L.x id s q a w h (fE.le_refl _) F R)
 | .ret,m,f,k,s,d,q,a,w,Q,_,h,F,R,L=>Yq (L.r s q a w h (fE.le_refl _) F R)
 | .rangeFunc _ _ _ _,m,f,k,s,d,q,a,w,Q,ho,_,_,_,_=>by simp[Ki]at ho
 | .scope _,m,f,k,s,d,q,a,w,Q,ho,_,_,_,_=>by simp[Ki]at ho
 | .label _,m,f,k,s,d,q,a,w,Q,ho,_,_,_,_=>by simp[Ki]at ho
 | .goto _,m,f,k,s,d,q,a,w,Q,ho,_,_,_,_=>by simp[Ki]at ho
 | .refuse _,m,f,k,s,d,q,a,w,Q,ho,_,_,_,_=>by simp[Ki]at ho
theorem afJ (j:gQ P tb) {n:Nat} {s:GS} {f:fE} {a:Act} {w:V2} (F:mE f n s.σ a) (R:g_ w0 f s.H w) {r:ResultVar} {g:GV} (h:aiM tb s r=some g):∃v,Rl f g v/\(JN a.tmps r).run P w = .ok v w:=by
 cases r with
 |tmp t=>exact⟨_,F.slot t g h,by simp[JN,Act.eval]⟩
 |cell q T=>
  have⟨v,m,h⟩:=aE.1 (show ob (HT s.σ q) _=some g from h);have d:=F.slot q v m;have⟨x,_,_,_,_,_,o,c⟩:=Oz (P:=P) j R d h;have c:=c w Z;refine⟨x,o,?_⟩
  have⟨p,k,_⟩:=aE.1 (show ob v.asP _=some g from h);rw[Gu k]at d;have⟨l,u,e⟩:=d.ptr_inv;have i:a.tmps.getD q undef = .pointer (some ⟨l.b,l.off+p.2,none⟩):=e;rw[e]at c;simp only[Instr.loadAt,Instr.sureAddr]at c;simp only[JN,i,asAddr];simpa using c
theorem Ue (f:gQ P tb) {n:Nat} {s:GS} {e:fE} {a:Act} {w:V2} (F:mE e n s.σ a) (R:g_ w0 e s.H w):∀{l:V6 ResultVar} {gs:V6 GV},Ud tb s l=some gs->∃b,pX e gs b/\(l.mapM (JN a.tmps)).run P w = .ok b w
 | [],gs,h=>by cases h;exact⟨[],.nil,V8⟩
 |r::l,gs,h=>by
  have⟨g,m,h⟩:=aE.1 (show ob (aiM tb s r) (λv=>ob (Ud tb s l) λb=>some (v::b))=some gs from h);have⟨i,c,h⟩:=aE.1 h;cases h;have⟨v,o,j⟩:=afJ (P:=P) f F R m;have⟨b,d,k⟩:=Ue f F R c;exact⟨v::b,.cons o d,by simp[List.mapM_cons,j,k]⟩
theorem acq {b:fE} {gs:V6 GV} {a:V6 V0} (h:pX b gs a):Rl b (Zm gs) (if h:a.toArray.size=1 then a.toArray[0]else .tuple a.toArray):=by
 cases gs with
 |nil=>rw[h.of_nil];exact Mo .nil
 | cons g gs =>
  obtain⟨v,a,rfl,c,d⟩:=h.of_cons;cases gs with
  |nil=>rw[d.of_nil];show Rl b g _;simpa using c
  |cons j gs=>
   obtain⟨k,i,rfl,e,f⟩:=d.of_cons;rw[dif_neg V8];exact Mo (.cons c (.cons e f))
theorem JL (j:gQ P tb) {fn:Func} {c:Cx} (d:c.res=fn.results.toList) {n:Nat} {s:GS} {g:fE} {a:Act} {w:V2} {b:SE} (F:mE g n s.σ a) (R:g_ w0 g s.H w) (h:VZ tb c s=some b):b.H=s.H/\∃v,Rl g (Zm b.vs) v/\(results fn a.tmps).run P w = .ok v w:=by
 have⟨gs,e,h⟩:=aE.1 (show ob (Ud tb s c.res) _=some b from h);cases h;have⟨l,f,i⟩:=Ue (P:=P) j F R e;rw[d]at i;refine⟨rfl,_,acq f,?_⟩
 rw[BD];have k:(fn.results.mapM (JN a.tmps)).run P w = .ok l.toArray w:=by
  rw[Array.mapM_eq_mapM_toList];simp[i]
 simp[k]
structure Sp (P:Program) (G:GP) (Fs:FT) {gs:Cf} (w0:fO gs):Prop where
 tab:gQ P G.tab
 mixed:P.follows .mixedOrders=true
 fns:∀{f fn},Fs f=some fn->P.funcs[f]?=some fn/\aU P f/\(∀c,fn.body=some c->Ki G.tab fn.ntmps c=true)/\fn.params.size+fn.nfree<=fn.ntmps
 ext:∀{f us H g H'},G.ext f us H=some (g,H')->∀ρ w vs,g_ w0 ρ H w->pX ρ us vs->kW P w0 ρ f vs w g H'
 exn:∀{f us g},G.exn f us=some g->∀ρ w vs H,g_ w0 ρ H w->pX ρ us vs->kW P w0 ρ f vs w g H
 /-- the function that catches returns 0 and 0 if its argument returns;its two variables are new objects -/
 cat:∀{ρ:fE} {g us cs w H H' c1 c2},g_ w0 ρ H w->(∀ρ' w',ρ.le ρ'->g_ w0 ρ' ((H.new (.cells [Bj])).new (.cells [Bj])) w'->∃x,kW P w0 ρ' g (us++cs) w' x H')->H'.cells H.n=some [c1]->H'.cells (H.n+1)=some [c2]->
  kW P w0 ρ G.cat [.func (.func g) us.toArray cs.toArray] w (.tup [Bj,Bj]) ((((H'.set H.n (.cells [Bj])).set (H.n+1) (.cells [Bj])).del H.n).del (H.n+1))
def ZU (P:Program) {gs:Cf} (w0:fO gs) (h:IH):Prop:=∀f d H a,h (.fn f) d H=some a->a.e = .ret->∀c w g,g_ w0 c H w->pX c d g->
 aU P f/\Calls P f g.toArray w λe i=>∃v b,e = .returned v/\c.le b/\g_ w0 b a.H i/\Rl b (Zm a.vs) v
theorem Tc {d:IH} (h:ZU P w0 d):uP P w0 (ajA d):=λf i H g j m q w p R n=>by
 have⟨o,k,b⟩:=aE.1 (show ob (d (.fn f) i H) _=some (g,j)from m);cases c:o.e with
 |normal=>rw[c]at b;cases b
 |exit id=>rw[c]at b;cases b
 |ret=>
  rw[c]at b;cases b;have⟨l,a⟩:=h f i H o k c q w p R n;exact .inr ⟨l _ w,a⟩
theorem Nn {B:IH} (j:Sp P G Fs w0) (h:ZU P w0 B):uP P w0 (Gv G B):=λf b H g z a t w i R e=>by
 unfold Gv callQ at a;cases c:Nat.beq f G.cat with
 | false =>
  rw[c]at a;cases n:G.ext f b H with
  |some r=>
   simp only[n]at a;cases a;exact j.ext n t w i R e
  | none =>
   simp only[n]at a;cases s:G.exn f b with
   |some r=>
    simp only[s]at a;cases a;exact j.exn s t w i _ R e
   |none=>
    simp only[s]at a;exact Tc h f b H g z a t w i R e
 | true =>
  rw[c]at a;have c:=zA5 c;subst c;cases b with
  |nil=>cases a
  | cons u b =>
   cases b with
   |cons _ _=>cases a
   |nil=>
    have⟨p,F,a⟩:=aE.1 (show ob u.asF _=some (g,z)from a);rw[jR,jR]at a;have⟨x,J,a⟩:=aE.1 a;have⟨O,k,a⟩:=aE.1 a;have⟨Q,l,a⟩:=aE.1 a;have⟨o,a⟩:=bV.1 a;have⟨q,a⟩:=bV.1 a;rw[Bp,Bp,IA,IA]at a;cases a;obtain⟨M,rfl⟩:=List.length_eq_one_iff.1 (zA5 o);obtain⟨N,rfl⟩:=List.length_eq_one_iff.1 (zA5 q);obtain⟨v,i,rfl,A,E⟩:=e.of_cons;rw[E.of_nil];rw[aaw F]at A;obtain⟨K,D,rfl,I,m⟩:=A.fn_inv;exact j.cat R (λy L d C=>⟨x.1,Tc h p.1 _ _ x.1 x.2 J y L _ C ((I.le d).append (m.le d))⟩) k l
theorem aii {x:IH} (p:∀w0:fO gs,Sp P G Fs w0) (B:∀w0:fO gs,ZU P w0 x) (l:Kn P w0 G.tab λb z=>x (.loop b z)) {f:Nat} {i:Func} {K:V6 GV} {H:GH} {d:SE} (T:Fs f=some i) (h:YR G.tab (Gv G x) (λb z=>x (.loop b z)) i K H=some d) (S:d.e = .ret) {u:fE} {w:V2} {t:V6 V0} (R:g_ w0 u H w) (I:pX u K t):
  aU P f/\Calls P f t.toArray w λe y=>∃v a,e = .returned v/\u.le a/\g_ w0 a d.H y/\Rl a (Zm d.vs) v:=by
 have⟨M,N,O,Q⟩:=(p w0).fns T;refine⟨N,?_⟩
 have⟨k,E,h⟩:=aE.1 (show ob i.body _=some d from h);have⟨L,m,h⟩:=tG h;rw[List.range_eq_range']at m;have s:=Nf m;have U:t.length<=i.ntmps:=by rw[<-I.len,s];exact Q
 refine wK M E ?_;have F:mE u i.ntmps L {tmps:=t.toArray++Array.replicate (i.ntmps - t.toArray.size) undef,defers:=[]}:=by
  refine QM Z Q1 I (λj v q=>?_) m;have C:=bH q;rw[Nat.zero_add,zBg (by simpa using C)];simpa using q
 refine Fe (p w0).tab (p w0).mixed (λw0=>Nn (p w0) (B w0)) l k _ _ _ ⟨L,H⟩ d u _ w _ (O k E) h F R ⟨λJ a D y r c n o=>?_,λid J a D y r c n o=>?_,λJ a D y r c n o=>?_⟩
 .have⟨A,v,q,g⟩:=JL (fn:=i) (p w0).tab Z n o r;exact Sx.body_end (.inr Z) n.defers g ⟨v,a,rfl,c,by rw[A];exact o,q⟩
 .have:=CY r;rw[S]at this;cases this
 .have⟨A,v,q,g⟩:=JL (fn:=i) (p w0).tab Z n o r;exact Sx.body_end (.inl Z) n.defers g ⟨v,a,rfl,c,by rw[A];exact o,q⟩
theorem aiR (B:∀w0:fO gs,Sp P G Fs w0):∀(c:Nat) (w0:fO gs),ZU P w0 (run G Fs c)/\Kn P w0 G.tab λb d=>run G Fs c (.loop b d):=by
 intro c
 induction c with
 |zero=>exact λw0=>⟨λf us H i h=>(by cases h),λb d K H i h=>(by cases h)⟩
 | succ c ih =>
  have z:∀w0:fO gs,ZU P w0 (run G Fs c):=λw0=>(ih w0).1;intro w0;have q:=(ih w0).2;refine⟨λf us H i h he V w K R hr=>?_,λb d K H i h n O V a w Q T I F R U k=>?_⟩
  .have⟨fn,E,h⟩:=aE.1 (show ob (Fs f) _=some i from h);exact aii B z q E h he R hr
  .have D:lD (mT (live (.loop b) 0 d)) K (λO=>ob (evC G.tab (Gv G (run G Fs c)) (λb d=>run G Fs c (.loop b d)) b (live (.loop b) 0 d) d (JK (mT (live (.loop b) 0 d))) ⟨O,H⟩) λo=>Ex.casesOn (motive:=λ_=>RS) o.e (run G Fs c (.loop b d) o.vs o.H) (λ_=>some o) (some o))=some i:=h;have⟨aa,l,D⟩:=tG D;rw[I]at l;cases l;have⟨o,Y,s⟩:=aE.1 D;refine Gm.round (Fe (B w0).tab (B w0).mixed (λw0=>Nn (B w0) (z w0)) q b _ d _ ⟨O,H⟩ o V a w _ T Y F R ⟨λt j x A p g u v=>?_,λid t j x A p g u v=>?_,λt j x A p g u v=>?_⟩)
   .have⟨y,W,X⟩:=VX p;rw[y,W,X]at s;have⟨S,m⟩:=Ru t.σ (mT (live (.loop b) 0 d));exact q b d _ t.H i s n S j x A Q T m (MH u m) v (λid J r C L M N=>U id J r C L M (fE.le_trans g N)) (λJ r C L M N=>k J r C L M (fE.le_trans g N))
   .have y:=CY p;rw[y]at s;cases s;exact U id t j x A p g u v
   .have y:=RA p;rw[y]at s;cases s;exact k t j x A p g u v
theorem Jn (e:∀w0:fO gs,Sp P G Fs w0) {a f:Nat} {c:V6 GV} {H H':GH} {g:GV} (h:Xg G Fs a f c H=some (g,H')) {b:fE} {w:V2} {d:V6 V0} (R:g_ w0 b H w) (i:pX b c d):kW P w0 b f d w g H':=
 Nn (e w0) (aiR e a w0).1 f c H g H' h b w d R i
theorem g_.start (b:fO gs) (c:gs.env=[]):g_ b (λ_=>none) H0 b.w:=⟨Es.refl _,λh o a=>(by cases a),λh g o k l j a=>(by cases a),λ_ _=>rfl,λh d=>absurd d (zB8 h),λh v l f=>(by cases f),λi v e=>by rw[c]at e;simp at e⟩
end
end Go.Gx
namespace Go.Gx
open Go Go.Sx
noncomputable section
def oN (a:V6 GV) (H:GH):RS:=some ⟨.normal,a,H⟩
def oX (id:Nat) (a:V6 GV) (H:GH):RS:=some ⟨.exit id,a,H⟩
def oR (a:V6 GV) (H:GH):RS:=some ⟨.ret,a,H⟩
def jn (r:RS) (k:V6 GV->GH->RS):RS:=ob r λo=>Ex.casesOn (motive:=λ_=>RS) o.e (k o.vs o.H) (λ_=>some o) (some o)
def rG (v:GV) (b:V4) (H:GH) (X:OR):OR:=GV.casesOn (motive_1:=λ_=>OR) v (λ_ _=>none) (λq=>Bool.casesOn (motive:=λ_=>OR) (Xo q b) (some (.un,H)) X) (λ_ _=>none) (λ_ _=>none) none (λ_ _ _ _=>none) none (λ_=>none) (λ_ _ _=>none) none none (λ_=>none) (λ_=>none) (some (.un,H)) none (λ_=>none)
def U0 {R:Type} (a:V6 GV) (f:V1 R):V1 R:=List.casesOn (motive:=λ_=>V1 R) a (f) λ_ _=>none
def U1 {R:Type} (b:V6 GV) (f:GV->V1 R):V1 R:=List.casesOn (motive:=λ_=>V1 R) b none λa c=>List.casesOn (motive:=λ_=>V1 R) c (f a) λ_ _=>none
def U2 {R:Type} (c:V6 GV) (f:GV->GV->V1 R):V1 R:=List.casesOn (motive:=λ_=>V1 R) c none λa d=>List.casesOn (motive:=λ_=>V1 R) d none λb e=>List.casesOn (motive:=λ_=>V1 R) e (f a b) λ_ _=>none
def U3 {R:Type} (d:V6 GV) (f:GV->GV->GV->V1 R):V1 R:=List.casesOn (motive:=λ_=>V1 R) d none λa e=>List.casesOn (motive:=λ_=>V1 R) e none λb g=>List.casesOn (motive:=λ_=>V1 R) g none λc h=>List.casesOn (motive:=λ_=>V1 R) h (f a b c) λ_ _=>none
def U4 {R:Type} (e:V6 GV) (f:GV->GV->GV->GV->V1 R):V1 R:=List.casesOn (motive:=λ_=>V1 R) e none λa g=>List.casesOn (motive:=λ_=>V1 R) g none λb h=>List.casesOn (motive:=λ_=>V1 R) h none λc i=>List.casesOn (motive:=λ_=>V1 R) i none λd j=>List.casesOn (motive:=λ_=>V1 R) j (f a b c d) λ_ _=>none
def U5 {R:Type} (g:V6 GV) (f:GV->GV->GV->GV->GV->V1 R):V1 R:=List.casesOn (motive:=λ_=>V1 R) g none λa h=>List.casesOn (motive:=λ_=>V1 R) h none λb i=>List.casesOn (motive:=λ_=>V1 R) i none λc j=>List.casesOn (motive:=λ_=>V1 R) j none λd k=>List.casesOn (motive:=λ_=>V1 R) k none λe l=>List.casesOn (motive:=λ_=>V1 R) l (f a b c d e) λ_ _=>none
def U6 {R:Type} (h:V6 GV) (f:GV->GV->GV->GV->GV->GV->V1 R):V1 R:=List.casesOn (motive:=λ_=>V1 R) h none λa i=>List.casesOn (motive:=λ_=>V1 R) i none λb j=>List.casesOn (motive:=λ_=>V1 R) j none λc k=>List.casesOn (motive:=λ_=>V1 R) k none λd l=>List.casesOn (motive:=λ_=>V1 R) l none λe m=>List.casesOn (motive:=λ_=>V1 R) m none λg n=>List.casesOn (motive:=λ_=>V1 R) n (f a b c d e g) λ_ _=>none
def U7 {R:Type} (i:V6 GV) (f:GV->GV->GV->GV->GV->GV->GV->V1 R):V1 R:=List.casesOn (motive:=λ_=>V1 R) i none λa j=>List.casesOn (motive:=λ_=>V1 R) j none λb k=>List.casesOn (motive:=λ_=>V1 R) k none λc l=>List.casesOn (motive:=λ_=>V1 R) l none λd m=>List.casesOn (motive:=λ_=>V1 R) m none λe n=>List.casesOn (motive:=λ_=>V1 R) n none λg o=>List.casesOn (motive:=λ_=>V1 R) o none λh p=>List.casesOn (motive:=λ_=>V1 R) p (f a b c d e g h) λ_ _=>none
def U9 {R:Type} (k:V6 GV) (f:GV->GV->GV->GV->GV->GV->GV->GV->GV->V1 R):V1 R:=List.casesOn (motive:=λ_=>V1 R) k none λa l=>List.casesOn (motive:=λ_=>V1 R) l none λb m=>List.casesOn (motive:=λ_=>V1 R) m none λc n=>List.casesOn (motive:=λ_=>V1 R) n none λd o=>List.casesOn (motive:=λ_=>V1 R) o none λe p=>List.casesOn (motive:=λ_=>V1 R) p none λg q=>List.casesOn (motive:=λ_=>V1 R) q none λh r=>List.casesOn (motive:=λ_=>V1 R) r none λi s=>List.casesOn (motive:=λ_=>V1 R) s none λj t=>List.casesOn (motive:=λ_=>V1 R) t (f a b c d e g h i j) λ_ _=>none
def Wg:mX->Code->Code
 | [],c=>c
 |0::p,.seq a _=>Wg p a
 |1::p,.seq _ b=>Wg p b
 |0::p,.cond _ a _=>Wg p a
 |1::p,.cond _ _ b=>Wg p b
 |0::p,.block _ b=>Wg p b
 |0::p,.loop b=>Wg p b
 |_,c=>c
def dR (a:Func) (p:mX):Code:=match a.body with
 |some c=>Wg p c
 |none=>.skip
def kM (b:Func) (a:LX):Cx:=⟨b.results.toList,MJ b.results.toList,a⟩
abbrev iI:=CH->QH->V6 GV->GH->RS
structure Jf where
 fn:Nat->Option (Func×iI)
 lp:Nat->Option ((Code×Cx)×iI)
def Jf.fns (T:Jf) (f:Nat):V1 Func:=ob (T.fn f) λe=>some e.1
def Jf.loop (T:Jf) (a:LH):QH:=λi vs H=>ob (T.lp i) λe=>a e.1.1 e.1.2 vs H
def rr (T:Jf) (G:GP) (n:Nat):V4->QH:=Nat.rec (motive:=λ_=>V4->QH) (λ_ _ _ _=>none) (λ_ a b t c H=>Bool.casesOn (motive:=λ_=>RS) b (ob (T.fn t) λe=>e.2 (callQ G (a false)) (a true) c H) (ob (T.lp t) λe=>e.2 (callQ G (a false)) (a true) c H)) n
structure Nb (T:Jf) (tb:TB):Prop where
 fn:∀{f e},T.fn f=some e->∀(c:CH) (lp:LH) us H,e.2 c (T.loop lp) us H=YR tb c lp e.1 us H
 lp:∀{i e},T.lp i=some e->∀(c:CH) (lp:LH) us H,e.2 c (T.loop lp) us H=evL tb c lp e.1.1 e.1.2 us H
theorem akt {T:Jf} {G:GP} (h:Nb T G.tab):∀n,rr T G n false=(λf c H=>run G T.fns n (.fn f) c H)/\rr T G n true=T.loop (λb a=>run G T.fns n (.loop b a)):=by
 intro n
 induction n with
 |zero=>
  refine⟨rfl,?_⟩
  funext i vs H;show none=ob (T.lp i) λe=>none;cases T.lp i<;>rfl
 | succ n ih =>
  have⟨d,g⟩:=ih;constructor
  .funext f c H;show ob (T.fn f) (λe=>e.2 (callQ G (rr T G n false)) (rr T G n true) c H)=ob (T.fns f) λk=>YR G.tab (Gv G (run G T.fns n)) (λb a=>run G T.fns n (.loop b a)) k c H;unfold Jf.fns;cases j:T.fn f with
   |none=>rfl
   |some e=>
    show e.2 (callQ G (rr T G n false)) (rr T G n true) c H=YR G.tab (Gv G (run G T.fns n)) (λb a=>run G T.fns n (.loop b a)) e.1 c H;rw[d,g];exact h.fn j _ _ c H
  .funext i vs H;show ob (T.lp i) (λe=>e.2 (callQ G (rr T G n false)) (rr T G n true) vs H)=ob (T.lp i) λe=>run G T.fns (n+1) (.loop e.1.1 e.1.2) vs H;cases j:T.lp i with
   |none=>rfl
   |some e=>
    show e.2 (callQ G (rr T G n false)) (rr T G n true) vs H=evL G.tab (Gv G (run G T.fns n)) (λb a=>run G T.fns n (.loop b a)) e.1.1 e.1.2 vs H;rw[d,g];exact h.lp j _ _ vs H
def okF (a:TB) (fn:Func):V4:=match fn.body with
 |some c=>Ki a fn.ntmps c&&Nat.ble (fn.params.size+fn.nfree) fn.ntmps
 |none=>false
theorem TO {tb:TB} {fn:Func} (h:okF tb fn=true):(∀c,fn.body=some c->Ki tb fn.ntmps c=true)/\fn.params.size+fn.nfree<=fn.ntmps:=by
 unfold okF at h;cases a:fn.body with
 |none=>rw[a]at h;cases h
 |some c=>
  rw[a]at h;simp only[zA8]at h;exact⟨λd b=>by cases b;exact h.1,by simpa using h.2⟩
def Ik (T:Jf) (G:GP) (b:Nat) (f:FuncId) (a:V6 GV) (H:GH):OR:=callQ G (rr T G b false) f a H
theorem Dd {T:Jf} {G:GP} (h:Nb T G.tab) (fuel:Nat) (f:FuncId) (a:V6 GV) (H:GH):Ik T G fuel f a H=Xg G T.fns fuel f a H:=by
 unfold Ik Xg Gv;rw[(akt h fuel).1]
end
end Go.Gx
section
set_option maxRecDepth 100000
namespace Go.Gx
open Go Go.Sx Go.Proofs
noncomputable section
abbrev y:=tW
def gB (f:Func) (c:CH) (_:QH) (a:V6 GV) (H:GH):RS:=YR y c (λ_ _ _ _=>none) f a H
def OD (f:Func) (i:Nat) (c:CH) (q:QH) (a:V6 GV) (H:GH):RS:=YR y c (λ_ _ b H=>q i b H) f a H
def gL (e:Code×Cx) (i:Nat) (c:CH) (q:QH) (a:V6 GV) (H:GH):RS:=evL y c (λ_ _ b H=>q i b H) e.1 e.2 a H
def gL1 (e:Code×Cx) (n i j:Nat) (c:CH) (q:QH) (d:V6 GV) (H:GH):RS:=evL y c (λ_ b a H=>bif Nat.beq b.env.length n then q i a H else q j a H) e.1 e.2 d H
def gD (e:Code×Cx) (i:Nat):(Code×Cx)×iI:=(e,gL e i)
def gD1 (e:Code×Cx) (n i j:Nat):(Code×Cx)×iI:=(e,gL1 e n i j)
def rid (c:Code):Nat:=match c with|.region n _ _=>n | .seq a _=>rid a | .block _ a=>rid a | .loop a=>rid a|_=>0
def sel (l:LX) (n:Nat):Nat:=List.rec (motive:=λ_=>Nat) 0 (λp _ a=>bif Nat.beq p.1 n then p.2 else a) l
def gBs (f:Func) (l:LX) (c:CH) (q:QH) (a:V6 GV) (H:GH):RS:=YR y c (λb _ d H=>q (sel l (rid b)) d H) f a H
def gDs (e:Code×Cx) (l:LX):(Code×Cx)×iI:=(e,λc q a H=>evL y c (λb _ d H=>q (sel l (rid b)) d H) e.1 e.2 a H)
def i (n:Nat):GV:= .int .i64 (.ofNat n)
def bC (q:V4) (f t:RS):RS:=Bool.casesOn (motive:=λ_=>RS) q f t
def K (c:CH) (f:Nat) (a:V6 GV) (H:GH) (k:GV->GH->RS):RS:=fN (c f a H) k
def bn (a:BinOp) (T:Nat) (v u:GV) (k:GV->RS):RS:=ob (Be y a T v u) k
def ld (T:Nat) (v:GV) (H:GH) (k:GV->RS):RS:=ob (wE y T v H) k
def fd (T n:Nat) (v:GV) (k:GV->RS):RS:=ob (Lm y T n v) k
def pt (T n:Nat) (v:GV) (k:GV->RS):RS:=ob (adv y T n v) k
def ix (T:Nat) (v u:GV) (k:GV->RS):RS:=ob (Ws y T v u) k
def ln (T:Nat) (v:GV) (k:GV->RS):RS:=ob (Wt y T v) k
def ex (n:Nat) (v:GV) (k:GV->RS):RS:=ob (ai_ n v) k
def bd (T:Nat) (l:V6 (Nat×GV)) (k:GV->RS):RS:=ob (Wp y T l) k
theorem rN {a:Type} {f n:Nat} {x y:V1 a} {e:a} {R:Prop} (b:x=some e->R) (c:y=some e->R):tN f n x y=some e->R:=by
 unfold tN;cases Nat.blt f n
 .exact c
 .exact b
theorem rL {c:Type} {f n:Nat} {x e:c} {R:Nat->c->Prop} (h:R n x):tL f n x=some e->R f e:=by
 intro a;unfold tL at a;cases b:Nat.beq f n with
 |false=>rw[b]at a;cases a
 |true=>rw[b]at a;cases a;rw[zA5 b];exact h
def B48 (c:CH) (m:QH) (q:V6 GV) (H:GH):RS:=U2 q λr s=>
 fN (Gh r H) λn l=>
 fN (Gh s l) λj h=>
 fd 31 0 j λo=>
 ld 22 o h λp=>
 ln 22 p λk=>
 fN (OA y 86 k k h) λa e=>
 ln 86 a λg=>
 jn (nB 0 (m 7 [n,j,a,g,(i 0)] e)) λb f=>U1 b λd=>oR [d] f
def L7 (c:CH) (R:QH) (T:V6 GV) (H:GH):RS:=U5 T λp q d e f=>jn (bn .lss 3 f e λJ=>
 ob (GV.asB J) λI=>jn (bC I (oX 0 [d] H) (oN [p,q,d,e,f] H)) λm h=>U5 m λa r g s b=>jn (nB 1 (fd 36 1 a λK=>
 ld 33 K h λL=>
 ln 33 L λk=>
 fN (OA y 89 k k h) λM E=>
 ix 86 g b λN=>
 fN (mB y 89 N M E) λS j=>
 fd 36 1 a λO=>
 ld 33 O j λl=>
 ln 33 l λP=>
 jn (nB 2 (R 8 [a,r,g,b,s,b,l,P,(i 0)] j)) λn F=>U5 n λt u v w x=>oN [t,u,v,w,x] F)) λo G=>U5 o λz A B C D=>bn .add 3 D (i 1) λQ=>
 oN [z,A,B,C,Q] G) (R 7)
def L8 (c:CH) (ql:QH) (us:V6 GV) (H:GH):RS:=U9 us λw x z aa A B ab C D=>jn (bn .lss 3 D C λan=>
 ob (GV.asB an) λam=>jn (bC am (oX 2 [w,x,z,A,B] H) (oN [w,x,z,aa,A,B,ab,C,D] H)) λY J=>U9 Y λac h j d ad ae E af e=>jn (nB 3 (ix 33 E e λao=>
 ld 82 ao J λap=>
 fN (sL y 82 J) λk ai=>
 fN (mB y 82 k ap ai) λaA a=>
 ix 86 j d λW=>
 ld 89 W a λaq=>
 ob (Option.casesOn (motive:=λ_=>V1 (V1 (Nat×Nat))) (ob (GV.asP W) λp=>some p.1) (some none) λM=>ob (GH.ver a M) λaj=>some (some (M,aj))) λag=>
 ix 86 j d λX=>
 ld 89 X a λar=>
 ob (Option.casesOn (motive:=λ_=>V1 (V1 (Nat×Nat))) (ob (GV.asP X) λp=>some p.1) (some none) λN=>ob (GH.ver a N) λak=>some (some (N,ak))) λah=>
 ld 82 k a λau=>
 ob (Option.casesOn (motive:=λ_=>V1 (V1 (Nat×Nat))) (ob (GV.asP k) λp=>some p.1) (some none) λO=>ob (GH.ver a O) λal=>some (some (O,al))) λay=>
 ld 31 h a λav=>
 ob (Option.casesOn (motive:=λ_=>V1 (V1 (Nat×Nat))) (ob (GV.asP h) λp=>some p.1) (some none) λf=>ob (GH.ver a f) λL=>some (some (f,L))) λaz=>
 K c 97 [au,av,d] a λg b=>
 ob (pck b ah (pck b ag (some ()))) λ_=>
 ex 0 g λP=>
 ex 1 g λQ=>
 ix 89 aq e λR=>
 ix 138 R (i 0) λS=>
 fN (mB y 3 S P b) λaw F=>
 ob (some ()) λ_=>
 ix 89 ar e λT=>
 ix 138 T (i 1) λU=>
 fN (mB y 3 U Q F) λax G=>
 ob (some ()) λ_=>
 oN [ac,h,j,d,ad,ae,E,af,e] G)) λl I=>U9 l λm n o q r s t u v=>bn .add 3 v (i 1) λV=>
 oN [m,n,o,q,r,s,t,u,V] I) (ql 8)
def B49 (c:CH) (k:QH) (g:V6 GV) (H:GH):RS:=U3 g λh i j=>
 ld 86 j H λb=>
 ix 86 b h λd=>
 ld 89 d H λe=>
 K c 50 [e,i] H λf a=>
 oR [f] a
def B51 (c:CH) (h:QH) (e:V6 GV) (H:GH):RS:=U2 e λf g=>
 K c 98 [f,g] H λb a=>
 bn .geq 3 b (i 0) λd=>
 oR [d] a
def B52 (c:CH) (l:QH) (h:V6 GV) (H:GH):RS:=U3 h λi j k=>
 ld 90 j H λd=>
 ld 3 k H λe=>
 ob (GV.asF d) λa=>fN (c a.1 (a.2.1++[e,i]++a.2.2) H) λf b=>
 ob (ZN .not f) λg=>
 oR [g] b
def B60 (c:CH) (n:QH) (j:V6 GV) (H:GH):RS:=U3 j λk l m=>
 fd 43 0 l λd=>
 ld 39 d H λe=>
 ld 3 m H λf=>
 ix 39 e f λg=>
 ld 22 g H λh=>
 K c 61 [k,h] H λi a=>
 ob (ZN .not i) λb=>
 oR [b] a
def B76 (c:CH) (h:QH) (l:V6 GV) (H:GH):RS:=U1 l λb=>
 ln 39 b λd=>
 fN (OA y 39 d d H) λj f=>
 ln 39 b λk=>
 jn (nB 0 (h 12 [j,b,k,(i 0)] f)) λa g=>U1 a λe=>oR [e] g
def L12 (c:CH) (C:QH) (E:V6 GV) (H:GH):RS:=U4 E λB k b d=>jn (bn .lss 3 d b λu=>
 ob (GV.asB u) λt=>jn (bC t (oX 0 [B] H) (oN [B,k,b,d] H)) λh g=>U4 h λe f l a=>jn (nB 1 (ix 39 f a λv=>
 ld 22 v g λw=>
 fN (Wo y 22 22 .snil w g) λx q=>
 ix 39 e a λz=>
 fN (mB y 22 z x q) λD r=>
 oN [e,f,l,a] r)) λj s=>U4 j λm n o p=>bn .add 3 p (i 1) λA=>
 oN [m,n,o,A] s) (C 12)
def B93 (c:CH) (l:QH) (p:V6 GV) (H:GH):RS:=U1 p λg=>
 ln 9 g λm=>
 bn .gtr 3 m (i 16384) λn=>
 ob (GV.asB n) λk=>jn (bC k (oN [g] H) (oR [.snil,(i 0),(i 3)] H)) λe h=>U1 e λf=>K c 145 [f,(i 0)] h λo j=>
 jn (nB 0 (l 13 [f,.snil,o] j)) λa d=>U1 a λb=>oR [b,(i 0),(i 0)] d
def L13 (c:CH) (ql:QH) (us:V6 GV) (H:GH):RS:=U3 us λa b d=>jn (ln 9 a λO=>
 bn .lss 3 d O λP=>
 ob (GV.asB P) λL=>jn (bC L (oX 0 [b] H) (oN [a,b,d] H)) λs l=>U3 s λw e f=>jn (nB 1 (ln 124 e λQ=>
 bn .eql 3 Q (i 4096) λR=>
 ob (GV.asB R) λM=>jn (bC M (oN [w,e,f] l) (oR [.snil,f,(i 3)] l)) λt D=>U3 t λg x h=>K c 146 [g,h] D λp E=>
 ex 0 p λS=>
 ex 1 p λq=>
 fN (sL y 176 E) λr F=>
 fN (mB y 176 r S F) λab m=>
 bn .neq 47 q (i 0) λT=>
 ob (GV.asB T) λN=>jn (bC N (oN [g,x,r] m) (oR [.snil,h,q] m)) λu n=>U3 u λj z k=>ld 176 k n λU=>
 fN (uM y 124 1 [(0,U)] n) λV G=>
 fN (Wo y 124 124 z V G) λW o=>
 fd 176 2 k λX=>
 ld 3 X o λY=>
 K c 145 [j,Y] o λaa I=>
 oN [j,W,aa] I)) λv J=>U3 v λA B C=>oN [A,B,C] J) (ql 13)
def s96:LX:=[(6,14),(12,15),(19,16)]
def B97 (c:CH) (k:QH) (p:V6 GV) (H:GH):RS:=U3 p λq r s=>
 fN (Gh q H) λl h=>
 fN (Gh r h) λm j=>
 bd 197 [(0,(i 1)),(1,(.fn 161 [] []))] λn=>
 bd 197 [(0,(i 2)),(1,(.fn 162 [] []))] λo=>
 bd 197 [(0,(i 3)),(1,(.fn 163 [] []))] λf=>
 fN (uM y 198 3 [(0,n),(1,o),(2,f)] j) λa d=>
 ln 198 a λg=>
 jn (nB 0 (k 17 [s,l,m,a,g,(i 0)] d)) λb e=>U0 b (oR [(i 0),(.int .i64 (.negSucc 0))] e)
def L17 (c:CH) (ql:QH) (us:V6 GV) (H:GH):RS:=U6 us λr s t u f g=>jn (bn .lss 3 g f λQ=>
 ob (GV.asB Q) λO=>jn (bC O (oX 0 [] H) (oN [r,s,t,u,f,g] H)) λo m=>U6 o λh b j k v l=>jn (nB 1 (ix 198 k l λR=>
 ld 197 R m λS=>
 fN (sL y 197 m) λe K=>
 fN (mB y 197 e S K) λag a=>
 fd 197 0 e λT=>
 ld 3 T a λU=>
 fd 82 1 b λV=>
 ld 3 V a λW=>
 bn .eql 3 U W λX=>
 ob (GV.asB X) λP=>jn (bC P (oN [h,b,j,k,v,l] a) (fd 197 1 e λY=>
 ld 137 Y a λaa=>
 ld 82 b a λab=>
 ld 31 j a λac=>
 ob (GV.asF aa) λd=>fN (c d.1 (d.2.1++[ab,ac,h]++d.2.2) a) λn L=>
 ex 0 n λad=>
 ex 1 n λae=>
 oR [ad,ae] L)) λp M=>U6 p λw x z A B C=>oN [w,x,z,A,B,C] M)) λq N=>U6 q λD E F G I J=>bn .add 3 J (i 1) λaf=>
 oN [D,E,F,G,I,af] N) (ql 17)
def B98 (c:CH) (e:QH) (g:V6 GV) (H:GH):RS:=U2 g λb h=>
 ln 39 b λf=>
 jn (nB 0 (e 18 [b,h,f,(i 0)] H)) λa d=>U0 a (oR [(.int .i64 (.negSucc 0))] d)
def L18 (c:CH) (I:QH) (J:V6 GV) (H:GH):RS:=U4 J λF G D E=>jn (bn .lss 3 E D λy=>
 ob (GV.asB y) λw=>jn (bC w (oX 0 [] H) (oN [F,G,D,E] H)) λh f=>U4 h λd e l a=>jn (nB 1 (ix 39 d a λz=>
 ld 22 z f λA=>
 ob (GV.asF e) λb=>fN (c b.1 (b.2.1++[A]++b.2.2) f) λB g=>
 ob (GV.asB B) λx=>jn (bC x (oN [d,e,l,a] g) (oR [a] g)) λj u=>U4 j λm n o p=>oN [m,n,o,p] u)) λk v=>U4 k λq r s t=>bn .add 3 t (i 1) λC=>
 oN [q,r,s,C] v) (I 18)
def akV (c:CH) (e:QH) (f:V6 GV) (H:GH):RS:=U2 f λg h=>
 jn (nB 0 (e 30 [g,h] H)) λa d=>U1 a λb=>oR [b] d
def L30 (c:CH) (ql:QH) (us:V6 GV) (H:GH):RS:=U2 us λa6 R=>jn (ln 9 a6 λt8=>
 bn .lss 3 R t8 λt9=>
 ob (GV.asB t9) λaa=>jn (bC aa (oX 0 [R] H) (oN [a6,R] H)) λm e=>U2 m λb d=>jn (nB 1 (ob (vAt y 9 b d) λa=>
 jn (nB 2 (bn .eql 5 a (.int .u8 (.ofNat 32)) λj=>
 ob (GV.asB j) λab=>jn (bC ab (bn .eql 5 a (.int .u8 (.ofNat 9)) λk=>
 ob (GV.asB k) λac=>jn (bC ac (bn .eql 5 a (.int .u8 (.ofNat 10)) λl=>
 ob (GV.asB l) λad=>jn (bC ad (bn .eql 5 a (.int .u8 (.ofNat 13)) λag=>
 oN [b,d,a,ag] e) (oN [b,d,a,l] e)) λn S=>U4 n λv w x z=>oN [v,w,x,z] S) (oN [b,d,a,k] e)) λo T=>U4 o λA B C D=>oN [A,B,C,D] T) (oN [b,d,a,j] e)) λp g=>U4 p λh f E F=>ob (GV.asB F) λae=>jn (bC ae (bn .eql 5 E (.int .u8 (.ofNat 35)) λai=>
 ob (GV.asB ai) λaf=>jn (bC af (oR [f] g) (jn (nB 3 (ql 31 [h,f] g)) λq U=>U2 q λG I=>oN [G,I] U)) λr V=>U2 r λJ K=>oN [J,K] V) (bn .add 3 f (i 1) λah=>
 oN [h,ah] g)) λs W=>U2 s λL M=>oN [L,M] W)) λt X=>U2 t λN O=>oN [N,O] X)) λu Y=>U2 u λP Q=>oN [P,Q] Y) (ql 30)
def L31 (c:CH) (C:QH) (D:V6 GV) (H:GH):RS:=U2 D λb d=>jn (ln 9 b λu=>
 bn .lss 3 d u λa=>
 fN (rG a true H (some (b,H))) λv e=>
 fN (rG a true e (some (d,e))) λw f=>
 fN (rG a true f (ob (vAt y 9 v w) λp=>some (p,f))) λx g=>
 fN (rG a true g (ob (Be y .neq 5 x (.int .u8 (.ofNat 10))) λq=>some (q,g))) λz h=>
 ob (pG a z (.bool false)) λA=>
 ob (GV.asB A) λt=>jn (bC t (oX 3 [b,d] h) (oN [b,d] h)) λj r=>U2 j λl m=>jn (nB 4 (bn .add 3 m (i 1) λB=>
 oN [l,B] r)) λk s=>U2 k λn o=>oN [n,o] s) (C 31)
def akW (c:CH) (ql:QH) (us:V6 GV) (H:GH):RS:=U2 us λx1 x2=>
 fN (Gh x1 H) λO h4=>
 fN (Gh x2 h4) λf h6=>
 fN (sL y 176 h6) λm h8=>
 ld 9 O h8 λt9=>
 ld 3 f h8 λaE=>
 ob (vAt y 9 t9 aE) λM=>
 jn (nB 0 (K c 182 [M] h8 λaF t=>
 ob (GV.asB aF) λau=>jn (bC au (K c 184 [M] t λaM x=>
 ob (GV.asB aM) λaw=>jn (bC aw (oN [O,f,m] x) (ob (GV.asF (.fn 181 [] [f,O])) λl=>fN (c l.1 (l.2.1++[(.fn 184 [] [])]++l.2.2) x) λP a=>
 ld 9 O a λaN=>
 ld 3 f a λaO=>
 ob (DD y 9 aN (some aO) (some P) a) λaP=>
 K c 185 [aP] a λQ z=>
 ex 0 Q λaQ=>
 ex 1 Q λaR=>
 ob (ZN .not aR) λaS=>
 ob (GV.asB aS) λax=>jn (bC ax (oN [f,m,P,aQ] z) (bd 176 [] λaT=>
 fN (mB y 176 m aT z) λa5 A=>
 ob (ob (wE y 176 m A) λaB=>some [aB,(i 2)]) λV=>oR V A)) λW B=>U4 W λag q ah ai=>ld 3 ag B λaU=>
 bd 176 [(0,(i 2)),(1,aU),(2,ah),(3,ai)] λaV=>
 fN (mB y 176 q aV B) λa6 C=>
 ob (ob (wE y 176 q C) λaC=>some [aC,(i 0)]) λX=>oR X C)) λY aq=>U3 Y λaj ak al=>oN [aj,ak,al] aq) (ob (GV.asF (.fn 181 [] [f,O])) λk=>fN (c k.1 (k.2.1++[(.fn 183 [] [])]++k.2.2) t) λN h=>
 ld 3 f h λaG=>
 bn .sub 3 N aG λaH=>
 bn .gtr 3 aH (i 24) λaI=>
 ob (GV.asB aI) λav=>jn (bC av (oN [f,m,N] h) (bd 176 [] λaJ=>
 fN (mB y 176 m aJ h) λa3 u=>
 ob (ob (wE y 176 m u) λaz=>some [az,(i 5)]) λS=>oR S u)) λT v=>U3 T λae p af=>ld 3 ae v λaK=>
 bd 176 [(0,(i 1)),(1,aK),(2,af)] λaL=>
 fN (mB y 176 p aL v) λa4 w=>
 ob (ob (wE y 176 p w) λaA=>some [aA,(i 0)]) λU=>oR U w)) λaa ar=>U3 aa λam an ao=>oN [am,an,ao] ar)) λab b=>U3 ab λap r g=>ld 9 ap b λaW=>
 ld 3 r b λaX=>
 ob (DD y 9 aW (some aX) none b) λaY=>
 K c 186 [aY] b λR D=>
 bn .eql 3 R (i 0) λa0=>
 ob (GV.asB a0) λay=>jn (bC ay (oN [r,g,R] D) (bd 176 [] λa1=>
 fN (mB y 176 g a1 D) λa7 E=>
 ob (ob (wE y 176 g E) λaD=>some [aD,(i 4)]) λac=>oR ac E)) λad j=>U3 ad λs d o=>ld 3 s j λG=>
 ld 3 s j λI=>
 bn .add 3 I o λJ=>
 bd 176 [(0,(i 3)),(1,G),(2,J)] λL=>
 fN (mB y 176 d L j) λa2 e=>
 ob (ob (wE y 176 d e) λF=>some [F,(i 0)]) λn=>oR n e
def akX (c:CH) (d:QH) (e:V6 GV) (H:GH):RS:=U4 e λf g h j=>
 jn (nB 0 (d 33 [f,g,h,j,(i 0)] H)) λa b=>U0 a (oR [] b)
def L33 (c:CH) (V:QH) (us:V6 GV) (H:GH):RS:=U5 us λS T U p q=>jn (ob (GV.nilck S) λG=>
 fd 132 0 G λI=>
 K c 188 [I] H λJ k=>
 bn .eql 9 J T λL=>
 ob (GV.asB L) λE=>jn (bC E (oX 0 [] k) (oN [S,T,U,p,q] k)) λm l=>U5 m λa f b g d=>jn (nB 1 (bn .eql 3 d b λM=>
 ob (GV.asB M) λF=>jn (bC F (oN [a,f,b,g,d] l) (ob (GV.nilck a) λN=>
 fd 132 0 N λO=>
 K c 155 [O,(i 3)] l λW z=>
 oN [a,f,b,g,d] z)) λn A=>U5 n λh r s j t=>ob (GV.nilck h) λP=>
 fd 132 0 P λQ=>
 K c 191 [Q] A λX B=>
 ob (GV.asF j) λe=>fN (c e.1 (e.2.1++[]++e.2.2) B) λY C=>
 oN [h,r,s,j,t] C)) λo D=>U5 o λu v w x y=>bn .add 3 y (i 1) λR=>
 oN [u,v,w,x,R] D) (V 33)
def akY (c:CH) (j:QH) (g:V6 GV) (H:GH):RS:=U1 g λh=>
 ob (GV.nilck h) λa=>
 fd 130 1 a λb=>
 ld 124 b H λd=>
 ln 124 d λe=>
 bn .eql 3 e (i 0) λf=>
 oR [f] H
def aiS:LX:=[(5,35),(13,36)]
def akZ (c:CH) (s:QH) (x:V6 GV) (H:GH):RS:=U2 x λy r=>
 fN (Gh y H) λp n=>
 fd 192 1 p λu=>
 ld 189 u n λv=>
 K c 199 [v,r,(.bool false)] n λq o=>
 ex 0 q λw=>
 ex 1 q λt=>
 bn .neq 3 w (i 2) λk=>
 ob (GV.asB k) λj=>jn (bC j (oN [r,p] o) (oR [(.bool false)] o)) λd a=>U2 d λf g=>fd 192 2 g λl=>
 ld 190 l a λb=>
 ln 190 b λm=>
 jn (nB 0 (s 39 [f,b,m,(i 0)] a)) λe h=>U0 e (oR [(.bool true)] h)
def L39 (c:CH) (U:QH) (X:V6 GV) (H:GH):RS:=U4 X λp q e f=>jn (bn .lss 3 f e λG=>
 ob (GV.asB G) λE=>jn (bC E (oX 0 [] H) (oN [p,q,e,f] H)) λm j=>U4 m λb g r h=>jn (nB 1 (ix 190 g h λI=>
 ld 208 I j λJ=>
 fN (sL y 208 j) λd B=>
 fN (mB y 208 d J B) λV k=>
 fd 208 1 d λL=>
 ld 189 L k λM=>
 K c 199 [M,b,(.bool false)] k λl a=>
 ex 0 l λN=>
 ex 1 l λW=>
 fd 208 0 d λO=>
 ld 3 O a λP=>
 ix 22 b P λQ=>
 ld 3 Q a λR=>
 bn .neq 3 N R λS=>
 ob (GV.asB S) λF=>jn (bC F (oN [b,g,r,h] a) (oR [(.bool false)] a)) λn C=>U4 n λs t u v=>oN [s,t,u,v] C)) λo D=>U4 o λw x z A=>bn .add 3 A (i 1) λT=>
 oN [w,x,z,T] D) (U 39)
def ak_ (c:CH) (g:QH) (d:V6 GV) (H:GH):RS:=U3 d λe f k=>
 fN (Gh e H) λh a=>
 fN (Gh f a) λj b=>
 oR [(i 0),(i 1)] b
def ala (c:CH) (k:QH) (h:V6 GV) (H:GH):RS:=U1 h λj=>
 fN (Gh j H) λd a=>
 ld 36 d a λe=>
 K c 96 [e] a λf b=>
 bn .eql 47 f (i 0) λg=>
 oR [g] b
def alb (c:CH) (e:QH) (g:V6 GV) (H:GH):RS:=U2 g λb h=>
 ln 22 b λf=>
 jn (nB 0 (e 40 [b,h,f,(i 0)] H)) λa d=>U0 a (oR [(.int .i64 (.negSucc 0))] d)
def L40 (c:CH) (F:QH) (G:V6 GV) (H:GH):RS:=U4 G λD E B C=>jn (bn .lss 3 C B λw=>
 ob (GV.asB w) λu=>jn (bC u (oX 0 [] H) (oN [D,E,B,C] H)) λf b=>U4 f λd e j a=>jn (nB 1 (ix 22 d a λx=>
 ld 3 x b λy=>
 bn .eql 3 e y λz=>
 ob (GV.asB z) λv=>jn (bC v (oN [d,e,j,a] b) (oR [a] b)) λg s=>U4 g λk l m n=>oN [k,l,m,n] s)) λh t=>U4 h λo p q r=>bn .add 3 r (i 1) λA=>
 oN [o,p,q,A] t) (F 40)
def alc (c:CH) (e:QH) (g:V6 GV) (H:GH):RS:=U3 g λh i j=>
 ld 3 i H λf=>
 jn (nB 0 (e 41 [h,j,f] H)) λa d=>U1 a λb=>oR [b] d
def L41 (c:CH) (K:QH) (L:V6 GV) (H:GH):RS:=U3 L λJ s b=>jn (ld 9 s H λz=>
 ln 9 z λA=>
 bn .lss 3 b A λa=>
 fN (rG a true H (some (J,H))) λB d=>
 fN (rG a true d (ob (wE y 9 s d) λt=>some (t,d))) λC f=>
 fN (rG a true f (some (b,f))) λD g=>
 fN (rG a true g (ob (vAt y 9 C D) λu=>some (u,g))) λE h=>
 fN (rG a true h (ob (GV.asF B) λe=>fN (c e.1 (e.2.1++[E]++e.2.2) h) Iq)) λF j=>
 ob (pG a F (.bool false)) λG=>
 ob (GV.asB G) λx=>jn (bC x (oX 0 [b] j) (oN [J,s,b] j)) λk v=>U3 k λm n o=>jn (nB 1 (bn .add 3 o (i 1) λI=>
 oN [m,n,I] v)) λl w=>U3 l λp q r=>oN [p,q,r] w) (K 41)
def ald (c:CH) (B:QH) (A:V6 GV) (H:GH):RS:=U1 A λi=>
 bn .geq 5 i (.int .u8 (.ofNat 97)) λq=>
 fN (rG q true H (some (i,H))) λw t=>
 fN (rG q true t (ob (Be y .leq 5 w (.int .u8 (.ofNat 122))) λv=>some (v,t))) λx u=>
 ob (pG q x (.bool false)) λh=>
 fN (rG h false u (some (i,u))) λz b=>
 fN (rG h false b (ob (Be y .geq 5 z (.int .u8 (.ofNat 65))) λj=>some (j,b))) λn d=>
 fN (rG h false d (some (n,d))) λa e=>
 fN (rG a true e (some (i,e))) λo f=>
 fN (rG a true f (ob (Be y .leq 5 o (.int .u8 (.ofNat 90))) λk=>some (k,f))) λp g=>
 fN (rG h false g (ob (pG a p (.bool false)) λl=>some (l,g))) λr m=>
 ob (pG h (.bool true) r) λs=>
 oR [s] m
def ale (c:CH) (q:QH) (p:V6 GV) (H:GH):RS:=U1 p λi=>
 K c 182 [i] H λg j=>
 fN (rG g false j (some (i,j))) λm k=>
 fN (rG g false k (fN (c 184 [m] k) Iq)) λn l=>
 ob (pG g (.bool true) n) λh=>
 fN (rG h false l (some (i,l))) λo a=>
 fN (rG h false a (ob (Be y .eql 5 o (.int .u8 (.ofNat 95))) λb=>some (b,a))) λe d=>
 ob (pG h (.bool true) e) λf=>
 oR [f] d
def alf (c:CH) (k:QH) (j:V6 GV) (H:GH):RS:=U1 j λd=>
 bn .geq 5 d (.int .u8 (.ofNat 48)) λa=>
 fN (rG a true H (some (d,H))) λg b=>
 fN (rG a true b (ob (Be y .leq 5 g (.int .u8 (.ofNat 57))) λe=>some (e,b))) λh f=>
 ob (pG a h (.bool false)) λi=>
 oR [i] f
def alg (c:CH) (m:QH) (q:V6 GV) (H:GH):RS:=U1 q λr=>
 fN (uM y 128 9 [(0,(.str 11822 2)),(1,(.str 15917 2)),(2,(.str 15674 2)),(3,(.str 9766 2)),(4,(.str 31868 2)),(5,(.str 15677 2)),(6,(.str 15649 2)),(7,(.str 15676 2)),(8,(.str 15678 2))] H) λh k=>
 ln 128 h λn=>
 jn (nB 0 (m 43 [r,h,n,(i 0)] k)) λg l=>U1 g λj=>ob (vAt y 9 j (i 0)) λo=>
 K c 211 [(.str 172099982263598878148345807877454395 15),o] l λp a=>
 bn .geq 3 p (i 0) λf=>
 ob (GV.asB f) λe=>jn (bC e (oN [] a) (oR [(i 1)] a)) λb d=>U0 b (oR [(i 0)] d)
def L43 (c:CH) (G:QH) (I:V6 GV) (H:GH):RS:=U4 I λa n b d=>jn (bn .lss 3 d b λB=>
 ob (GV.asB B) λz=>jn (bC z (oX 0 [a] H) (oN [a,n,b,d] H)) λk h=>U4 k λe f o g=>jn (nB 1 (ix 128 f g λC=>
 ld 9 C h λD=>
 K c 210 [e,D] h λE j=>
 ob (GV.asB E) λA=>jn (bC A (oN [e,f,o,g] j) (oR [(i 2)] j)) λl x=>U4 l λp q r s=>oN [p,q,r,s] x)) λm y=>U4 m λt u v w=>bn .add 3 w (i 1) λF=>
 oN [t,u,v,F] y) (G 43)
def alh (c:CH) (n:QH) (l:V6 GV) (H:GH):RS:=U2 l λe m=>
 K c 188 [e] H λj d=>
 bn .neq 9 j m λk=>
 ob (GV.asB k) λh=>jn (bC h (oN [e] d) (oR [(.bool false)] d)) λb g=>U1 b λf=>K c 191 [f] g λi a=>
 oR [(.bool true)] a
def ali (c:CH) (E:QH) (D:V6 GV) (H:GH):RS:=U1 D λv=>
 ob (GV.nilck v) λx=>
 fd 130 1 x λz=>
 ld 124 z H λA=>
 ln 124 A λB=>
 bn .eql 3 B (i 0) λC=>
 ob (GV.asB C) λw=>jn (bC w (oN [v] H) (oR [(.str 0 0)] H)) λu b=>U1 u λa=>ob (GV.nilck a) λd=>
 fd 130 0 d λe=>
 ld 9 e b λf=>
 ob (GV.nilck a) λg=>
 fd 130 1 g λh=>
 ld 124 h b λj=>
 ix 124 j (i 0) λk=>
 fd 176 1 k λl=>
 ld 3 l b λm=>
 ob (GV.nilck a) λn=>
 fd 130 1 n λo=>
 ld 124 o b λp=>
 ix 124 p (i 0) λq=>
 fd 176 2 q λr=>
 ld 3 r b λs=>
 ob (DD y 9 f (some m) (some s) b) λt=>
 oR [t] b
def alj (c:CH) (t:QH) (s:V6 GV) (H:GH):RS:=U1 s λl=>
 ob (GV.nilck l) λn=>
 fd 130 1 n λo=>
 ld 124 o H λp=>
 ln 124 p λq=>
 bn .eql 3 q (i 0) λr=>
 ob (GV.asB r) λm=>jn (bC m (oN [l] H) (oR [(i 0)] H)) λk b=>U1 k λa=>ob (GV.nilck a) λd=>
 fd 130 1 d λe=>
 ld 124 e b λf=>
 ix 124 f (i 0) λg=>
 fd 176 0 g λh=>
 ld 3 h b λj=>
 oR [j] b
def alk (c:CH) (J:QH) (O:V6 GV) (H:GH):RS:=U1 O λm=>
 ln 9 m λL=>
 bn .lss 3 L (i 1) λl=>
 fN (rG l false H (some (m,H))) λM E=>
 fN (rG l false E (ob (Wt y 9 M) λG=>some (G,E))) λN F=>
 fN (rG l false F (ob (Be y .gtr 3 N (i 24)) λI=>some (I,F))) λu d=>
 ob (pG l (.bool true) u) λa=>
 fN (rG a false d (some (m,d))) λv e=>
 fN (rG a false e (ob (vAt y 9 v (i 0)) λo=>some (o,e))) λw f=>
 fN (rG a false f (fN (c 182 [w] f) Iq)) λx g=>
 fN (rG a false g (ob (ZN .not x) λp=>some (p,g))) λz h=>
 ob (pG a (.bool true) z) λA=>
 ob (GV.asB A) λt=>jn (bC t (oN [m] h) (oR [(.bool false)] h)) λj q=>U1 j λb=>ln 9 b λB=>
 jn (nB 0 (J 44 [b,B,(i 0)] q)) λk r=>U1 k λn=>K c 212 [n] r λC s=>
 ob (ZN .not C) λD=>
 oR [D] s
def L44 (c:CH) (D:QH) (E:V6 GV) (H:GH):RS:=U3 E λa b d=>jn (bn .lss 3 d b λx=>
 ob (GV.asB x) λv=>jn (bC v (oX 0 [a] H) (oN [a,b,d] H)) λh s=>U3 h λe l f=>jn (nB 1 (ob (vAt y 9 e f) λz=>
 K c 183 [z] s λA g=>
 ob (ZN .not A) λB=>
 ob (GV.asB B) λw=>jn (bC w (oN [e,l,f] g) (oR [(.bool false)] g)) λj t=>U3 j λm n o=>oN [m,n,o] t)) λk u=>U3 k λp q r=>bn .add 3 r (i 1) λC=>
 oN [p,q,C] u) (D 44)
def alm (c:CH) (R:QH) (Q:V6 GV) (H:GH):RS:=U1 Q λl=>
 fN (sL y 176 H) λD o=>
 ob (GV.nilck l) λL=>
 fd 130 1 L λM=>
 ld 124 M o λN=>
 ln 124 N λO=>
 bn .eql 3 O (i 0) λP=>
 ob (GV.asB P) λE=>jn (bC E (oN [l,D] o) (K c 155 [l,(i 4)] o λF m=>
 oN [l,D] m)) λj b=>U2 j λa e=>ob (GV.nilck a) λq=>
 fd 130 1 q λr=>
 ld 124 r b λs=>
 ix 124 s (i 0) λt=>
 ld 176 t b λu=>
 fN (sL y 176 b) λh n=>
 fN (mB y 176 h u n) λG d=>
 ob (GV.nilck a) λv=>
 fd 130 1 v λw=>
 ld 124 w d λx=>
 ob (DD y 124 x (some (i 1)) none d) λz=>
 ob (GV.nilck a) λA=>
 fd 130 1 A λB=>
 fN (mB y 124 B z d) λI f=>
 ld 176 h f λC=>
 fN (mB y 176 e C f) λJ g=>
 ob (ob (wE y 176 e g) λp=>some [p]) λk=>oR k g
def aln (c:CH) (r:QH) (q:V6 GV) (H:GH):RS:=U1 q λj=>
 bn .eql 3 j (i 1) λg=>
 fN (rG g false H (some (j,H))) λn k=>
 fN (rG g false k (ob (Be y .eql 3 n (i 2)) λm=>some (m,k))) λo l=>
 ob (pG g (.bool true) o) λh=>
 fN (rG h false l (some (j,l))) λp a=>
 fN (rG h false a (ob (Be y .eql 3 p (i 3)) λb=>some (b,a))) λe d=>
 ob (pG h (.bool true) e) λf=>
 oR [f] d
def alo (c:CH) (o:QH) (l:V6 GV) (H:GH):RS:=U3 l λh m n=>
 bn .geq 3 h m λa=>
 fN (rG a true H (some (h,H))) λj f=>
 fN (rG a true f (some (n,f))) λk g=>
 fN (rG a true g (ob (Be y .leq 3 j k) λi=>some (i,g))) λd b=>
 ob (pG a d (.bool false)) λe=>
 oR [e] b
def alp (c:CH) (L:QH) (Q:V6 GV) (H:GH):RS:=U2 Q λo R=>
 ln 189 o λM=>
 bn .gtr 3 M (i 200) λd=>
 fN (rG d false H (some (o,H))) λN I=>
 fN (rG d false I (fN (c 217 [N,(i 0)] I) Iq)) λO J=>
 fN (rG d false J (some (o,J))) λP f=>
 fN (rG d false f (ob (Wt y 189 P) λq=>some (q,f))) λx g=>
 fN (rG d false g (ob (Be y .neq 3 O x) λr=>some (r,g))) λz h=>
 ob (pG d (.bool true) z) λA=>
 ob (GV.asB A) λw=>jn (bC w (oN [o,R] h) (oR [(.bool false)] h)) λm t=>U2 m λb p=>ln 189 b λB=>
 jn (nB 0 (L 45 [b,p,b,B,(i 0)] t)) λn u=>U1 n λe=>K c 219 [e] u λC j=>
 bn .leq 3 C (i 24) λa=>
 fN (rG a true j (some (e,j))) λD k=>
 fN (rG a true k (fN (c 220 [D] k) Iq)) λE l=>
 fN (rG a true l (ob (Be y .leq 3 E (i 2)) λs=>some (s,l))) λF v=>
 ob (pG a F (.bool false)) λG=>
 oR [G] v
def L45 (c:CH) (S:QH) (U:V6 GV) (H:GH):RS:=U5 U λa p q b d=>jn (bn .lss 3 d b λL=>
 ob (GV.asB L) λI=>jn (bC I (oX 0 [a] H) (oN [a,p,q,b,d] H)) λm h=>U5 m λr e f s g=>jn (nB 1 (ix 189 f g λM=>
 ld 228 M h λN=>
 fN (sL y 228 h) λl E=>
 fN (mB y 228 l N E) λT j=>
 ld 228 l j λO=>
 K c 218 [O,e] j λP k=>
 ob (ZN .not P) λQ=>
 ob (GV.asB Q) λJ=>jn (bC J (oN [r,e,f,s,g] k) (oR [(.bool false)] k)) λn F=>U5 n λt u v w x=>oN [t,u,v,w,x] F)) λo G=>U5 o λz A B C D=>bn .add 3 D (i 1) λR=>
 oN [z,A,B,C,R] G) (S 45)
def alq (c:CH) (P:QH) (U:V6 GV) (H:GH):RS:=U3 U λV L W=>
 ln 22 L λS=>
 bn .gtr 3 S (i 6) λT=>
 ob (GV.asB T) λO=>jn (bC O (oN [V,L,W] H) (oR [(i 0),(i 7)] H)) λJ N=>U3 J λM a o=>ln 22 a λB=>
 jn (nB 0 (P 46 [M,a,o,a,B,(i 0)] N)) λl u=>U3 l λb d p=>ln 22 d λC=>
 K c 198 [b,C] u λD e=>
 ob (ZN .not D) λE=>
 ob (GV.asB E) λz=>jn (bC z (oN [b,d,p] e) (oR [(i 0),(i 7)] e)) λm v=>U3 m λq r s=>bd 248 [(0,q),(1,r)] λF=>
 fN (sL y 248 v) λh w=>
 fN (mB y 248 h F w) λQ f=>
 ld 248 h f λG=>
 K c 221 [G,(i 0),s] f λj g=>
 ex 0 j λk=>
 ex 1 j λR=>
 bn .eql 3 k (i 0) λI=>
 ob (GV.asB I) λA=>jn (bC A (oN [k] g) (oR [(i 0),(i 6)] g)) λn x=>U1 n λt=>oR [t,(i 0)] x
def L46 (c:CH) (R:QH) (S:V6 GV) (H:GH):RS:=U6 S λa b d o e f=>jn (bn .lss 3 f e λL=>
 ob (GV.asB L) λI=>jn (bC I (oX 0 [a,b,d] H) (oN [a,b,d,o,e,f] H)) λl j=>U6 l λp q r g s h=>jn (nB 1 (ix 22 g h λM=>
 ld 3 M j λN=>
 K c 196 [N] j λO k=>
 ob (ZN .not O) λP=>
 ob (GV.asB P) λJ=>jn (bC J (oN [p,q,r,g,s,h] k) (oR [(i 0),(i 7)] k)) λm F=>U6 m λt u v w x y=>oN [t,u,v,w,x,y] F)) λn G=>U6 n λz A B C D E=>bn .add 3 E (i 1) λQ=>
 oN [z,A,B,C,D,Q] G) (R 46)
def alr (c:CH) (ql:QH) (us:V6 GV) (H:GH):RS:=U3 us λg h E=>
 ob (GV.nilck g) λt4=>
 fd 237 3 t4 λt5=>
 ld 189 t5 H λt6=>
 ix 189 t6 h λt7=>
 ld 228 t7 H λt8=>
 fN (sL y 228 H) λb U=>
 fN (mB y 228 b t8 U) λa3 a=>
 jn (nB 0 (fd 228 0 b λam=>
 ld 3 am a λan=>
 bn .leq 3 an (i 17) λao=>
 ob (GV.asB ao) λai=>jn (bC ai (fd 228 0 b λau=>
 ld 3 au a λav=>
 bn .leq 3 av (i 19) λaw=>
 ob (GV.asB aw) λaj=>jn (bC aj (fd 228 0 b λaD=>
 ld 3 aD a λaE=>
 bn .leq 3 aE (i 29) λaF=>
 ob (GV.asB aF) λak=>jn (bC ak (fd 228 0 b λaK=>
 ld 3 aK a λaL=>
 bn .leq 3 aL (i 42) λaM=>
 ob (GV.asB aM) λal=>jn (bC al (oN [g,h,E] a) (bn .add 3 h (i 1) λaN=>
 K c 209 [g,aN,E] a λs Y=>
 ex 0 s λaO=>
 ex 1 s λaP=>
 K c 209 [g,aP,E] Y λt n=>
 ex 0 t λaQ=>
 ex 1 t λaR=>
 fd 228 0 b λaS=>
 ld 3 aS n λaT=>
 K c 238 [aT,aO,aQ] n λaU aa=>
 oR [aU,aR] aa)) λz ab=>U3 z λF G I=>oN [F,G,I] ab) (fd 228 0 b λaG=>
 ld 3 aG a λaH=>
 K c 237 [g,aH,h] a λr X=>
 ex 0 r λaI=>
 ex 1 r λaJ=>
 oR [aI,aJ] X)) λA ac=>U3 A λJ L M=>oN [J,L,M] ac) (bn .add 3 h (i 1) λax=>
 K c 209 [g,ax,E] a λq m=>
 ex 0 q λay=>
 ex 1 q λaz=>
 fd 228 0 b λaA=>
 ld 3 aA m λaB=>
 K c 236 [aB,ay] m λaC W=>
 oR [aC,az] W)) λB ad=>U3 B λN O P=>oN [N,O,P] ad) (ld 228 b a λap=>
 K c 235 [g,ap,E] a λaq V=>
 bn .add 3 h (i 1) λar=>
 oR [aq,ar] V)) λC ae=>U3 C λQ R S=>oN [Q,R,S] ae)) λD af=>U3 D λd T e=>bn .add 3 T (i 1) λaV=>
 K c 209 [d,aV,e] af λu ag=>
 ex 0 u λaW=>
 ex 1 u λaX=>
 K c 209 [d,aX,e] ag λv ah=>
 ex 0 v λaY=>
 ex 1 v λa0=>
 K c 209 [d,a0,e] ah λw o=>
 ex 0 w λa1=>
 ex 1 w λx=>
 bn .neq 3 aW (i 0) λa2=>
 ob (GV.asB a2) λp=>jn (bC p (oN [x,a1] o) (oR [aY,x] o)) λf l=>U2 f λj k=>oR [k,j] l
def als (c:CH) (g:QH) (d:V6 GV) (H:GH):RS:=U2 d λe f=>
 K c 239 [e,f] H λb a=>
 oR [b] a
def alt (c:CH) (g:QH) (d:V6 GV) (H:GH):RS:=U2 d λe f=>
 K c 240 [e,f] H λb a=>
 oR [b] a
def alu (c:CH) (q:QH) (t:V6 GV) (H:GH):RS:=U2 t λl m=>
 bn .eql 3 m (i 6) λr=>
 ob (GV.asB r) λp=>jn (bC p (oN [l,m] H) (K c 242 [l] H λs n=>
 oR [s] n)) λj o=>U2 j λk a=>bn .add 3 a (i 1) λg=>
 K c 214 [k,g] o λh e=>
 jn (nB 0 (q 47 [k,a,h] e)) λb f=>U1 b λd=>oR [d] f
def L47 (c:CH) (Y:QH) (us:V6 GV) (H:GH):RS:=U3 us λf g h=>jn (jn (nB 1 (K c 188 [f] H λO D=>
 K c 243 [O] D λe j=>
 bn .eql 3 e (i 0) λa=>
 fN (rG a false j (some (e,j))) λP k=>
 fN (rG a false k (fN (c 244 [P] k) Iq)) λQ l=>
 fN (rG a false l (some (g,l))) λR m=>
 fN (rG a false m (ob (Be y .neq 3 Q R) λC=>some (C,m))) λS n=>
 ob (pG a (.bool true) S) λT=>
 ob (GV.asB T) λM=>jn (bC M (oN [f,g,h,e] n) (oR [h] n)) λq E=>U4 q λb d t u=>K c 191 [b] E λaa F=>
 bn .add 3 d (i 1) λU=>
 K c 214 [b,U] F λV G=>
 fN (uM y 256 2 [(0,t),(1,V)] G) λW I=>
 K c 215 [u,W] I λp o=>
 bn .eql 3 d (i 3) λX=>
 ob (GV.asB X) λN=>jn (bC N (oN [b,d,p] o) (oR [p] o)) λr J=>U3 r λv w x=>oN [v,w,x] J)) λs L=>U3 s λz A B=>oN [z,A,B] L) (Y 47)
def alv (c:CH) (g:QH) (k:V6 GV) (H:GH):RS:=U2 k λl b=>
 K c 245 [l,(i 0)] H λh e=>
 ln 256 b λj=>
 jn (nB 0 (g 48 [h,b,j,(i 0)] e)) λa f=>U1 a λd=>oR [d] f
def L48 (c:CH) (A:QH) (B:V6 GV) (H:GH):RS:=U4 B λz j a b=>jn (bn .lss 3 b a λt=>
 ob (GV.asB t) λs=>jn (bC s (oX 0 [z] H) (oN [z,j,a,b] H)) λg f=>U4 g λk d l e=>jn (nB 1 (ix 256 d e λu=>
 ld 189 u f λv=>
 fN (Wo y 189 189 k v f) λw q=>
 oN [w,d,l,e] q)) λh r=>U4 h λm n o p=>bn .add 3 p (i 1) λx=>
 oN [m,n,o,x] r) (A 48)
def alw (c:CH) (e:QH) (g:V6 GV) (H:GH):RS:=U2 g λb h=>
 ln 128 b λf=>
 jn (nB 0 (e 49 [b,h,f,(i 0)] H)) λa d=>U0 a (oR [(.int .i64 (.negSucc 0))] d)
def L49 (c:CH) (F:QH) (G:V6 GV) (H:GH):RS:=U4 G λD E B C=>jn (bn .lss 3 C B λw=>
 ob (GV.asB w) λu=>jn (bC u (oX 0 [] H) (oN [D,E,B,C] H)) λf b=>U4 f λd e j a=>jn (nB 1 (ix 128 d a λx=>
 ld 9 x b λy=>
 bn .eql 9 e y λz=>
 ob (GV.asB z) λv=>jn (bC v (oN [d,e,j,a] b) (oR [a] b)) λg s=>U4 g λk l m n=>oN [k,l,m,n] s)) λh t=>U4 h λo p q r=>bn .add 3 r (i 1) λA=>
 oN [o,p,q,A] t) (F 49)
def alx (c:CH) (u:QH) (z:V6 GV) (H:GH):RS:=U2 z λs p=>
 bn .lss 3 p (i 0) λd=>
 fN (rG d false H (some (p,H))) λv q=>
 fN (rG d false q (some (s,q))) λw r=>
 fN (rG d false r (ob (Wt y 189 w) λt=>some (t,r))) λx a=>
 fN (rG d false a (ob (Be y .geq 3 v x) λj=>some (j,a))) λn b=>
 ob (pG d (.bool true) n) λo=>
 ob (GV.asB o) λm=>jn (bC m (oN [s,p] b) (oR [(.int .i64 (.negSucc 0))] b)) λe k=>U2 e λg h=>jn (nB 0 (u 50 [g,h,(i 1)] k)) λf l=>U0 f (oR [(.int .i64 (.negSucc 0))] l)
def L50 (c:CH) (S:QH) (T:V6 GV) (H:GH):RS:=U3 T λa b q=>jn (ln 189 a λG=>
 bn .lss 3 b G λI=>
 ob (GV.asB I) λD=>jn (bC D (oX 0 [] H) (oN [a,b,q] H)) λm g=>U3 m λd e r=>jn (nB 1 (ix 189 d e λJ=>
 fd 228 0 J λL=>
 ld 3 L g λM=>
 K c 246 [M] g λk h=>
 bn .lss 3 k (i 0) λN=>
 ob (GV.asB N) λE=>jn (bC E (oN [d,e,r,k] h) (oR [(.int .i64 (.negSucc 0))] h)) λn j=>U4 n λs f t u=>bn .sub 3 u (i 1) λO=>
 bn .add 3 t O λl=>
 bn .eql 3 l (i 0) λP=>
 ob (GV.asB P) λF=>jn (bC F (oN [s,f,l] j) (bn .add 3 f (i 1) λQ=>
 oR [Q] j)) λo B=>U3 o λv w x=>oN [v,w,x] B)) λp C=>U3 p λy z A=>bn .add 3 z (i 1) λR=>
 oN [y,R,A] C) (S 50)
def aly (c:CH) (ql:QH) (us:V6 GV) (H:GH):RS:=U2 us λx1 x2=>
 fN (Gh x1 H) λo h=>
 fd 228 0 o λt5=>
 ld 3 t5 h λt6=>
 jn (nB 0 (bn .eql 3 t6 (i 1) λt7=>
 ob (GV.asB t7) λq8=>jn (bC q8 (bn .eql 3 t6 (i 5) λn=>
 ob (GV.asB n) λK=>jn (bC K (bn .eql 3 t6 (i 12) λR=>
 oN [x2,o,R] h) (oN [x2,o,n] h)) λp b=>U3 p λt e u=>ob (GV.asB u) λL=>jn (bC L (oN [e] b) (fd 228 1 e λS=>
 ld 3 S b λT=>
 bn .geq 3 T (i 0) λa=>
 fN (rG a true b (ob (Lm y 228 1 e) λC=>some (C,b))) λU g=>
 fN (rG a true g (ob (wE y 3 U g) λD=>some (D,g))) λV k=>
 fN (rG a true k (some (t,k))) λW l=>
 fN (rG a true l (ob (Be y .lss 3 V W) λE=>some (E,l))) λX G=>
 ob (pG a X (.bool false)) λY=>
 oR [Y] G)) λq I=>U1 q λv=>oN [v] I) (fd 228 1 o λt9=>
 ld 3 t9 h λM=>
 bn .geq 3 M (i 0) λd=>
 fN (rG d true h (ob (Lm y 228 1 o) λz=>some (z,h))) λN f=>
 fN (rG d true f (ob (wE y 3 N f) λA=>some (A,f))) λO j=>
 fN (rG d true j (ob (Be y .leq 3 O (i 1073741824)) λB=>some (B,j))) λP F=>
 ob (pG d P (.bool false)) λQ=>
 oR [Q] F)) λr J=>U1 r λw=>oN [w] J)) λs m=>U1 s λx=>fd 228 1 x λaa=>
 ld 3 aa m λab=>
 bn .eql 3 ab (i 0) λac=>
 oR [ac] m
def alz (c:CH) (g:QH) (e:V6 GV) (H:GH):RS:=U1 e λf=>
 K c 247 [f,(.fn 248 [] [])] H λa b=>
 ex 0 a λd=>
 ex 1 a λh=>
 oR [d] b
def alA (c:CH) (g:QH) (e:V6 GV) (H:GH):RS:=U1 e λf=>
 K c 247 [f,(.fn 249 [] [])] H λa b=>
 ex 0 a λd=>
 ex 1 a λh=>
 oR [d] b
def alB (c:CH) (ql:QH) (us:V6 GV) (H:GH):RS:=U3 us λx1 x2 x3=>
 fN (Gh x1 H) λt4 L=>
 fd 248 0 t4 λt6=>
 ld 189 t6 L λt7=>
 ix 189 t7 x2 λt8=>
 ld 228 t8 L λt9=>
 fN (sL y 228 L) λa I=>
 fN (mB y 228 a t9 I) λaq l=>
 bn .add 3 x2 (i 1) λj=>
 fd 228 0 a λR=>
 ld 3 R l λS=>
 K c 246 [S] l λT e=>
 bn .eql 3 T (i 0) λU=>
 ob (GV.asB U) λP=>jn (bC P (oN [x3,t4,j,a] e) (fd 228 0 a λV=>
 ld 3 V e λW=>
 K c 251 [W] e λk m=>
 fN (rG k true m (some (x3,m))) λX n=>
 fN (rG k true n (ob (ZN .not X) λE=>some (E,n))) λY o=>
 ob (pG k Y (.bool false)) λaa=>
 ob (GV.asB aa) λQ=>jn (bC Q (oN [t4,j,a] o) (oR [(i 0),j] o)) λs f=>U3 s λv w x=>ld 248 v f λab=>
 ld 228 x f λac=>
 K c 252 [ab,ac] f λad J=>
 oR [ad,w] J)) λt p=>U4 t λb z A d=>fN (rG b false p (ob (Lm y 228 0 d) λF=>some (F,p))) λae g=>
 fN (rG b false g (ob (wE y 3 ae g) λG=>some (G,g))) λaf q=>
 fN (rG b false q (fN (c 250 [af] q) Iq)) λag M=>
 ob (pG b (.bool true) ag) λah=>
 fN (sL y 260 M) λai r=>
 fd 228 0 d λaj=>
 ld 3 aj r λak=>
 K c 246 [ak] r λal N=>
 jn (nB 0 (ql 51 [z,A,d,ah,ai,al,(i 0)] N)) λu h=>U3 u λB C D=>fd 228 0 C λam=>
 ld 3 am h λan=>
 ld 260 D h λao=>
 K c 253 [an,ao] h λap O=>
 oR [ap,B] O
def L51 (c:CH) (O:QH) (Q:V6 GV) (H:GH):RS:=U7 Q λx j k z l m n=>jn (bn .lss 3 n m λI=>
 ob (GV.asB I) λG=>jn (bC G (oX 0 [j,k,l] H) (oN [x,j,k,z,l,m,n] H)) λv s=>U7 v λo A B p q C r=>jn (nB 1 (ld 248 o s λJ=>
 K c 221 [J,A,p] s λu D=>
 ex 0 u λL=>
 ex 1 u λM=>
 ix 260 q r λN=>
 fN (mB y 3 N L D) λP E=>
 oN [o,M,B,p,q,C,r] E)) λw F=>U7 w λa b d e f g h=>bn .add 3 h (i 1) λt=>
 oN [a,b,d,e,f,g,t] F) (O 51)
def alC (c:CH) (x:QH) (w:V6 GV) (H:GH):RS:=U2 w λr o=>
 ln 9 r λs=>
 ln 9 o λt=>
 bn .geq 3 s t λb=>
 fN (rG b true H (some (r,H))) λu p=>
 fN (rG b true p (some (o,p))) λv q=>
 fN (rG b true q (ob (Wt y 9 v) λf=>some (f,q))) λj a=>
 fN (rG b true a (ob (DD y 9 u none (some j) a) λg=>some (g,a))) λk d=>
 fN (rG b true d (some (o,d))) λl e=>
 fN (rG b true e (ob (Be y .eql 9 k l) λh=>some (h,e))) λm i=>
 ob (pG b m (.bool false)) λn=>
 oR [n] i
def alD (c:CH) (g:QH) (d:V6 GV) (H:GH):RS:=U2 d λe f=>
 K c 265 [e,f] H λb a=>
 oR [b] a
def alE (c:CH) (J:QH) (I:V6 GV) (H:GH):RS:=U1 I λf=>
 jn (nB 0 (K c 187 [f,(.str 45 1)] H λD z=>
 ob (GV.asB D) λC=>jn (bC C (K c 187 [f,(.str 33 1)] z λt a=>
 ob (GV.asB t) λs=>jn (bC s (oN [f] a) (K c 242 [f] a λu l=>
 fN (uM y 256 1 [(0,u)] l) λv m=>
 K c 215 [(i 19),v] m λw n=>
 oR [w] n)) λb o=>U1 b λg=>oN [g] o) (K c 242 [f] z λE A=>
 fN (uM y 256 1 [(0,E)] A) λF B=>
 K c 215 [(i 18),F] B λG k=>
 oR [G] k)) λd p=>U1 d λh=>oN [h] p)) λe q=>U1 e λj=>K c 266 [j] q λx r=>
 oR [x] r
def alF (c:CH) (h:QH) (f:V6 GV) (H:GH):RS:=U1 f λg=>
 K c 268 [] H λd a=>
 K c 267 [g,(i 30),d] a λe b=>
 oR [e] b
def alG (c:CH) (ql:QH) (us:V6 GV) (H:GH):RS:=U1 us λa=>
 jn (nB 0 (bn .eql 3 a (i 43) λt2=>
 ob (GV.asB t2) λq3=>jn (bC q3 (bn .eql 3 a (i 42) λt4=>
 ob (GV.asB t4) λq5=>jn (bC q5 (bn .eql 3 a (i 41) λt6=>
 ob (GV.asB t6) λq7=>jn (bC q7 (bn .eql 3 a (i 35) λt8=>
 ob (GV.asB t8) λq9=>jn (bC q9 (bn .eql 3 a (i 36) λk=>
 ob (GV.asB k) λam=>jn (bC am (bn .eql 3 a (i 37) λl=>
 ob (GV.asB l) λan=>jn (bC an (bn .eql 3 a (i 38) λm=>
 ob (GV.asB m) λao=>jn (bC ao (bn .eql 3 a (i 39) λn=>
 ob (GV.asB n) λap=>jn (bC ap (bn .eql 3 a (i 40) λaA=>
 oN [a,aA] H) (oN [a,n] H)) λs Y=>U2 s λK L=>oN [K,L] Y) (oN [a,m] H)) λt aa=>U2 t λM N=>oN [M,N] aa) (oN [a,l] H)) λu ab=>U2 u λO P=>oN [O,P] ab) (oN [a,k] H)) λv ac=>U2 v λQ R=>oN [Q,R] ac) (oN [a,t8] H)) λw f=>U2 w λd S=>ob (GV.asB S) λaq=>jn (bC aq (bn .eql 3 d (i 33) λo=>
 ob (GV.asB o) λar=>jn (bC ar (bn .eql 3 d (i 34) λaB=>
 oN [d,aB] f) (oN [d,o] f)) λx e=>U2 x λb T=>ob (GV.asB T) λau=>jn (bC au (bn .eql 3 b (i 30) λp=>
 ob (GV.asB p) λav=>jn (bC av (bn .eql 3 b (i 31) λq=>
 ob (GV.asB q) λaw=>jn (bC aw (bn .eql 3 b (i 32) λaC=>
 oN [b,aC] e) (oN [b,q] e)) λy ad=>U2 y λU V=>oN [U,V] ad) (oN [b,p] e)) λz g=>U2 z λh W=>ob (GV.asB W) λax=>jn (bC ax (bn .eql 3 h (i 18) λr=>
 ob (GV.asB r) λay=>jn (bC ay (bn .eql 3 h (i 19) λaD=>
 oN [aD] g) (oN [r] g)) λA j=>U1 A λX=>ob (GV.asB X) λaz=>jn (bC az (oN [] j) (oR [(i 6)] j)) λB ae=>U0 B (oN [] ae)) (oR [(i 5)] g)) λC af=>U0 C (oN [] af)) (oR [(i 4)] e)) λD ag=>U0 D (oN [] ag)) (oR [(i 3)] f)) λE ah=>U0 E (oN [] ah)) (oR [(i 2)] H)) λF ai=>U0 F (oN [] ai)) (oR [(i 1)] H)) λG aj=>U0 G (oN [] aj)) (oR [(i 0)] H)) λI ak=>U0 I (oN [] ak))) λJ al=>U0 J (oR [(i 7)] al)
def alH (c:CH) (h:QH) (e:V6 GV) (H:GH):RS:=U2 e λf g=>
 bd 228 [(0,f),(1,g)] λb=>
 fN (uM y 189 1 [(0,b)] H) λd a=>
 oR [d] a
def alI (c:CH) (D:QH) (C:V6 GV) (H:GH):RS:=U1 C λh=>
 jn (nB 0 (bn .lss 3 h (i 1) λu=>
 fN (rG u false H (some (h,H))) λz v=>
 fN (rG u false v (ob (Be y .gtr 3 z (i 43)) λw=>some (w,v))) λA a=>
 ob (pG u (.bool true) A) λB=>
 ob (GV.asB B) λx=>jn (bC x (bn .leq 3 h (i 17) λr=>
 ob (GV.asB r) λo=>jn (bC o (bn .leq 3 h (i 29) λs=>
 ob (GV.asB s) λp=>jn (bC p (bn .leq 3 h (i 42) λt=>
 ob (GV.asB t) λq=>jn (bC q (oN [] a) (oR [(i 2)] a)) λb j=>U0 b (oN [] j)) (oR [(i 1)] a)) λd k=>U0 d (oN [] k)) (oR [(i 0)] a)) λe l=>U0 e (oN [] l)) (oR [(.int .i64 (.negSucc 0))] a)) λf m=>U0 f (oN [] m))) λg n=>U0 g (oR [(i 3)] n)
def alJ (c:CH) (q:QH) (u:V6 GV) (H:GH):RS:=U2 u λm v=>
 K c 217 [m,(i 0)] H λr n=>
 ln 189 m λs=>
 bn .neq 3 r s λt=>
 ob (GV.asB t) λp=>jn (bC p (oN [m,v] n) (oR [(i 0),(.bool false)] n)) λl o=>U2 l λa e=>ln 189 a λg=>
 bn .sub 3 g (i 1) λh=>
 jn (nB 0 (q 53 [a,e,.snil,h] o)) λd b=>U1 d λf=>ix 22 f (i 0) λj=>
 ld 3 j b λk=>
 oR [k,(.bool true)] b
def L53 (c:CH) (ql:QH) (us:V6 GV) (H:GH):RS:=U4 us λt u e f=>jn (bn .geq 3 f (i 0) λL=>
 ob (GV.asB L) λJ=>jn (bC J (oX 0 [e] H) (oN [t,u,e,f] H)) λq m=>U4 q λg v a h=>jn (nB 1 (ln 22 a λM=>
 ix 189 g h λN=>
 fd 228 0 N λO=>
 ld 3 O m λP=>
 K c 246 [P] m λQ n=>
 bn .sub 3 M Q λo=>
 ob (DD y 22 a (some o) none n) λp=>
 ln 22 p λR=>
 jn (nB 2 (ql 54 [g,v,a,h,o,(i 0),p,R,(i 0)] n)) λr b=>U6 r λj k w l x z=>ob (DD y 22 w none (some x) b) λS=>
 ix 189 j l λT=>
 fd 228 0 T λU=>
 ld 3 U b λV=>
 ob (GV.asF k) λd=>fN (c d.1 (d.2.1++[V,z]++d.2.2) b) λW E=>
 fN (uM y 22 1 [(0,W)] E) λX F=>
 fN (Wo y 22 22 S X F) λY G=>
 oN [j,k,Y,l] G)) λs I=>U4 s λA B C D=>bn .sub 3 D (i 1) λaa=>
 oN [A,B,C,aa] I) (ql 53)
def L54 (c:CH) (O:QH) (P:V6 GV) (H:GH):RS:=U9 P λd e f g h j s k l=>jn (bn .lss 3 l k λK=>
 ob (GV.asB K) λJ=>jn (bC J (oX 2 [d,e,f,g,h,j] H) (oN [d,e,f,g,h,j,s,k,l] H)) λq o=>U9 q λt u v w x y m z n=>jn (nB 3 (ix 22 m n λL=>
 ld 3 L o λM=>
 ob (Wu y M) λN=>
 oN [t,u,v,w,x,N,m,z,n] o)) λr I=>U9 r λA B C D E F G a b=>bn .add 3 b (i 1) λp=>
 oN [A,B,C,D,E,F,G,a,p] I) (O 54)
def alK (c:CH) (e:QH) (b:V6 GV) (H:GH):RS:=U2 b λf d=>
 bn .add 3 d (i 1) λa=>
 oR [a] H
def alL (c:CH) (m:QH) (k:V6 GV) (H:GH):RS:=U2 k λl d=>
 K c 250 [l] H λh b=>
 ob (GV.asB h) λg=>jn (bC g (oN [d] b) (bn .add 3 d (i 1) λj=>
 oR [j] b)) λa f=>U1 a λe=>oR [e] f
def alM (c:CH) (l:QH) (k:V6 GV) (H:GH):RS:=U1 k λd=>
 bn .geq 3 d (i 20) λa=>
 fN (rG a true H (some (d,H))) λg b=>
 fN (rG a true b (ob (Be y .leq 3 g (i 29)) λe=>some (e,b))) λh f=>
 ob (pG a h (.bool false)) λj=>
 oR [j] f
def alN (c:CH) (l:QH) (k:V6 GV) (H:GH):RS:=U1 k λd=>
 bn .geq 3 d (i 11) λa=>
 fN (rG a true H (some (d,H))) λg b=>
 fN (rG a true b (ob (Be y .leq 3 g (i 17)) λe=>some (e,b))) λh f=>
 ob (pG a h (.bool false)) λj=>
 oR [j] f
def alO (c:CH) (ql:QH) (us:V6 GV) (H:GH):RS:=U2 us λx1 x2=>
 fN (Gh x1 H) λD h4=>
 fN (Gh x2 h4) λr m=>
 fd 228 0 r λt7=>
 ld 3 t7 m λe=>
 jn (nB 0 (bn .eql 3 e (i 2) λt9=>
 ob (GV.asB t9) λae=>jn (bC ae (bn .eql 3 e (i 3) λn=>
 ob (GV.asB n) λaf=>jn (bC af (bn .eql 3 e (i 10) λo=>
 ob (GV.asB o) λag=>jn (bC ag (bn .eql 3 e (i 15) λan=>
 oN [D,r,e,an] m) (oN [D,r,e,o] m)) λt W=>U4 t λE F G I=>oN [E,F,G,I] W) (oN [D,r,e,n] m)) λu X=>U4 u λJ K L M=>oN [J,K,L,M] X) (oN [D,r,e,t9] m)) λv d=>U4 v λf g a N=>ob (GV.asB N) λah=>jn (bC ah (bn .eql 3 a (i 4) λp=>
 ob (GV.asB p) λai=>jn (bC ai (bn .eql 3 a (i 11) λq=>
 ob (GV.asB q) λaj=>jn (bC aj (bn .eql 3 a (i 17) λao=>
 oN [f,g,a,ao] d) (oN [f,g,a,q] d)) λw Y=>U4 w λO P Q R=>oN [O,P,Q,R] Y) (oN [f,g,a,p] d)) λx h=>U4 x λj k l S=>ob (GV.asB S) λak=>jn (bC ak (bn .eql 3 l (i 5) λs=>
 ob (GV.asB s) λal=>jn (bC al (bn .eql 3 l (i 12) λap=>
 oN [j,k,ap] h) (oN [j,k,s] h)) λy b=>U3 y λT U V=>ob (GV.asB V) λam=>jn (bC am (oN [] b) (fd 248 1 T λaq=>
 ld 22 aq b λar=>
 fd 228 1 U λau=>
 ld 3 au b λav=>
 ix 22 ar av λaw=>
 ld 3 aw b λax=>
 oR [ax] b)) λz aa=>U0 z (oN [] aa)) (oR [(i 3)] h)) λA ab=>U0 A (oN [] ab)) (oR [(i 2)] d)) λB ac=>U0 B (oN [] ac))) λC ad=>U0 C (oR [(i 1)] ad)
def alP (c:CH) (ql:QH) (us:V6 GV) (H:GH):RS:=U2 us λp x2=>
 fN (Gh x2 H) λt3 D=>
 ix 260 t3 (i 0) λt5=>
 ld 3 t5 D λt6=>
 ix 260 t3 (i 1) λt7=>
 ld 3 t7 D λt8=>
 ix 260 t3 (i 2) λt9=>
 ld 3 t9 D λj=>
 jn (nB 0 (bn .eql 3 p (i 18) λcj=>
 ob (GV.asB cj) λdF=>jn (bC dF (bn .eql 3 p (i 24) λcl=>
 ob (GV.asB cl) λdG=>jn (bC dG (bn .eql 3 p (i 25) λcq=>
 ob (GV.asB cq) λdH=>jn (bC dH (bn .eql 3 p (i 26) λcw=>
 ob (GV.asB cw) λdI=>jn (bC dI (bn .eql 3 p (i 27) λcy=>
 ob (GV.asB cy) λdJ=>jn (bC dJ (bn .eql 3 p (i 28) λcD=>
 ob (GV.asB cD) λdK=>jn (bC dK (bn .eql 3 p (i 29) λdR=>
 oN [t6,t8,j,p,dR] D) (oN [t6,t8,j,p,cD] D)) λcQ dw=>U5 cQ λcY c0 c1 c2 c3=>oN [cY,c0,c1,c2,c3] dw) (oN [t6,t8,j,p,cy] D)) λcR dx=>U5 cR λc4 c5 c6 c7 c8=>oN [c4,c5,c6,c7,c8] dx) (oN [t6,t8,j,p,cw] D)) λcS dy=>U5 cS λc9 da db dc dd=>oN [c9,da,db,dc,dd] dy) (oN [t6,t8,j,p,cq] D)) λcT dz=>U5 cT λde df dg dh di=>oN [de,df,dg,dh,di] dz) (oN [t6,t8,j,p,cl] D)) λcU dA=>U5 cU λdj dk dl dm dn=>oN [dj,dk,dl,dm,dn] dA) (oN [t6,t8,j,p,cj] D)) λcV F=>U5 cV λE af ag q dp=>ob (GV.asB dp) λdL=>jn (bC dL (bn .eql 3 q (i 19) λcO=>
 ob (GV.asB cO) λdM=>jn (bC dM (bn .eql 3 q (i 20) λcP=>
 ob (GV.asB cP) λdN=>jn (bC dN (bn .eql 3 q (i 21) λdU=>
 oN [E,af,ag,q,dU] F) (oN [E,af,ag,q,cP] F)) λcW dC=>U5 cW λdq dr ds dt du=>oN [dq,dr,ds,dt,du] dC) (oN [E,af,ag,q,cO] F)) λcX h=>U5 cX λg v w b dv=>ob (GV.asB dv) λdO=>jn (bC dO (bn .eql 3 b (i 22) λdX=>
 ob (GV.asB dX) λdP=>jn (bC dP (bn .eql 3 b (i 23) λd1=>
 ob (GV.asB d1) λdQ=>jn (bC dQ (bn .eql 3 b (i 30) λV=>
 ob (GV.asB V) λb4=>jn (bC b4 (bn .eql 3 b (i 31) λW=>
 ob (GV.asB W) λb5=>jn (bC b5 (bn .eql 3 b (i 32) λX=>
 ob (GV.asB X) λb6=>jn (bC b6 (bn .eql 3 b (i 33) λY=>
 ob (GV.asB Y) λb7=>jn (bC b7 (bn .eql 3 b (i 34) λck=>
 oN [g,v,w,b,ck] h) (oN [g,v,w,b,Y] h)) λah bG=>U5 ah λaB aC aD aE aF=>oN [aB,aC,aD,aE,aF] bG) (oN [g,v,w,b,X] h)) λai bH=>U5 ai λaG aH aI aJ aK=>oN [aG,aH,aI,aJ,aK] bH) (oN [g,v,w,b,W] h)) λaj bI=>U5 aj λaL aM aN aO aP=>oN [aL,aM,aN,aO,aP] bI) (oN [g,v,w,b,V] h)) λak m=>U5 ak λr s G k aQ=>ob (GV.asB aQ) λb8=>jn (bC b8 (bn .eql 3 k (i 35) λaa=>
 ob (GV.asB aa) λb9=>jn (bC b9 (bn .eql 3 k (i 36) λcr=>
 oN [r,s,G,k,cr] m) (oN [r,s,G,k,aa] m)) λal e=>U5 al λd f l a aR=>ob (GV.asB aR) λca=>jn (bC ca (bn .eql 3 a (i 37) λab=>
 ob (GV.asB ab) λcb=>jn (bC cb (bn .eql 3 a (i 38) λac=>
 ob (GV.asB ac) λcc=>jn (bC cc (bn .eql 3 a (i 39) λad=>
 ob (GV.asB ad) λcd=>jn (bC cd (bn .eql 3 a (i 40) λcx=>
 oN [d,f,l,a,cx] e) (oN [d,f,l,a,ad] e)) λam bN=>U5 am λaS aT aU aV aW=>oN [aS,aT,aU,aV,aW] bN) (oN [d,f,l,a,ac] e)) λan bO=>U5 an λaX aY a0 a1 a2=>oN [aX,aY,a0,a1,a2] bO) (oN [d,f,l,a,ab] e)) λao n=>U5 ao λt u I J a3=>ob (GV.asB a3) λce=>jn (bC ce (bn .eql 3 J (i 41) λae=>
 ob (GV.asB ae) λcf=>jn (bC cf (bn .eql 3 J (i 42) λcE=>
 oN [t,u,I,cE] n) (oN [t,u,I,ae] n)) λap x=>U4 ap λL M a4 a5=>ob (GV.asB a5) λcg=>jn (bC cg (oN [L,M,a4] x) (bn .eql 3 L (i 2) λC=>
 fN (rG C true x (some (M,x))) λcF R=>
 fN (rG C true R (ob (Be y .eql 3 cF (i 2)) λbD=>some (bD,R))) λcG bR=>
 ob (pG C cG (.bool false)) λcH=>
 K c 269 [cH,(i 2)] bR λcI bS=>
 oR [cI] bS)) λaq bT=>U3 aq λa6 a7 a8=>oN [a6,a7,a8] bT) (bn .eql 3 t (i 1) λB=>
 fN (rG B true n (some (u,n))) λcz Q=>
 fN (rG B true Q (ob (Be y .eql 3 cz (i 1)) λbB=>some (bB,Q))) λcA bP=>
 ob (pG B cA (.bool false)) λcB=>
 K c 269 [cB,(i 2)] bP λcC bQ=>
 oR [cC] bQ)) λar bU=>U3 ar λa9 ba bb=>oN [a9,ba,bb] bU) (bn .eql 3 d f λA=>
 fN (rG A true e (some (d,e))) λcs P=>
 fN (rG A true P (ob (Be y .neq 3 cs (i 0)) λbA=>some (bA,P))) λct bL=>
 ob (pG A ct (.bool false)) λcu=>
 K c 269 [cu,(i 2)] bL λcv bM=>
 oR [cv] bM)) λau bV=>U3 au λbc bd be=>oN [bc,bd,be] bV) (bn .eql 3 r (i 1) λz=>
 fN (rG z true m (some (s,m))) λcm O=>
 fN (rG z true O (ob (Be y .eql 3 cm (i 1)) λbz=>some (bz,O))) λcn bJ=>
 ob (pG z cn (.bool false)) λco=>
 K c 269 [co,(i 1)] bJ λcp bK=>
 oR [cp] bK)) λav bW=>U3 av λbf bg bh=>oN [bf,bg,bh] bW) (bn .eql 3 g (i 2) λch=>
 K c 269 [ch,(i 3)] h λci bF=>
 oR [ci] bF)) λaw bX=>U3 aw λbi bj bk=>oN [bi,bj,bk] bX) (bn .eql 3 g (i 2) λdY=>
 K c 269 [dY,(i 1)] h λd0 dE=>
 oR [d0] dE)) λax bY=>U3 ax λbl bm bo=>oN [bl,bm,bo] bY) (bn .eql 3 g (i 2) λdV=>
 K c 269 [dV,(i 2)] h λdW dD=>
 oR [dW] dD)) λay b0=>U3 ay λbp bq br=>oN [bp,bq,br] b0) (bn .eql 3 E (i 1) λdS=>
 K c 269 [dS,(i 1)] F λdT dB=>
 oR [dT] dB)) λaz b1=>U3 az λbs bt bu=>oN [bs,bt,bu] b1)) λaA S=>U3 aA λbw N bx=>bn .eql 3 bw (i 2) λo=>
 fN (rG o true S (some (N,S))) λcJ T=>
 fN (rG o true T (some (bx,T))) λcK U=>
 fN (rG o true U (ob (Be y .eql 3 cJ cK) λbE=>some (bE,U))) λcL b2=>
 ob (pG o cL (.bool false)) λcM=>
 K c 269 [cM,N] b2 λcN b3=>
 oR [cN] b3
def alQ (c:CH) (g:QH) (e:V6 GV) (H:GH):RS:=U1 e λf=>
 ob (GV.asB f) λd=>jn (bC d (oN [] H) (oR [(i 1)] H)) λa b=>U0 a (oR [(i 0)] b)
def aiT:LX:=[(13,55),(24,56)]
def alR (c:CH) (f:QH) (d:V6 GV) (H:GH):RS:=U1 d λe=>
 ob (adu e (i 1073741824)) λa=>
 ob (Wu (.int .i64 (.negSucc 1073741823)) a) λb=>
 oR [b] H
def alS (c:CH) (ql:QH) (us:V6 GV) (H:GH):RS:=U1 us λs=>
 K c 188 [s] H λt2 h3=>
 K c 189 [s] h3 λt4 h5=>
 bn .eql 3 t4 (i 2) λt6=>
 ob (GV.asB t6) λq7=>jn (bC q7 (oN [s,t2] h5) (K c 191 [s] h5 λt8 h9=>
 pt 176 3 t8 λX=>
 K c 245 [(i 1),X] h9 λY x=>
 oR [Y] x)) λn z=>U2 n λb t=>K c 187 [b,(.str 40 1)] z λaa g=>
 ob (GV.asB aa) λT=>jn (bC T (oN [b,t] g) (K c 194 [b] g λab A=>
 K c 149 [b,(.str 41 1)] A λam B=>
 oR [ab] B)) λo C=>U2 o λd u=>K c 187 [d,(.str 113 1)] C λac h=>
 ob (GV.asB ac) λU=>jn (bC U (oN [d,u] h) (K c 285 [d] h λad D=>
 oR [ad] D)) λp E=>U2 p λe f=>K c 286 [f] E λl j=>
 bn .neq 3 l (i 0) λae=>
 ob (GV.asB ae) λV=>jn (bC V (oN [e,f] j) (K c 191 [e] j λan F=>
 K c 245 [l,(i 0)] F λaf G=>
 oR [af] G)) λq I=>U2 q λa v=>K c 287 [v] I λm k=>
 bn .neq 3 m (i 0) λag=>
 ob (GV.asB ag) λW=>jn (bC W (oN [a] k) (K c 191 [a] k λao J=>
 K c 149 [a,(.str 40 1)] J λap L=>
 K c 194 [a] L λah M=>
 K c 149 [a,(.str 41 1)] M λaq N=>
 fN (uM y 256 1 [(0,ah)] N) λai O=>
 K c 215 [m,ai] O λaj P=>
 oR [aj] P)) λr Q=>U1 r λw=>K c 195 [w] Q λak R=>
 K c 245 [(i 5),ak] R λal S=>
 oR [al] S
def alT (c:CH) (m:QH) (o:V6 GV) (H:GH):RS:=U3 o λg p q=>
 bn .eql 9 g (.str 0 0) λn=>
 ob (GV.asB n) λl=>jn (bC l (oN [g,p,q] H) (oR [(i 0)] H)) λf k=>U3 f λh j a=>ln 128 a λe=>
 jn (nB 0 (m 57 [h,j,a,e,(i 0)] k)) λb d=>U0 b (oR [(i 0)] d)
def L57 (c:CH) (L:QH) (M:V6 GV) (H:GH):RS:=U5 M λm n o d e=>jn (bn .lss 3 e d λE=>
 ob (GV.asB E) λC=>jn (bC C (oX 0 [] H) (oN [m,n,o,d,e] H)) λj b=>U5 j λf g h p a=>jn (nB 1 (ix 128 h a λF=>
 ld 9 F b λG=>
 bn .eql 9 G f λI=>
 ob (GV.asB I) λD=>jn (bC D (oN [f,g,h,p,a] b) (bn .add 3 g a λJ=>
 oR [J] b)) λk A=>U5 k λq r s t u=>oN [q,r,s,t,u] A)) λl B=>U5 l λv w x y z=>bn .add 3 z (i 1) λK=>
 oN [v,w,x,y,K] B) (L 57)
def alU (c:CH) (e:QH) (d:V6 GV) (H:GH):RS:=U0 d (fN (uM y 128 13 [(0,(.str 42 1)),(1,(.str 47 1)),(2,(.str 37 1)),(3,(.str 43 1)),(4,(.str 45 1)),(5,(.str 15677 2)),(6,(.str 15649 2)),(7,(.str 60 1)),(8,(.str 15676 2)),(9,(.str 62 1)),(10,(.str 15678 2)),(11,(.str 9766 2)),(12,(.str 31868 2))] H) λb a=>
 oR [b] a)
def alV (c:CH) (h:QH) (e:V6 GV) (H:GH):RS:=U2 e λf g=>
 ob (GV.asB f) λd=>jn (bC d (oN [] H) (oR [g] H)) λa b=>U0 a (oR [(i 0)] b)
def alW (c:CH) (f:QH) (h:V6 GV) (H:GH):RS:=U1 h λb=>
 ln 22 b λg=>
 jn (nB 0 (f 58 [(i 0),b,g,(i 0)] H)) λa e=>U1 a λd=>oR [d] e
def L58 (c:CH) (G:QH) (I:V6 GV) (H:GH):RS:=U4 I λC F D E=>jn (bn .lss 3 E D λw=>
 ob (GV.asB w) λu=>jn (bC u (oX 0 [C] H) (oN [C,F,D,E] H)) λg d=>U4 g λe a f b=>jn (nB 1 (ix 22 a b λx=>
 ld 3 x d λy=>
 bn .neq 3 y (i 0) λz=>
 ob (GV.asB z) λv=>jn (bC v (oN [e,a,f,b] d) (bn .add 3 e (i 1) λA=>
 oN [A,a,f,b] d)) λh s=>U4 h λk l m n=>oN [k,l,m,n] s)) λj t=>U4 j λo p q r=>bn .add 3 r (i 1) λB=>
 oN [o,p,q,B] t) (G 58)
def alX (c:CH) (e:QH) (g:V6 GV) (H:GH):RS:=U2 g λb h=>
 ln 22 b λf=>
 jn (nB 0 (e 59 [b,h,f,(i 0)] H)) λa d=>U0 a (oR [(.int .i64 (.negSucc 0))] d)
def L59 (c:CH) (I:QH) (J:V6 GV) (H:GH):RS:=U4 J λF G D E=>jn (bn .lss 3 E D λy=>
 ob (GV.asB y) λw=>jn (bC w (oX 0 [] H) (oN [F,G,D,E] H)) λh f=>U4 h λd e l a=>jn (nB 1 (ix 22 d a λz=>
 ld 3 z f λA=>
 ob (GV.asF e) λb=>fN (c b.1 (b.2.1++[A]++b.2.2) f) λB g=>
 ob (GV.asB B) λx=>jn (bC x (oN [d,e,l,a] g) (oR [a] g)) λj u=>U4 j λm n o p=>oN [m,n,o,p] u)) λk v=>U4 k λq r s t=>bn .add 3 t (i 1) λC=>
 oN [q,r,s,C] v) (I 59)
def alY (c:CH) (e:QH) (b:V6 GV) (H:GH):RS:=U1 b λd=>
 bn .neq 3 d (i 0) λa=>
 oR [a] H
def alZ (c:CH) (g:QH) (j:V6 GV) (H:GH):RS:=U1 j λb=>
 ln 22 b λh=>
 jn (nB 0 (g 60 [(.int .i64 (.negSucc 1073741823)),(.int .i64 (.negSucc 1073741823)),b,h,(i 0)] H)) λa f=>U2 a λd e=>oR [d,e] f
def L60 (c:CH) (L:QH) (M:V6 GV) (H:GH):RS:=U5 M λI J K g h=>jn (bn .lss 3 h g λC=>
 ob (GV.asB C) λA=>jn (bC A (oX 0 [I,J] H) (oN [I,J,K,g,h] H)) λk e=>U5 k λa n b j d=>jn (nB 1 (ix 22 b d λD=>
 ld 3 D e λf=>
 bn .gtr 3 f a λE=>
 ob (GV.asB E) λB=>jn (bC B (ob (Wu n f) λF=>
 oN [a,F,b,j,d] e) (oN [f,a,b,j,d] e)) λl y=>U5 l λo p q r s=>oN [o,p,q,r,s] y)) λm z=>U5 m λt u v w x=>bn .add 3 x (i 1) λG=>
 oN [t,u,v,w,G] z) (L 60)
def al_ (c:CH) (e:QH) (f:V6 GV) (H:GH):RS:=U1 f λg=>
 jn (nB 0 (e 61 [g,(i 0)] H)) λa d=>U1 a λb=>oR [b] d
def L61 (c:CH) (p:QH) (r:V6 GV) (H:GH):RS:=U2 r λm h=>jn (K c 290 [m,h] H λq n=>
 ob (GV.asB q) λo=>jn (bC o (oX 0 [h] n) (oN [m,h] n)) λa j=>U2 a λd e=>jn (nB 1 (bn .add 3 e (i 1) λl=>
 oN [d,l] j)) λb k=>U2 b λf g=>oN [f,g] k) (p 61)
def ama (c:CH) (h:QH) (f:V6 GV) (H:GH):RS:=U1 f λg=>
 K c 292 [] H λd a=>
 K c 267 [g,(i 2),d] a λe b=>
 oR [e] b
def amb (c:CH) (h:QH) (f:V6 GV) (H:GH):RS:=U1 f λg=>
 K c 293 [] H λd a=>
 K c 267 [g,(i 20),d] a λe b=>
 oR [e] b
def amc (c:CH) (h:QH) (e:V6 GV) (H:GH):RS:=U2 e λf g=>
 K c 178 [f,g] H λb a=>
 bn .geq 3 b (i 0) λd=>
 oR [d] a
def amd (c:CH) (h:QH) (f:V6 GV) (H:GH):RS:=U1 f λg=>
 K c 294 [] H λd a=>
 K c 267 [g,(i 13),d] a λe b=>
 oR [e] b
def ame (c:CH) (e:QH) (d:V6 GV) (H:GH):RS:=U0 d (fN (uM y 128 5 [(0,(.str 25705 2)),(1,(.str 6776164 3)),(2,(.str 1953460082 4)),(3,(.str 127991760381303 6)),(4,(.str 1801675106 4))] H) λb a=>
 oR [b] a)
def d0:(Code×Cx)×iI:=gD1 (dR f18 [1,1,1,1,1,0,1,0,0],kM f18 [(0,0)]) 1 0 1
def d1:(Code×Cx)×iI:=gD (dR f18 [1,1,1,1,1,0,1,0,0,1,1,0,0,1,1,1,0,0],kM f18 [(2,15762598695797892),(1,15762598695797892),(0,0)]) 1
def d2:(Code×Cx)×iI:=gD1 (dR f22 [1,1,0,1,0,0],kM f22 [(0,56)]) 1 2 3
def d3:(Code×Cx)×iI:=gD (dR f22 [1,1,0,1,0,0,1,1,0,0,1,1,1,0,0],kM f22 [(2,1835064),(1,1835064),(0,56)]) 3
def d4:(Code×Cx)×iI:=gD (dR f26 [1,1,1,1,0,1,0,0],kM f26 [(0,9216)]) 4
def d5:(Code×Cx)×iI:=gD1 (dR f36 [1,1,1,1,0,1,0,0],kM f36 [(0,1088)]) 1 5 6
def d6:(Code×Cx)×iI:=gD (dR f36 [1,1,1,1,0,1,0,0,1,1,0,0,1,1,1,1,0,0],kM f36 [(2,120259085380),(1,120259085380),(0,1088)]) 6
def d7:(Code×Cx)×iI:=((dR f48 [1,1,0,1,0,0],kM f48 [(0,32)]),L7)
def d8:(Code×Cx)×iI:=((dR f48 [1,1,0,1,0,0,1,1,0,0,1,1,1,0,0],kM f48 [(2,49196),(1,49196),(0,32)]),L8)
def d9:(Code×Cx)×iI:=gD (dR f50 [1,1,0,1,0,0],kM f50 [(0,0)]) 9
def d10:(Code×Cx)×iI:=gD (dR f57 [1,1,0,1,0,0],kM f57 [(0,8)]) 10
def d11:(Code×Cx)×iI:=gD (dR f61 [1,1,0,1,0,0],kM f61 [(0,0)]) 11
def d12:(Code×Cx)×iI:=((dR f76 [1,1,0,1,0,0],kM f76 [(0,8)]),L12)
def d13:(Code×Cx)×iI:=((dR f93 [1,1,1,0,1,0,0],kM f93 [(0,32)]),L13)
def d14:(Code×Cx)×iI:=gDs (dR f96 [1,1,1,0,1,0,0],kM f96 [(0,2)]) s96
def d15:(Code×Cx)×iI:=gDs (dR f96 [1,1,1,1,0,1,0,0],kM f96 [(2,2)]) s96
def d16:(Code×Cx)×iI:=gDs (dR f96 [1,1,1,1,1,1,0,1,0,0],kM f96 [(4,0)]) s96
def d17:(Code×Cx)×iI:=((dR f97 [1,1,0,1,0,0],kM f97 [(0,0)]),L17)
def d18:(Code×Cx)×iI:=((dR f98 [1,0,1,0,0],kM f98 [(0,0)]),L18)
def d19:(Code×Cx)×iI:=gD1 (dR f101 [1,1,0,1,0,0],kM f101 [(0,12)]) 1 19 20
def d20:(Code×Cx)×iI:=gD (dR f101 [1,1,0,1,0,0,1,1,0,0,1,1,1,0,1,0,0],kM f101 [(2,49198),(1,49166),(0,12)]) 20
def d21:(Code×Cx)×iI:=gD (dR f102 [1,0,1,0,0],kM f102 [(0,0)]) 21
def d22:(Code×Cx)×iI:=gD (dR f103 [1,1,0,1,0,0],kM f103 [(0,32)]) 22
def d23:(Code×Cx)×iI:=gD (dR f107 [1,1,1,0,1,0,0],kM f107 [(0,0)]) 23
def d24:(Code×Cx)×iI:=gD (dR f110 [1,0,1,0,0],kM f110 [(0,0)]) 24
def d25:(Code×Cx)×iI:=gD (dR f119 [1,1,0,1,0,0],kM f119 [(0,0)]) 25
def d26:(Code×Cx)×iI:=gD1 (dR f120 [1,1,0,1,0,0],kM f120 [(0,32)]) 1 26 27
def d27:(Code×Cx)×iI:=gD (dR f120 [1,1,0,1,0,0,1,1,0,0,1,1,1,0,0],kM f120 [(2,3670056),(1,3670056),(0,32)]) 27
def d28:(Code×Cx)×iI:=gD (dR f123 [1,1,0,1,0,0],kM f123 [(0,512)]) 28
def d29:(Code×Cx)×iI:=gD (dR f128 [1,1,1,0,1,0,0],kM f128 [(0,8)]) 29
def d30:(Code×Cx)×iI:=((dR f145 [1,0,0,0],kM f145 [(0,2)]),L30)
def d31:(Code×Cx)×iI:=((dR f145 [1,0,0,0,1,0,1,0,1,1,1,0,0,0],kM f145 [(3,3),(2,3),(1,3),(0,2)]),L31)
def d32:(Code×Cx)×iI:=gD (dR f150 [1,1,1,0,1,0,0],kM f150 [(0,33)]) 32
def d33:(Code×Cx)×iI:=((dR f151 [1,0,0],kM f151 [(0,0)]),L33)
def d34:(Code×Cx)×iI:=gD (dR f153 [1,1,1,1,1,0,0,0],kM f153 [(0,5)]) 34
def d35:(Code×Cx)×iI:=gDs (dR f156 [1,1,1,0,1,0,0],kM f156 [(0,2)]) aiS
def d36:(Code×Cx)×iI:=gDs (dR f156 [1,1,1,1,1,0,1,0,0],kM f156 [(2,0)]) aiS
def d37:(Code×Cx)×iI:=gD (dR f158 [1,1,1,0,1,0,0],kM f158 [(0,0)]) 37
def d38:(Code×Cx)×iI:=gD (dR f159 [1,1,0,1,0,0],kM f159 [(0,8)]) 38
def d39:(Code×Cx)×iI:=((dR f160 [1,1,0,1,0,0],kM f160 [(0,0)]),L39)
def d40:(Code×Cx)×iI:=((dR f178 [1,0,1,0,0],kM f178 [(0,0)]),L40)
def d41:(Code×Cx)×iI:=((dR f181 [1,1,0,0,0],kM f181 [(0,32)]),L41)
def d42:(Code×Cx)×iI:=gD (dR f185 [1,1,1,0,1,0,0],kM f185 [(0,16)]) 42
def d43:(Code×Cx)×iI:=((dR f186 [1,0,1,0,0],kM f186 [(0,1)]),L43)
def d44:(Code×Cx)×iI:=((dR f190 [1,1,0,1,0,0],kM f190 [(0,1)]),L44)
def d45:(Code×Cx)×iI:=((dR f198 [1,1,0,1,0,0],kM f198 [(0,1)]),L45)
def d46:(Code×Cx)×iI:=((dR f199 [1,1,0,1,0,0],kM f199 [(0,7)]),L46)
def d47:(Code×Cx)×iI:=((dR f214 [1,1,1,0,0],kM f214 [(0,16)]),L47)
def d48:(Code×Cx)×iI:=((dR f215 [1,1,0,1,0,0],kM f215 [(0,32)]),L48)
def d49:(Code×Cx)×iI:=((dR f216 [1,0,1,0,0],kM f216 [(0,0)]),L49)
def d50:(Code×Cx)×iI:=((dR f217 [1,1,0,1,0,0],kM f217 [(0,0)]),L50)
def d51:(Code×Cx)×iI:=((dR f221 [1,1,1,1,1,1,0,1,0,0],kM f221 [(0,1408)]),L51)
def d52:(Code×Cx)×iI:=gD (dR f237 [1,1,1,0,1,0,0],kM f237 [(0,903)]) 52
def d53:(Code×Cx)×iI:=((dR f247 [1,1,1,0,1,0,0],kM f247 [(0,64)]),L53)
def d54:(Code×Cx)×iI:=((dR f247 [1,1,1,0,1,0,0,1,0,0,1,1,0,1,0,0],kM f247 [(2,963),(1,195),(0,64)]),L54)
def d55:(Code×Cx)×iI:=gDs (dR f261 [1,0,1,0,1,1,1,1,1,1,1,1,1,0,1,0,1,0,0],kM f261 [(1,32),(0,2)]) aiT
def d56:(Code×Cx)×iI:=gDs (dR f261 [1,0,1,0,1,1,1,1,1,1,1,1,1,1,1,1,1,0,1,0,1,0,0],kM f261 [(3,1024),(0,2)]) aiT
def d57:(Code×Cx)×iI:=((dR f267 [1,1,0,1,0,0],kM f267 [(0,0)]),L57)
def d58:(Code×Cx)×iI:=((dR f280 [1,1,0,1,0,0],kM f280 [(0,8)]),L58)
def d59:(Code×Cx)×iI:=((dR f281 [1,0,1,0,0],kM f281 [(0,0)]),L59)
def d60:(Code×Cx)×iI:=((dR f283 [1,1,0,1,0,0],kM f283 [(0,12)]),L60)
def d61:(Code×Cx)×iI:=((dR f284 [1,1,0,0,0],kM f284 [(0,8)]),L61)
def XP (f:Nat):V1 (Func×iI):=(tN f 185 (tN f 108 (tN f 57 (tN f 36 (tN f 18 (tN f 14 (tN f 10 (tL f 9 (f9,(gB f9))) (tL f 10 (f10,(gB f10)))) (tN f 16 (tL f 14 (f14,(gB f14))) (tL f 16 (f16,(gB f16))))) (tN f 22 (tN f 20 (tL f 18 (f18,(OD f18 0))) (tL f 20 (f20,(gB f20)))) (tN f 26 (tL f 22 (f22,(OD f22 2))) (tL f 26 (f26,(OD f26 4)))))) (tN f 49 (tN f 47 (tN f 43 (tL f 36 (f36,(OD f36 5))) (tL f 43 (f43,(gB f43)))) (tN f 48 (tL f 47 (f47,(gB f47))) (tL f 48 (f48,B48)))) (tN f 51 (tN f 50 (tL f 49 (f49,B49)) (tL f 50 (f50,(OD f50 9)))) (tN f 52 (tL f 51 (f51,B51)) (tN f 56 (tL f 52 (f52,B52)) (tL f 56 (f56,(gB f56)))))))) (tN f 93 (tN f 67 (tN f 61 (tN f 60 (tL f 57 (f57,(OD f57 10))) (tL f 60 (f60,B60))) (tN f 66 (tL f 61 (f61,(OD f61 11))) (tL f 66 (f66,(gB f66))))) (tN f 76 (tN f 75 (tL f 67 (f67,(gB f67))) (tL f 75 (f75,(gB f75)))) (tN f 77 (tL f 76 (f76,B76)) (tN f 78 (tL f 77 (f77,(gB f77))) (tL f 78 (f78,(gB f78))))))) (tN f 98 (tN f 96 (tN f 95 (tL f 93 (f93,B93)) (tL f 95 (f95,(gB f95)))) (tN f 97 (tL f 96 (f96,(gBs f96 s96))) (tL f 97 (f97,B97)))) (tN f 102 (tN f 101 (tL f 98 (f98,B98)) (tL f 101 (f101,(OD f101 19)))) (tN f 103 (tL f 102 (f102,(OD f102 21))) (tN f 107 (tL f 103 (f103,(OD f103 22))) (tL f 107 (f107,(OD f107 23))))))))) (tN f 156 (tN f 145 (tN f 119 (tN f 110 (tN f 109 (tL f 108 (f108,(gB f108))) (tL f 109 (f109,(gB f109)))) (tN f 111 (tL f 110 (f110,(OD f110 24))) (tL f 111 (f111,(gB f111))))) (tN f 123 (tN f 120 (tL f 119 (f119,(OD f119 25))) (tL f 120 (f120,(OD f120 26)))) (tN f 128 (tL f 123 (f123,(OD f123 28))) (tL f 128 (f128,(OD f128 29)))))) (tN f 151 (tN f 149 (tN f 146 (tL f 145 (f145,akV)) (tL f 146 (f146,akW))) (tN f 150 (tL f 149 (f149,(gB f149))) (tL f 150 (f150,(OD f150 32))))) (tN f 153 (tN f 152 (tL f 151 (f151,akX)) (tL f 152 (f152,(gB f152)))) (tN f 154 (tL f 153 (f153,(OD f153 34))) (tN f 155 (tL f 154 (f154,akY)) (tL f 155 (f155,(gB f155)))))))) (tN f 166 (tN f 160 (tN f 158 (tN f 157 (tL f 156 (f156,(gBs f156 aiS))) (tL f 157 (f157,(gB f157)))) (tN f 159 (tL f 158 (f158,(OD f158 37))) (tL f 159 (f159,(OD f159 38))))) (tN f 162 (tN f 161 (tL f 160 (f160,akZ)) (tL f 161 (f161,(gB f161)))) (tN f 163 (tL f 162 (f162,ak_)) (tN f 165 (tL f 163 (f163,(gB f163))) (tL f 165 (f165,(gB f165))))))) (tN f 178 (tN f 172 (tN f 168 (tL f 166 (f166,(gB f166))) (tL f 168 (f168,ala))) (tN f 173 (tL f 172 (f172,(gB f172))) (tL f 173 (f173,(gB f173))))) (tN f 182 (tN f 181 (tL f 178 (f178,alb)) (tL f 181 (f181,alc))) (tN f 183 (tL f 182 (f182,ald)) (tN f 184 (tL f 183 (f183,ale)) (tL f 184 (f184,alf))))))))) (tN f 242 (tN f 211 (tN f 193 (tN f 189 (tN f 187 (tN f 186 (tL f 185 (f185,(OD f185 42))) (tL f 186 (f186,alg))) (tN f 188 (tL f 187 (f187,alh)) (tL f 188 (f188,ali)))) (tN f 191 (tN f 190 (tL f 189 (f189,alj)) (tL f 190 (f190,alk))) (tN f 192 (tL f 191 (f191,alm)) (tL f 192 (f192,(gB f192)))))) (tN f 197 (tN f 195 (tN f 194 (tL f 193 (f193,(gB f193))) (tL f 194 (f194,(gB f194)))) (tN f 196 (tL f 195 (f195,(gB f195))) (tL f 196 (f196,aln)))) (tN f 199 (tN f 198 (tL f 197 (f197,alo)) (tL f 198 (f198,alp))) (tN f 209 (tL f 199 (f199,alq)) (tN f 210 (tL f 209 (f209,alr)) (tL f 210 (f210,als))))))) (tN f 220 (tN f 215 (tN f 213 (tN f 212 (tL f 211 (f211,alt)) (tL f 212 (f212,(gB f212)))) (tN f 214 (tL f 213 (f213,(gB f213))) (tL f 214 (f214,alu)))) (tN f 217 (tN f 216 (tL f 215 (f215,alv)) (tL f 216 (f216,alw))) (tN f 218 (tL f 217 (f217,alx)) (tN f 219 (tL f 218 (f218,aly)) (tL f 219 (f219,alz)))))) (tN f 237 (tN f 235 (tN f 221 (tL f 220 (f220,alA)) (tL f 221 (f221,alB))) (tN f 236 (tL f 235 (f235,(gB f235))) (tL f 236 (f236,(gB f236))))) (tN f 239 (tN f 238 (tL f 237 (f237,(OD f237 52))) (tL f 238 (f238,(gB f238)))) (tN f 240 (tL f 239 (f239,alC)) (tN f 241 (tL f 240 (f240,alD)) (tL f 241 (f241,(gB f241))))))))) (tN f 264 (tN f 250 (tN f 246 (tN f 244 (tN f 243 (tL f 242 (f242,alE)) (tL f 243 (f243,alF))) (tN f 245 (tL f 244 (f244,alG)) (tL f 245 (f245,alH)))) (tN f 248 (tN f 247 (tL f 246 (f246,alI)) (tL f 247 (f247,alJ))) (tN f 249 (tL f 248 (f248,alK)) (tL f 249 (f249,alL))))) (tN f 259 (tN f 252 (tN f 251 (tL f 250 (f250,alM)) (tL f 251 (f251,alN))) (tN f 253 (tL f 252 (f252,alO)) (tL f 253 (f253,alP)))) (tN f 261 (tN f 260 (tL f 259 (f259,(gB f259))) (tL f 260 (f260,alQ))) (tN f 262 (tL f 261 (f261,(gBs f261 aiT))) (tN f 263 (tL f 262 (f262,alR)) (tL f 263 (f263,(gB f263)))))))) (tN f 284 (tN f 269 (tN f 267 (tN f 266 (tL f 264 (f264,(gB f264))) (tL f 266 (f266,alS))) (tN f 268 (tL f 267 (f267,alT)) (tL f 268 (f268,alU)))) (tN f 281 (tN f 280 (tL f 269 (f269,alV)) (tL f 280 (f280,alW))) (tN f 282 (tL f 281 (f281,alX)) (tN f 283 (tL f 282 (f282,alY)) (tL f 283 (f283,alZ)))))) (tN f 290 (tN f 286 (tN f 285 (tL f 284 (f284,al_)) (tL f 285 (f285,(gB f285)))) (tN f 287 (tL f 286 (f286,ama)) (tL f 287 (f287,amb)))) (tN f 292 (tN f 291 (tL f 290 (f290,amc)) (tL f 291 (f291,amd))) (tN f 293 (tL f 292 (f292,(gB f292))) (tN f 294 (tL f 293 (f293,(gB f293))) (tL f 294 (f294,ame))))))))))
def agD (f:Nat):V1 ((Code×Cx)×iI):=(tN f 31 (tN f 15 (tN f 7 (tN f 3 (tN f 1 (tL f 0 d0) (tN f 2 (tL f 1 d1) (tL f 2 d2))) (tN f 5 (tN f 4 (tL f 3 d3) (tL f 4 d4)) (tN f 6 (tL f 5 d5) (tL f 6 d6)))) (tN f 11 (tN f 9 (tN f 8 (tL f 7 d7) (tL f 8 d8)) (tN f 10 (tL f 9 d9) (tL f 10 d10))) (tN f 13 (tN f 12 (tL f 11 d11) (tL f 12 d12)) (tN f 14 (tL f 13 d13) (tL f 14 d14))))) (tN f 23 (tN f 19 (tN f 17 (tN f 16 (tL f 15 d15) (tL f 16 d16)) (tN f 18 (tL f 17 d17) (tL f 18 d18))) (tN f 21 (tN f 20 (tL f 19 d19) (tL f 20 d20)) (tN f 22 (tL f 21 d21) (tL f 22 d22)))) (tN f 27 (tN f 25 (tN f 24 (tL f 23 d23) (tL f 24 d24)) (tN f 26 (tL f 25 d25) (tL f 26 d26))) (tN f 29 (tN f 28 (tL f 27 d27) (tL f 28 d28)) (tN f 30 (tL f 29 d29) (tL f 30 d30)))))) (tN f 46 (tN f 38 (tN f 34 (tN f 32 (tL f 31 d31) (tN f 33 (tL f 32 d32) (tL f 33 d33))) (tN f 36 (tN f 35 (tL f 34 d34) (tL f 35 d35)) (tN f 37 (tL f 36 d36) (tL f 37 d37)))) (tN f 42 (tN f 40 (tN f 39 (tL f 38 d38) (tL f 39 d39)) (tN f 41 (tL f 40 d40) (tL f 41 d41))) (tN f 44 (tN f 43 (tL f 42 d42) (tL f 43 d43)) (tN f 45 (tL f 44 d44) (tL f 45 d45))))) (tN f 54 (tN f 50 (tN f 48 (tN f 47 (tL f 46 d46) (tL f 47 d47)) (tN f 49 (tL f 48 d48) (tL f 49 d49))) (tN f 52 (tN f 51 (tL f 50 d50) (tL f 51 d51)) (tN f 53 (tL f 52 d52) (tL f 53 d53)))) (tN f 58 (tN f 56 (tN f 55 (tL f 54 d54) (tL f 55 d55)) (tN f 57 (tL f 56 d56) (tL f 57 d57))) (tN f 60 (tN f 59 (tL f 58 d58) (tL f 59 d59)) (tN f 61 (tL f 60 d60) (tL f 61 d61)))))))
def Ct:Jf:=⟨XP,agD⟩
def FO (f:Nat) (e:Func×iI):Prop:=(∀(c:CH) (a:LH) us H,e.2 c (Ct.loop a) us H=YR tW c a e.1 us H)/\prog.funcs[f]?=some e.1/\aU prog f/\okF y e.1=true
def LO (e:(Code×Cx)×iI):Prop:=∀(c:CH) (a:LH) us H,e.2 c (Ct.loop a) us H=evL tW c a e.1.1 e.1.2 us H
theorem rF {f n:Nat} {x e:Func×iI} (d:prog.funcs[n]?=some x.1) (g:aU prog n) (b:∀(c:CH) (a:LH) us H,x.2 c (Ct.loop a) us H=YR tW c a x.1 us H:=by intro _ _ _ _;kernel_rfl) (h:okF y x.1=true:=by kernel_rfl):tL f n x=some e->FO f e:=rL (show FO n x from⟨b,d,g,h⟩)
theorem Ac {f n:Nat} {x e:(Code×Cx)×iI} (h:LO x:=by intro _ _ _ _;kernel_rfl):tL f n x=some e->LO e:=rL (R:=λ_=>LO) h
theorem PZ {f:Nat} {e:Func×iI}:XP f=some e->FO f e:=(rN (rN (rN (rN (rN (rN (rN (rF func9 call9) (rF func10 call10)) (rN (rF func14 call14) (rF func16 call16))) (rN (rN (rF func18 call18) (rF func20 call20)) (rN (rF func22 call22) (rF func26 call26)))) (rN (rN (rN (rF func36 call36) (rF func43 call43)) (rN (rF func47 call47) (rF func48 call48))) (rN (rN (rF func49 call49) (rF func50 call50)) (rN (rF func51 call51) (rN (rF func52 call52) (rF func56 call56)))))) (rN (rN (rN (rN (rF func57 call57) (rF func60 call60)) (rN (rF func61 call61) (rF func66 call66))) (rN (rN (rF func67 call67) (rF func75 call75)) (rN (rF func76 call76) (rN (rF func77 call77) (rF func78 call78))))) (rN (rN (rN (rF func93 call93) (rF func95 call95)) (rN (rF func96 call96) (rF func97 call97))) (rN (rN (rF func98 call98) (rF func101 call101)) (rN (rF func102 call102) (rN (rF func103 call103) (rF func107 call107))))))) (rN (rN (rN (rN (rN (rF func108 call108) (rF func109 call109)) (rN (rF func110 call110) (rF func111 call111))) (rN (rN (rF func119 call119) (rF func120 call120)) (rN (rF func123 call123) (rF func128 call128)))) (rN (rN (rN (rF func145 call145) (rF func146 call146)) (rN (rF func149 call149) (rF func150 call150))) (rN (rN (rF func151 call151) (rF func152 call152)) (rN (rF func153 call153) (rN (rF func154 call154) (rF func155 call155)))))) (rN (rN (rN (rN (rF func156 call156) (rF func157 call157)) (rN (rF func158 call158) (rF func159 call159))) (rN (rN (rF func160 call160) (rF func161 call161)) (rN (rF func162 call162) (rN (rF func163 call163) (rF func165 call165))))) (rN (rN (rN (rF func166 call166) (rF func168 call168)) (rN (rF func172 call172) (rF func173 call173))) (rN (rN (rF func178 call178) (rF func181 call181)) (rN (rF func182 call182) (rN (rF func183 call183) (rF func184 call184)))))))) (rN (rN (rN (rN (rN (rN (rF func185 call185) (rF func186 call186)) (rN (rF func187 call187) (rF func188 call188))) (rN (rN (rF func189 call189) (rF func190 call190)) (rN (rF func191 call191) (rF func192 call192)))) (rN (rN (rN (rF func193 call193) (rF func194 call194)) (rN (rF func195 call195) (rF func196 call196))) (rN (rN (rF func197 call197) (rF func198 call198)) (rN (rF func199 call199) (rN (rF func209 call209) (rF func210 call210)))))) (rN (rN (rN (rN (rF func211 call211) (rF func212 call212)) (rN (rF func213 call213) (rF func214 call214))) (rN (rN (rF func215 call215) (rF func216 call216)) (rN (rF func217 call217) (rN (rF func218 call218) (rF func219 call219))))) (rN (rN (rN (rF func220 call220) (rF func221 call221)) (rN (rF func235 call235) (rF func236 call236))) (rN (rN (rF func237 call237) (rF func238 call238)) (rN (rF func239 call239) (rN (rF func240 call240) (rF func241 call241))))))) (rN (rN (rN (rN (rN (rF func242 call242) (rF func243 call243)) (rN (rF func244 call244) (rF func245 call245))) (rN (rN (rF func246 call246) (rF func247 call247)) (rN (rF func248 call248) (rF func249 call249)))) (rN (rN (rN (rF func250 call250) (rF func251 call251)) (rN (rF func252 call252) (rF func253 call253))) (rN (rN (rF func259 call259) (rF func260 call260)) (rN (rF func261 call261) (rN (rF func262 call262) (rF func263 call263)))))) (rN (rN (rN (rN (rF func264 call264) (rF func266 call266)) (rN (rF func267 call267) (rF func268 call268))) (rN (rN (rF func269 call269) (rF func280 call280)) (rN (rF func281 call281) (rN (rF func282 call282) (rF func283 call283))))) (rN (rN (rN (rF func284 call284) (rF func285 call285)) (rN (rF func286 call286) (rF func287 call287))) (rN (rN (rF func290 call290) (rF func291 call291)) (rN (rF func292 call292) (rN (rF func293 call293) (rF func294 call294)))))))))
theorem acN {f:Nat} {e:(Code×Cx)×iI}:agD f=some e->LO e:=(rN (rN (rN (rN (rN Ac (rN Ac Ac)) (rN (rN Ac Ac) (rN Ac Ac))) (rN (rN (rN Ac Ac) (rN Ac Ac)) (rN (rN Ac Ac) (rN Ac Ac)))) (rN (rN (rN (rN Ac Ac) (rN Ac Ac)) (rN (rN Ac Ac) (rN Ac Ac))) (rN (rN (rN Ac Ac) (rN Ac Ac)) (rN (rN Ac Ac) (rN Ac Ac))))) (rN (rN (rN (rN Ac (rN Ac Ac)) (rN (rN Ac Ac) (rN Ac Ac))) (rN (rN (rN Ac Ac) (rN Ac Ac)) (rN (rN Ac Ac) (rN Ac Ac)))) (rN (rN (rN (rN Ac Ac) (rN Ac Ac)) (rN (rN Ac Ac) (rN Ac Ac))) (rN (rN (rN Ac Ac) (rN Ac Ac)) (rN (rN Ac Ac) (rN Ac Ac))))))
theorem tD:Nb Ct tW:=⟨λh=>(PZ h).1,acN⟩
theorem acM {f:Nat} {e:Func×iI} (h:XP f=some e):prog.funcs[f]?=some e.1/\aU prog f/\okF y e.1=true:=(PZ h).2
end
end Go.Gx
end
namespace Go.Gx
open Go Go.Sx
section
variable {P:Program} {gs:Cf} {w0:fO gs} {tb:TB}
theorem Td:uP P w0 (λ_ _ _=>none):=λf b H g a h=>by cases h
theorem LK:Kn P w0 tb (λ_ _ _ _=>none):=λb c d H a h=>by cases h
theorem aeV {C:CH} {G:LH} (y:gQ P tb) (Q:P.follows .mixedOrders=true) (k:∀w0:fO gs,uP P w0 C) (l:Kn P w0 tb G) {f:Nat} {d:Func} {J:V6 GV} {H:GH} {c:SE} (L:P.funcs[f]?=some d) (A:okF tb d=true) (h:YR tb C G d J H=some c) (O:c.e = .ret) {t:fE} {w:V2} {s:V6 V0} (R:g_ w0 t H w) (E:pX t J s):
  Calls P f s.toArray w λe u=>∃v a,e = .returned v/\t.le a/\g_ w0 a c.H u/\Rl a (Zm c.vs) v:=by
 have⟨M,N⟩:=TO A;have⟨i,D,h⟩:=aE.1 (show ob d.body _=some c from h);have⟨K,m,h⟩:=tG h;rw[List.range_eq_range']at m;have r:=Nf m;have S:s.length<=d.ntmps:=by rw[<-E.len,r];exact N
 refine wK L D ?_;have F:mE t d.ntmps K {tmps:=s.toArray++Array.replicate (d.ntmps - s.toArray.size) undef,defers:=[]}:=by
  refine QM Z Q1 E (λj v p=>?_) m;have z:=bH p;rw[Nat.zero_add,zBg (by simpa using z)];simpa using p
 refine Fe y Q k l i _ _ _ ⟨K,H⟩ c t _ w _ (M i D) h F R ⟨λI a B u q b n o=>?_,λid I a B u q b n o=>?_,λI a B u q b n o=>?_⟩
 .have⟨x,v,p,g⟩:=JL (fn:=d) y Z n o q;exact Sx.body_end (.inr Z) n.defers g ⟨v,a,rfl,b,by rw[x];exact o,p⟩
 .have:=CY q;rw[O]at this;cases this
 .have⟨x,v,p,g⟩:=JL (fn:=d) y Z n o q;exact Sx.body_end (.inl Z) n.defers g ⟨v,a,rfl,b,by rw[x];exact o,p⟩
noncomputable def Pu (tb:TB) (f:Nat) (a:Func):CH:=λg b H=>bif Nat.beq g f then PX (YR tb (λ_ _ _=>none) (λ_ _ _ _=>none) a b H)else none
theorem aaP (m:gQ P tb) (p:P.follows .mixedOrders=true) {f:Nat} {c:Func} (k:P.funcs[f]?=some c) (n:aU P f) (i:okF tb c=true):uP P w0 (Pu tb f c):=λg r H x j h t w s R q=>by
 unfold Pu at h;cases b:Nat.beq g f with
 |false=>rw[b]at h;cases h
 |true=>
 rw[b]at h;have b:=zA5 b;subst b;replace h:PX (YR tb (λ_ _ _=>none) (λ_ _ _ _=>none) c r H)=some (x,j):=h;unfold PX at h;have⟨o,l,a⟩:=aE.1 h;cases d:o.e with
 |normal=>rw[d]at a;cases a
 |exit id=>rw[d]at a;cases a
 |ret=>
  rw[d]at a;cases a;exact .inr ⟨n _ w,aeV m p (λ_=>Td) LK k i l d R q⟩
theorem ZF {id:Nat} {o:V5} {l:V6 V5} {Q:Exit->Act->V6 Frame->V2->Prop} {a:Act} {d:V6 Frame} {w:V2} (x:l.all kC=true) (C:o.guard=none) (r:(execOp a.eval o).run P w = .ok .recover w)
  (q:recoverD d=none) (h:Sx.wpList P (o::l).toArray (λe g t=>Q e g d t) l (a.put o.dst .nilIface) w):(Code.region id (o::l).toArray false).wpSIn (FR none) 0 P Q a d w:=by
 intro b k B f u c;have y:(o::l).toArray[0]?=some o:=V8
 obtain⟨e,g,t,E,i⟩:=wp_opsIn (F:=FR none) (n:=0) (Q:=λe g t=>Q e g d t) (ops:=(o::l).toArray) (List.range' 1 l.length) (a.put o.dst .nilIface) w
  (by rw[wpOpsIn_eq_wpListIn l 1 (by intro j;simp[Nat.add_comm 1 j])];exact Sx.wpList_in l _ w x h) b k d f u c
 have H:Region.wanted o (yielded (o::l).toArray a.tmps)=true:=by simp[Region.wanted,C]
 have A:(lone (b.atR a (.inRegion (o::l).toArray (0::List.range' 1 l.length)::k)) d w).fenced P (FR none):=fenced_oper u c y (λ_ _=>trivial);have p:=stepGR_op (P:=P) (b:=b) (k:=k) (cs:=d) (w:=w) (rest:=List.range' 1 l.length) y H;rw[f,Oper.semAt_none]at p;have m:∀v,(b.atR a (.inRegion (o::l).toArray (0::List.range' 1 l.length)::k)).finish v=b.atR (a.put o.dst v) (.inRegion (o::l).toArray (List.range' 1 l.length)::k):=by
  intro v;rw[Frame.finish_atR,y];rfl
 have D:(b.atR a (.inRegion (o::l).toArray (0::List.range' 1 l.length)::k)).kind = .deferred:=B;have s:=tryRecover_deferred D d;have G:List.range (o::l).toArray.size=0::List.range' 1 l.length:=by simp[List.range_eq_range',List.range'_succ]
 have z:=stepR_region (P:=P) (b:=b) (a:=a) (k:=k) (cs:=d) (w:=w) (id:=id) (ops:=(o::l).toArray);rw[G]at z;refine⟨e,g,d,t,rfl,E,.of_steps (.head (fenced_calm u c Z) z (.one A (step_lone_go ?_))) i⟩
 rw[p,<-m];simp only[Frame.atR,f]at s ⊢;simp[stepG.apply,r,s,q]
theorem YJ {ch:CH} {lp:LH} (I:gQ P tb) (hm:P.follows .mixedOrders=true) {f:Nat} {i:Func} {id m d:Nat} {o:V5} {l:V6 V5} {b:Code} {U:Cx} {q:SE} {a:Array V0} {w:V2}
  (c:∀w0:fO noG,uP P w0 ch) (p:Kn P (fO.one w) tb lp) (X:P.funcs[f]?=some i) (V:i.body=some (.seq (.region id (o::l).toArray false) b)) (B:o.guard=none) (W:o.dst=some d) (A:d<i.ntmps)
  (u:∀ρ w,(execOp ρ o).run P w = .ok .recover w) (K:l.all (KP i.ntmps)=true) (hr:Ki tb i.ntmps b=true) (s:i.results = #[]) (aa:a.size<=i.ntmps)
  (h:Il tb ch (o::l) (evC tb ch lp b m U (JK [])) l ⟨[(d,.inil)],H0⟩=some q) (J:q.e = .normal):
  CallsDIn (FR none) 0 P f a .returning w λe u' E=>∃v,e = .returned v/\u' = .returning/\Qx w E:=by
 have D:l.all kC=true:=zA7.2 λo C=>(wT (zA7.1 K o C)).1;refine callsDIn_of_wpSIn X V trivial λk T M=>?_;have r:recoverD (k::T)=none:=by simp[recoverD,M]
 refine wpSIn_seq (ZF D B (u _ _) r ?_);have F:mE (λ_=>none) i.ntmps [(d,.inil)] (({tmps:=a++Array.replicate (i.ntmps - a.size) undef,defers:=[]}:Act).put o.dst .nilIface):=by
  rw[W];refine mE.put ⟨rfl,Q1,λt g B=>(by cases B)⟩ A ?_;exact .inil
 refine Js I (c (fO.one w)) l ⟨[(d,.inil)],H0⟩ _ _ w K F (g_.start (fO.one w) Z) h λs' G S E Y L Q R=>wpSIn_of_wpIn Z<|Fe I hm c p b _ _ _ s' q G S E _ hr Y Q R ⟨λN x H O j n y z=>?_,λid N x H O j n y z=>?_,λN x H O j n y z=>?_⟩
 .refine⟨y.defers,k.mode,rfl,.tuple #[],?_,_,rfl,M,z.ext.ext⟩
  simp[results,s]
 .have:=CY j;rw[J]at this;cases this
 .have:=RA j;rw[J]at this;cases this
theorem MQ {o:V5} {l:V6 V5} {b:Array V5} {Q:Exit->Act->V2->Prop} {a:Act} {w w':V2} {v:V0} (c:o.guard=none) (d:(execOp a.eval o).run P w = .ok (.value v) w') (h:Sx.wpList P b Q l (a.put o.dst v) w'):Sx.wpList P b Q (o::l) a w:=by
 unfold Sx.wpList;rw[if_pos (by simp[Region.wanted,c])];exact .inl (by simp only[Oper.wp,d,Oper.upon];exact h)
theorem UI {o:V5} {l:V6 V5} {b:Array V5} {Q:Exit->Act->V2->Prop} {a:Act} {w w':V2} (c:o.guard=none) (d:(execOp a.eval o).run P w = .ok .skip w') (h:Sx.wpList P b Q l (a.put o.dst undef) w'):Sx.wpList P b Q (o::l) a w:=by
 unfold Sx.wpList;rw[if_pos (by simp[Region.wanted,c])];exact .inl (by simp only[Oper.wp,d,Oper.upon];exact h)
theorem ZG {o:V5} {l:V6 V5} {b:Array V5} {Q:Exit->Act->V2->Prop} {a:Act} {w:V2} {f:Nat} {args:Array V0} {S:V0->V2->Prop} (d:o.guard=none) (g:(execOp a.eval o).run P w = .ok (.enter f args) w)
  (c:Calls P f args w λe w'=>∃v,e = .returned v/\S v w') (h:∀v w',S v w'->Sx.wpList P b Q l (a.put o.dst v) w'):Sx.wpList P b Q (o::l) a w:=by
 unfold Sx.wpList;rw[if_pos (by simp[Region.wanted,d])];refine .inl ?_;simp only[Oper.wp,g,Oper.upon];refine c.mono ?_;rintro e w' ⟨v,rfl,i⟩;exact h v w' i
theorem ahQ (M:gQ P tb) {c cc T1 T2 i0 i1 i2 i3 y0 y1 y2 y3 y4 y5 y6 y7:Nat} {p0 p1 p2 p3 p4 p5 p6 p7:String} {e0 e1 e2 e3 e4 e5 e6 e7:Array Edge} {z:Func} (hf:P.funcs[c]?=some z) (ag:aU P c) (ah:aU P cc)
  (hb:z.body=some (.seq (.region i0 #[⟨some 2,.alloc T1,y0,p0,e0,none⟩,⟨some 3,.alloc T2,y1,p1,e1,none⟩] false)
   (.seq (.region i1 #[⟨some 4,.makeFunc (.func cc) #[] #[.tmp 2,.tmp 3],y2,p2,e2,none⟩,⟨none,.defer ⟨.value (.tmp 4),#[],#[]⟩,y3,p3,e3,none⟩] false)
   (.seq (.region i2 #[⟨some 5,.move (.tmp 0),y4,p4,e4,none⟩,⟨some 6,.call ⟨.value (.tmp 5),#[],#[]⟩,y5,p5,e5,none⟩] false)
   (.seq (.region i3 #[⟨none,.store T1 (.tmp 2) (.const (.int .i64 0)),y6,p6,e6,none⟩,⟨none,.store T2 (.tmp 3) (.const (.int .i64 0)),y7,p7,e7,none⟩] false) .ret)))))
  (hn:z.ntmps=7) (Q:z.results = #[.cell 2 T1,.cell 3 T2])
  (aa:∀H,sL tb T1 H=some (.ptr H.n 0,H.new (.cells [Bj]))) (ab:∀H,sL tb T2 H=some (.ptr H.n 0,H.new (.cells [Bj])))
  (ae:∀H h c,GH.cells H h=some [c]->mB tb T1 (.ptr h 0) Bj H=some (.un,H.set h (.cells [Bj]))) (af:∀H h c,GH.cells H h=some [c]->mB tb T2 (.ptr h 0) Bj H=some (.un,H.set h (.cells [Bj])))
  (ac:∀H h,GH.cells H h=some [Bj]->wE tb T1 (.ptr h 0) H=some Bj) (ad:∀H h,GH.cells H h=some [Bj]->wE tb T2 (.ptr h 0) H=some Bj)
  (N:∀o w,o.size=2->CallsDIn (FR none) 0 P cc o .returning w λe u' l=>∃v,e = .returned v/\u' = .returning/\Qx w l)
  {G:fE} {g:Nat} {k j:V6 V0} {w:V2} {H s:GH} {c1 c2:GV} (R:g_ w0 G H w) (hc:∀i l,G.le i->g_ w0 i ((H.new (.cells [Bj])).new (.cells [Bj])) l->∃x,kW P w0 i g (k++j) l x s) (h1:s.cells H.n=some [c1]) (J:s.cells (H.n+1)=some [c2]):
  kW P w0 G c [.func (.func g) k.toArray j.toArray] w (.tup [Bj,Bj]) ((((s.set H.n (.cells [Bj])).set (H.n+1) (.cells [Bj])).del H.n).del (H.n+1)):=by
 refine .inr ⟨ag _ w,?_⟩;refine Te (r:=none) (n:=0) (callsIn_of_wp_defers hf hb trivial ?_);rw[hn];have⟨b,w1,ap,aj,C,R1,U⟩:=Ll (P:=P) M R (aa H);have⟨d,y,I,ak,p,R2,V⟩:=Ll (P:=P) M R1 (ab _);have⟨x,hx⟩:=hc I y (fE.le_trans C p) R2;refine wpIn_seq (wF Z ?_);refine MQ Z (v:=b) (w':=w1) (by simp[execOp,aj]) ?_;refine MQ Z (v:=d) (w':=y) (by simp[execOp,ak]) ?_;show Code.wpIn (FR none) 0 P _ _ (⟨#[.func (.func g) k.toArray j.toArray,undef,b,d,undef,undef,undef],[]⟩:Act) y;refine wpIn_seq (wpIn_region_lit ?_);refine wpListIn_plain Z λK hK=>⟨λ_ _=>trivial,?_⟩
 have hm:(Oper.semAt (FR none).round (⟨#[.func (.func g) k.toArray j.toArray,undef,b,d,undef,undef,undef],[]⟩:Act).eval ⟨some 4,.makeFunc (.func cc) #[] #[.tmp 2,.tmp 3],y2,p2,e2,none⟩).run P y = .ok (.value (.func (.func cc) #[] #[b,d])) y:=by
  rw[show(FR none).round=none from rfl,Oper.semAt_none];simp[execOp,Instr.makeFunc,Act.eval]
 rw[hm];refine hK _ _ ?_;show wpListIn _ _ _ _ _ _ (⟨#[.func (.func g) k.toArray j.toArray,undef,b,d,.func (.func cc) #[] #[b,d],undef,undef],[]⟩:Act) y;refine wpListIn_plain Z λK hK=>⟨λ_ _=>trivial,?_⟩
 have hm:(Oper.semAt (FR none).round (⟨#[.func (.func g) k.toArray j.toArray,undef,b,d,.func (.func cc) #[] #[b,d],undef,undef],[]⟩:Act).eval ⟨none,.defer ⟨.value (.tmp 4),#[],#[]⟩,y3,p3,e3,none⟩).run P y = .ok (.defer ⟨.fn (.func cc) #[b,d],#[]⟩) y:=by
  rw[show(FR none).round=none from rfl,Oper.semAt_none];simp[execOp,resolve,Act.eval,Deferred.ofValue]
 rw[hm];refine hK _ _ ?_;show Code.wpIn (FR none) 0 P _ _ (⟨#[.func (.func g) k.toArray j.toArray,undef,b,d,.func (.func cc) #[] #[b,d],undef,undef],[⟨.fn (.func cc) #[b,d],#[]⟩]⟩:Act) y;refine wpIn_seq (wF Z ?_);refine MQ Z (v:= .func (.func g) k.toArray j.toArray) (w':=y) (by simp[execOp,Act.eval]) ?_;show Sx.wpList _ _ _ _ (⟨#[.func (.func g) k.toArray j.toArray,undef,b,d,.func (.func cc) #[] #[b,d],.func (.func g) k.toArray j.toArray,undef],[⟨.fn (.func cc) #[b,d],#[]⟩]⟩:Act) y;have go:∀v D m,I.le m->g_ w0 m s D->Code.wpIn (FR none) 0 P (.seq (.region i3 #[⟨none,.store T1 (.tmp 2) (.const (.int .i64 0)),y6,p6,e6,none⟩,⟨none,.store T2 (.tmp 3) (.const (.int .i64 0)),y7,p7,e7,none⟩] false) .ret) (bodyPostDIn (FR none) 0 P z λe l=>∃v i,e = .returned v/\G.le i/\g_ w0 i ((((s.set H.n (.cells [Bj])).set (H.n+1) (.cells [Bj])).del H.n).del (H.n+1)) l/\Rl i (.tup [Bj,Bj]) v) (⟨#[.func (.func g) k.toArray j.toArray,undef,b,d,.func (.func cc) #[] #[b,d],.func (.func g) k.toArray j.toArray,v],[⟨.fn (.func cc) #[b,d],#[]⟩]⟩:Act) D:=by
  intro v D m a L;have hz:∀G,Rl G Bj (.int .i64 0):=λG=>.int _ _;have⟨_,w4,aq,al,q,R4⟩:=Ln (P:=P) (T:=T1) M L ((U.le p).le a) (hz _) (ae _ _ _ h1);have Y:(s.set H.n (.cells [Bj])).cells (H.n+1)=some [c2]:=by
   rw[jT]at J ⊢;rw[uQ,Q0];exact J
  have⟨_,X,W,am,u,R5⟩:=Ln (P:=P) (T:=T2) M R4 ((V.le a).le q) (hz _) (af _ _ _ Y);refine wpIn_seq (wF Z ?_);refine UI Z (w':=w4) (by simp[execOp,Act.eval,al]) ?_;refine UI Z (w':=X) (by simp[execOp,Act.eval,Act.put,am]) ?_;refine wpIn_ret ?_;show LeavesIn (FR none) 0 P z #[.func (.func g) k.toArray j.toArray,undef,b,d,.func (.func cc) #[] #[b,d],.func (.func g) k.toArray j.toArray,v] _ [⟨.fn (.func cc) #[b,d],#[]⟩] .returning X;refine leavesIn_cons (f:=cc) (args:= #[b,d]) V8 (by simp[FR,Fence.wide]) (by simp[invoke,ah _ X]) (λ_ _=>trivial) ?_;refine(N #[b,d] X Z).mono ?_;rintro e u' w6 ⟨x6,rfl,rfl,O⟩;have R6:=R5.ext' O;have F:mE W 7 [(2,.ptr H.n 0),(3,.ptr (H.n+1) 0)] (⟨#[.func (.func g) k.toArray j.toArray,undef,b,d,.func (.func cc) #[] #[b,d],.func (.func g) k.toArray j.toArray,v],[]⟩:Act):=by
   refine⟨rfl,rfl,λt g B=>?_⟩
   rw[De]at B;by_cases J:t=2
   .rw[if_pos J]at B;cases B;rw[J];exact(((U.le p).le a).le q).le u
   .rw[if_neg J,De]at B;by_cases h3:t=3
    .rw[if_pos h3]at B;cases B;rw[h3];exact((V.le a).le q).le u
    .rw[if_neg h3]at B;cases B
  have E:VZ tb ⟨z.results.toList,0,[]⟩ ⟨[(2,.ptr H.n 0),(3,.ptr (H.n+1) 0)],(s.set H.n (.cells [Bj])).set (H.n+1) (.cells [Bj])⟩=some ⟨.ret,[Bj,Bj],(s.set H.n (.cells [Bj])).set (H.n+1) (.cells [Bj])⟩:=by
   rw[Q];have q1:wE tb T1 (.ptr H.n 0) ((s.set H.n (.cells [Bj])).set (H.n+1) (.cells [Bj]))=some Bj:=ac _ _ (by rw[jT,uQ,Q0,uQ,if_pos Z]);have q2:wE tb T2 (.ptr (H.n+1) 0) ((s.set H.n (.cells [Bj])).set (H.n+1) (.cells [Bj]))=some Bj:=ad _ _ (by rw[jT,uQ,if_pos Z]);show ob (ob (wE tb T1 (.ptr H.n 0) _) λv=>ob (ob (wE tb T2 (.ptr (H.n+1) 0) _) λv=>ob (some []) λvs=>some (v::vs)) λvs=>some (v::vs)) _=_;rw[q1,q2];rfl
  have⟨_,v6,ao,an⟩:=JL (fn:=z) (P:=P) M Z F R6 E;exact⟨v6,an,v6,W,rfl,fE.le_trans C (fE.le_trans p (fE.le_trans a (fE.le_trans q u))),(R6.del _).del _,ao⟩
 rcases hx with⟨v,D,m,hr,a,L,_⟩|⟨hr,A⟩
 .refine MQ Z (v:=v) (w':=D) (by simpa [execOp,resolve,Act.eval,Deferred.ofValue,invoke]using hr) ?_;exact go v D m a L
 .refine ZG Z (f:=g) (args:=(k++j).toArray) (S:=λv l=>∃i,I.le i/\g_ w0 i s l) (by simpa [execOp,resolve,Act.eval,Deferred.ofValue,invoke]using hr) (A.mono ?_) λv D ⟨m,a,L⟩=>go v D m a L;rintro e l ⟨v,i,rfl,ai,R',_⟩;exact⟨v,rfl,i,ai,R'⟩
end
noncomputable section
def VB (n c a:Nat):Nat->V1 Nat:=Nat.rec (motive:=λ_=>Nat->V1 Nat) (λ_=>none) (λ_ b i=>Bool.casesOn (motive:=λ_=>V1 Nat) (Nat.beq (Nat.mod (Nat.shiftRight n (Nat.mul 8 i)) 256) c) (b (Nat.succ i)) (some i)) a
def amx (k:IntKind):V4:=match k with
 | .u8=>true
 |_=>false
def abw (b f:Nat) (d:V6 GV):V1 GV:=bif Nat.beq f b then List.casesOn (motive:=λ_=>V1 GV) d none (λa r=>List.casesOn (motive:=λ_=>V1 GV) r none λc r=>List.casesOn (motive:=λ_=>V1 GV) r (ob a.asStr λs=>ob c.asI λp=>ob (asN p.2) λk=>
 bif amx p.1 then(bif Nat.blt k 256 then Option.casesOn (motive:=λ_=>V1 GV) (VB s.1 k s.2 0) (some (.int .i64 (.negSucc 0))) (λi=>some (.int .i64 (.ofNat i)))else none)else none) λ_ _=>none)else none
theorem Xt (x:V6 UInt8) (c:Nat) (m:c<256):∀k i,i+k=x.length->(match VB (mZ x) c k i with|none=>(-1:Int)|some j=>(j:Int))=(if Lib.indexByte (x.drop i) c.toUInt8 = -1 then -1 else Lib.indexByte (x.drop i) c.toUInt8+i)
 |0,i,h=>by
  rw[List.drop_of_length_le V7];simp[VB,Lib.indexByte]
 | k + 1, i, h =>by
  have o:=Xt x c m k (i+1) V7;have g:i<x.length:=V7
  have e:VB (mZ x) c (k+1) i=Bool.casesOn (motive:=λ_=>V1 Nat) (Nat.beq (Nat.mod (Nat.shiftRight (mZ x) (Nat.mul 8 i)) 256) c) (VB (mZ x) c k (i+1)) (some i):=rfl;rw[e,Xn x i g,List.drop_eq_getElem_cons g];have a:(x[i]).toNat=c↔x[i]=c.toUInt8:=by
   rw[<-UInt8.toNat_inj];have:c.toUInt8.toNat=c:=by simp[Nat.toUInt8];omega
   rw[this]
  unfold Lib.indexByte;cases d:Nat.beq (x[i]).toNat c with
  |true=>
   have:=a.1 (zA5 d);simp[this]
  | false =>
   have f:¬x[i]=c.toUInt8:=λl=>by
    have:=a.2 l;rw[this]at d;simp at d
   have n:=Lib.indexByte_ge (x.drop (i+1)) c.toUInt8;simp only[beq_iff_eq,f,if_false];rw[o];by_cases b:Lib.indexByte (x.drop (i+1)) c.toUInt8 = -1
   .simp[b]
   .rw[if_neg b,if_neg b,Q0]
    push_cast;omega
section
variable {P:Program} {gs:Cf} {w0:fO gs}
theorem aeZ {u:Nat} {l:Func} (F:P.funcs[u]?=some l) (e:(l.name == "runtime.NumGoroutine")=false) (D:l.body.isNone=true) (I:Extern.findNext l=none) (E:Extern.find l=some Extern.BytealgIndexByte.indexByte)
  {f:Nat} {i:V6 GV} {g:GV} (h:abw u f i=some g) (q:fE) (w:V2) (o:V6 V0) (H:GH) (R:g_ w0 q H w) (m:pX q i o):kW P w0 q f o w g H:=by
 unfold abw at h;replace h:=bV.1 h;have C:=zA5 h.1;replace h:=h.2;subst C;cases i with
 |nil=>cases h
 |cons a i=>
 cases i with
 |nil=>cases h
 |cons c i=>
 cases i with
 |cons _ _=>cases h
 |nil=>
 have⟨s,L,h⟩:=aE.1 (show ob a.asStr _=some g from h);have⟨p,J,h⟩:=aE.1 h;have⟨k,G,h⟩:=aE.1 h;have⟨x,h⟩:=bV.1 h;have⟨d,h⟩:=bV.1 h;obtain⟨v,o,rfl,y,m⟩:=m.of_cons;obtain⟨N,o,rfl,b,m⟩:=m.of_cons;rw[m.of_nil];rw[rO L]at y;rw[nS J]at b;obtain⟨S,rfl,A,M⟩:=y.str_inv;have b:=b.int_inv;subst b;have t:p.1 = .u8:=by cases K:p.1<;>rw[K]at x<;>first|rfl|cases x
 have r:p.2=(k:Int):=IF G;have d:k<256:=by simpa using d
 refine .inl ⟨.int .i64 (Lib.indexByte S.data.toList p.2.toNat.toUInt8),w,q,?_,fE.le_refl _,R,?_⟩
 .rw[run_callFunc_extern F e D I E,t,Lib.run_indexByteString];rfl
 .have n:=Xt (bT S) k d s.2 0 V7;rw[A]at h;rw[List.drop_zero]at n;have B:Lib.indexByte S.data.toList p.2.toNat.toUInt8=(match VB (mZ (bT S)) k s.2 0 with|none=>(-1:Int)|some j=>(j:Int)):=by
   rw[n,r];have:bT S=S.data.toList:=rfl;rw[this];simp only[zAf];split
   .assumption
   .omega
  rw[B];cases z:VB (mZ (bT S)) k s.2 0 with
  |none=>rw[z]at h;cases h;exact .int _ _
  |some j=>rw[z]at h;cases h;exact .int _ _
end
end
noncomputable section
def ah_ {a:Type} (c:Nat) (d:V6 GV->V1 a) (n:Nat):V6 GV->V1 (V6 a):=Nat.rec (motive:=λ_=>V6 GV->V1 (V6 a)) (λ_=>some []) (λ_ e b=>ob (d (b.take c)) λy=>ob (e (b.drop c)) λf=>some (y::f)) n
def Kt {b:Type} (H:GH) (a:Nat) (d:V6 GV->V1 b) (v:GV):V1 (V6 b):=ob (wL H a v) λp=>bif Nat.ble p.1 1099511627776 then ah_ a d p.1 p.2 else none
def dI (k:IntKind) (a:V6 GV):V1 Int:=List.casesOn (motive:=λ_=>V1 Int) a none λc r=>List.casesOn (motive:=λ_=>V1 Int) r (ob c.asI λp=>bif decide (p.1=k)then some p.2 else none) λ_ _=>none
def dP {b c:Type} (n:Nat) (d:V6 GV->V1 b) (e:V6 GV->V1 c) (a:V6 GV):V1 (b×c):=ob (d (a.take n)) λx=>ob (e (a.drop n)) λy=>some (x,y)
def dS {a:Type} (H:GH) (e:Nat) (d:V6 GV->V1 a) (b:V6 GV):V1 (V6 a):=List.casesOn (motive:=λ_=>V1 (V6 a)) b none λc r=>List.casesOn (motive:=λ_=>V1 (V6 a)) r (Kt H e d c) λ_ _=>none
end
section
variable {P:Program} {gs:Cf} {w0:fO gs} {w:V2} {ρ:fE} {H:GH} {S:Nat->Prop}
def All (_:Nat):Prop:=True
def cG {b c:Type} (S:Nat->Prop) (ρ:fE) (w:V2) (d:V6 GV->V1 c) (r:dX b) (e:b->c):Prop:=∀gs a y,pX ρ gs a->d gs=some y->gs.length=r.sz->∃z,e z=y/\r.R w S a z
theorem cG.int (k:IntKind):cG S ρ w (dI k) (dX.int k) id:=λgs f y b h _=>by
 cases gs with
 |nil=>cases h
 |cons c gs=>
 cases gs with
 |cons _ _=>cases h
 |nil=>
 have⟨p,e,h⟩:=aE.1 (show ob c.asI _=some y from h);have⟨a,h⟩:=bV.1 h;cases h;obtain⟨v,f,rfl,d,b⟩:=b.of_cons;rw[b.of_nil];rw[nS e]at d;rw[d.int_inv];have a:=zB7 a;exact⟨p.2,rfl,by rw[a];rfl⟩
theorem cG.pair {q t b c:Type} {d:V6 GV->V1 b} {e:V6 GV->V1 c} {r:dX q} {s:dX t} {m:q->b} {n:t->c} (u:cG S ρ w d r m) (A:cG S ρ w e s n):cG S ρ w (dP r.sz d e) (dX.pair r s) (λz=>(m z.1,n z.2)):=λgs l y f h p=>by
 have⟨x,B,h⟩:=aE.1 (show ob (d (gs.take r.sz)) _=some y from h);have⟨F,j,h⟩:=aE.1 h;cases h;have p:gs.length=r.sz+s.sz:=p;have E:=f.len;obtain⟨z,rfl,C⟩:=u _ (l.take r.sz) _ (by simpa using f.sub 0 r.sz) B Q1;obtain⟨D,rfl,k⟩:=A _ (l.drop r.sz) _ ⟨Q1,λi g v o a=>by rw[zAu]at o a;exact f.at' _ _ _ o a⟩ j Q1;exact⟨(z,D),rfl,_,_,(zBe r.sz l).symm,C,k⟩
theorem Xk {C D:Type} {d:V6 GV->V1 D} {r:dX C} {E:C->D} (F:cG S ρ w d r E) (b:Nat):∀(n:Nat) (f:V6 GV) (m:V6 V0) (a:Nat) (l:V6 D),ah_ r.sz d n f=some l->pX ρ f m->f.length=n*r.sz->(∀(j:Nat) x,m[j]?=some x->w.cell? ⟨b,a+j,none⟩=some x)->
  ∃p:V6 C,p.map E=l/\p.length=n/\∀(i:Nat) z,p[i]?=some z->∃q,(∀(j:Nat) e,q[j]?=some e->w.cell? ⟨b,a+(i*r.sz+j),none⟩=some e)/\r.R w S q z
 |0,f,m,a,l,h,hr,hl,hc=>by
  cases h;exact⟨[],rfl,rfl,λi z t=>by simp at t⟩
 | n + 1, f, m, a, l, h, hr, hl, hc =>by
  have⟨y,M,h⟩:=aE.1 (show ob (d (f.take r.sz)) (λy=>ob (ah_ r.sz d n (f.drop r.sz)) λl=>some (y::l))=some l from h);have⟨B,s,h⟩:=aE.1 h;cases h;rw[Nat.succ_mul]at hl;have O:=hr.len;obtain⟨z,rfl,t⟩:=F _ (m.take r.sz) _ (by simpa using hr.sub 0 r.sz) M Q1;obtain⟨p,rfl,u,A⟩:=Xk F b n (f.drop r.sz) (m.drop r.sz) (a+r.sz) B s ⟨Q1,λi g v G o=>by rw[zAu]at G o;exact hr.at' _ _ _ G o⟩ Q1 (λj x J=>by
   rw[zAu]at J;rw[Nat.add_assoc];exact hc _ _ J)
  refine⟨z::p,rfl,by simp[u],λi N c=>?_⟩
  cases i with
  | zero =>
   simp at c;subst c;refine⟨_,λj e k=>?_,t⟩
   rw[zAt]at k;by_cases I:j<r.sz
   .rw[if_pos I]at k;have:=hc j e k;simpa using this
   .rw[if_neg I]at k;cases k
  |succ i=>
   simp at c;have⟨q,K,L⟩:=A i N c;refine⟨q,λj e k=>?_,L⟩
   have:=K j e k;rw[Nat.succ_mul];rw[show a+(i*r.sz+r.sz+j)=a+r.sz+(i*r.sz+j) by omega];exact this
theorem Ti (R:g_ w0 ρ H w) {v:GV} {V:V0} {B:Nat} {p:Nat×V6 GV} (t:Rl ρ v V) (h:wL H B v=some p):
  p.2.length=p.1*B/\∃a c,V = .slice a p.1 c/\p.1<=c/\(p.1=0\/∃b i o,a=some ⟨b,i,none⟩/\w0.mine b/\pX ρ p.2 o/\∀(j:Nat) x,o[j]?=some x->w.cell? ⟨b,i+j,none⟩=some x):=by
 have⟨o,C⟩:=Fb R t h;refine⟨by rw[C.rel.len,C.len],?_⟩
 have⟨f,c,y,D,F⟩:=C.val;refine⟨f,c,y,D,?_⟩
 rcases F with⟨_,m,_⟩|⟨A,rfl,d⟩
 .exact .inl m
 .by_cases m:p.1=0
  .exact .inl m
  .refine .inr ?_;unfold wL at h;cases z:v.isSnil with
   |true=>rw[z]at h;cases h;exact absurd Z m
   | false =>
    rw[z]at h;have⟨s,I,h⟩:=aE.1 (show ob v.asS _=some p from h);rw[Eg I,y]at t;have⟨l,u,K,G,e,E,n⟩:=t.sl_inv;injection e with k M N;injection k with k;rcases n with n|⟨n,_⟩
    .omega
    .rw[n]at k;subst k;have r:w0.mine l.b:=by
      have⟨_,h⟩:=bV.1 h;have⟨L,q,_⟩:=aE.1 h;have⟨O,g,r,_⟩:=R.live _ _ (jT.1 q);rw[G]at g;cases g;exact r
     exact⟨l.b,l.off+s.2.1,o,rfl,r,C.rel,λj x J=>by have:=d j x J;rwa[eZ]at this⟩
theorem Ap {m n:Type} {d:V6 GV->V1 n} {r:dX m} {o:m->n} (R:g_ w0 ρ H w) (t:∀k,w0.mine k->S k) (u:cG S ρ w d r o) {v:GV} {V:V0} {j:V6 n} (B:Rl ρ v V) (h:Kt H r.sz d v=some j):∃l:V6 m,l.map o=j/\Gd r w S V l:=by
 have⟨p,z,h⟩:=aE.1 (show ob (wL H r.sz v) _=some j from h);have⟨g,h⟩:=bV.1 h;have g:p.1<=1099511627776:=by simpa using g
 obtain⟨i,a,f,rfl,E,x⟩:=Ti R B z;rcases x with q|⟨b,e,D,rfl,y,A,c⟩
 .rw[q]at h;cases h;exact⟨[],rfl,a,f,by rw[q];rfl,V8,.inl Z⟩
 .obtain⟨l,rfl,s,C⟩:=Xk u b p.1 p.2 D e j h A i c;exact⟨l,rfl,some ⟨b,e,none⟩,f,by rw[s],by rw[s];omega,.inr ⟨b,e,rfl,t b y,C⟩⟩
theorem cG.sl {e f:Type} {d:V6 GV->V1 f} {r:dX e} {b:e->f} (R:g_ w0 ρ H w) (g:∀k,w0.mine k->S k) (i:cG S ρ w d r b):cG S ρ w (dS H r.sz d) (dX.sl r) (λz=>z.2.map b):=λgs vs y a h n=>by
 cases gs with
 |nil=>cases h
 |cons c gs=>
 cases gs with
 |cons _ _=>cases h
 |nil=>
 have h:Kt H r.sz d c=some y:=h;obtain⟨v,vs,rfl,j,a⟩:=a.of_cons;rw[a.of_nil];obtain⟨m,rfl,l⟩:=Ap R g i j h;exact⟨(v,m),rfl,rfl,l⟩
end
noncomputable section
def yU {c:Type} (e:Nat) (g:c->V6 GV) (a:V6 (V6 c)):GH->V6 GV×GH:=List.rec (motive:=λ_=>GH->V6 GV×GH) (λH=>([],H)) (λb _ d H=>let r:=d (H.new (.cells (b.flatMap g)));(.sl H.n 0 b.length e::r.1,r.2)) a
end
section
variable {P:Program} {gs:Cf} {w0:fO gs} {w:V2} {ρ:fE} {H:GH}
def Ig (ρ:fE) (H:GH) (B:Nat->Prop):Prop:=∀h o l,H.get h=some o->ρ h=some l->¬B l.b
theorem Ig.mono {B b:Nat->Prop} (h:Ig ρ H B) (f:∀k,b k->B k):Ig ρ H b:=λa o l c d e=>h a o l c d (f _ e)
theorem Ig.start (R:g_ w0 ρ H w):Ig ρ H (λk=>w.heap.size<=k):=λh o l b c e=>by
 have⟨f,a,_,d⟩:=R.live h o b;rw[c]at a;cases a;have:=d.lt;omega
theorem KI {N:Type} {e:bN N} {d:V6 N} {cs:V6 GV} {v:V0} {B F:Nat->Prop} (R:g_ w0 ρ H w) (A:Ig ρ H B) (U:∀k,B k->w0.mine k) (s:∀k,F k->B k) (V:Cg e w F v d) (E:d≠[]) (t:pX ρ cs (cellsOf e d)):
  ∃f,ρ.le f/\g_ w0 f (H.new (.cells cs)) w/\Rl f (.sl H.n 0 d.length e.sz) v/\Ig f (H.new (.cells cs)) (λk=>B k/\¬F k):=by
 have⟨_,y,W⟩:=V;rcases W with⟨_,S⟩|⟨b,p,r,T,c,rfl,C,I,D,G,a⟩
 .exact absurd S E
 have M:(cellsOf e d).length=d.length*e.sz:=by
  rw[<-a];simp;have:d.length*e.sz<=r*e.sz:=zAv _ D;omega
 have u:ρ.le (ρ.upd H.n ⟨b,p,c.size,.cells c T (0,0),.cells cs⟩):=Bt (R.fresh _ (zAg _));have J:d.length*e.sz<=r*e.sz:=zAv _ D;have⟨_,O⟩:=R.new (o:= .cells cs) (l:=⟨b,p,c.size,.cells c T (0,0),.cells cs⟩) R.ext (λh o' Y j m=>⟨rfl,λQ=>A h o' Y j m (by rw[Q];exact s _ C)⟩) (U _ (s _ C)) ⟨c,T,I,rfl,by
   show p+cs.length<=c.size;have:=t.len;omega,λi g j=>by
   have⟨x,q,X⟩:=t.get j;refine⟨x,?_,X.le u,zA7.1 y x (zA1 q)⟩
   rw[<-a,zAt]at q;by_cases K:i<d.length*e.sz
   .rw[if_pos K,zAu,zAl]at q;exact q
   .rw[if_neg K]at q;cases q⟩ I
 refine⟨_,u,O,.sl (by simp[fE.upd];rfl) D (.inr ⟨rfl,G⟩),λh o l j m L=>?_⟩
 rw[sR]at j;by_cases z:h=H.n
 .rw[z]at m;simp[fE.upd]at m;subst m;exact L.2 C
 .rw[if_neg z]at j;simp only[fE.upd,if_neg z]at m;exact A h o l j m L.1
theorem QZ {b:Type} {e:bN b} {g:b->V6 GV} (c:∀x,pX ρ (g x) (e.enc x)):∀a:V6 b,pX ρ (a.flatMap g) (cellsOf e a)
 | []=>.nil
 |x::a=>(c x).append (QZ c a)
theorem NM {o:Type} {e:bN o} {g:o->V6 GV} (r:∀ρ x,pX ρ (g x) (e.enc x)):∀(a:V6 (V6 o)) (vs:V6 V0) (G:Nat->Nat->Prop) (B:Nat->Prop) (ρ:fE) (H:GH),g_ w0 ρ H w->Ig ρ H B->(∀k,B k->w0.mine k)->vs.length=a.length->
  (∀xs∈a,xs≠[])->(∀i v xs,vs[i]?=some v->a[i]?=some xs->Cg e w (G i) v xs)->(∀i k,G i k->B k)->(∀i j k,G i k->G j k->i=j)->
  ∃c,ρ.le c/\g_ w0 c (yU e.sz g a H).2 w/\pX c (yU e.sz g a H).1 vs/\Ig c (yU e.sz g a H).2 (λk=>B k/\∀i,¬G i k)
 | [],vs,G,B,ρ,H,R,A,hB,hl,_,h1,h2,h3=>by
  have:vs=[]:=zAo hl;subst this;exact⟨ρ,fE.le_refl _,R,.nil,A.mono λk b=>b.1⟩
 |xs::a,[],G,B,ρ,H,R,A,hB,hl,_,h1,h2,h3=>by simp at hl
 |xs::a,v::vs,G,B,ρ,H,R,A,hB,hl,hne,h1,h2,h3=>by
  have⟨p,f,u,F,s⟩:=KI R A hB (h2 0) (h1 0 v xs Z Z) (hne xs V8) (QZ (r ρ) xs);have⟨q,d,z,l,t⟩:=NM r a vs (λi=>G (i+1)) _ p _ u s (λk b=>hB k b.1) (by simpa using hl) (λy I=>hne y (by simp[I])) (λi J n h m=>h1 (i+1) J n (by simpa using h) (by simpa using m)) (λi k b=>⟨h2 _ k b,λC=>by have:=h3 _ _ k b C;omega⟩) (λi j k D E=>by have:=h3 _ _ k D E;omega);refine⟨q,fE.le_trans f d,z,.cons (F.le d) l,t.mono λk b=>⟨⟨b.1,b.2 0⟩,λi=>b.2 (i+1)⟩⟩
theorem PW:∀vs:V6 V0,cellsOf bN.raw vs=vs
 | []=>rfl
 |v::vs=>by show v::cellsOf bN.raw vs=_;rw[PW vs]
end
section
variable {P:Program} {gs:Cf} {w0:fO gs} {w:V2} {ρ:fE} {H:GH}
theorem VA {f:Nat} {a:V6 V0} {L:V6 a_} {V:V0} {g:GV} (c:aU P f) (d:aZ P f a.toArray L (λ_:Unit=>V) (λ_ l=>l) (λ_ l=>l)) (R:g_ w0 ρ H w) (b:∀h∈L,h.p w All) (i:∀ρ,Rl ρ g V):kW P w0 ρ f a w g H:=by
 refine .inr ⟨c _ w,(d w All b).mono ?_⟩;rintro e j ⟨_,rfl,t⟩;exact⟨V,ρ,rfl,fE.le_refl _,R.ext' t.old.ext,i _⟩
theorem Vz {V W:Type} {e:bN V} {g:V->V6 GV} {q:bN W} {s:W->V6 GV} (hg:∀ρ x,pX ρ (g x) (e.enc x)) (I:∀ρ x,pX ρ (s x) (q.enc x)) {f:Nat} {S:V6 V0} {L:V6 a_} {r:V6 V×V6 (V6 W)} (C:r.1≠[]) (D:r.2≠[]) (h3:∀U∈r.2,U≠[]) (hb:aU P f)
  (hm:aZ P f S.toArray L (λx:V0×V0×V6 V0=>Value.agg #[x.1,x.2.1]) (λx l=>Ar e x.1 r.1::Ar bN.raw x.2.1 x.2.2::hJ q x.2.2 r.2::l) (λ_ l=>l)) (R:g_ w0 ρ H w) (hL:∀h∈L,h.p w All):
  kW P w0 ρ f S w (.agg [.sl H.n 0 r.1.length e.sz,.sl (yU q.sz s r.2 (H.new (.cells (r.1.flatMap g)))).2.n 0 r.2.length 1]) ((yU q.sz s r.2 (H.new (.cells (r.1.flatMap g)))).2.new (.cells (yU q.sz s r.2 (H.new (.cells (r.1.flatMap g)))).1)):=by
 refine .inr ⟨hb _ w,(hm w All hL).mono ?_⟩;rintro en A ⟨x,rfl,t⟩;have⟨F,O,_⟩:=t.own;have q0:Cg _ A (F 0) x.1 r.1:=O.res 0 _ Z;have q1:Cg bN.raw A (F 1) x.2.1 x.2.2:=O.res 1 _ Z;obtain⟨z,G,q2,Q,q4⟩:(hJ q x.2.2 r.2).p A (F 2):=O.res 2 _ Z;have R':=R.ext' t.old.ext;have E:∀i k,F i k->w.heap.size<=k:=λi k c=>by
  rcases(O.rng i k c).1 with h|h
  .exact h
  exact h.elim
 have⟨X,y,R1,K,A1⟩:=KI (B:=λk=>w.heap.size<=k) R' (λa o l C D=>Ig.start R a o l C D) (λk c=>.inl (zB6 R.ext.size c)) (E 0) q0 C (QZ (hg ρ) r.1);have⟨ad,j,R2,M,A2⟩:=NM I r.2 x.2.2 G _ X _ R1 A1 (λk c=>.inl (zB6 R.ext.size c.1)) z h3 q2 (λi k c=>⟨E _ _ (Q i k c),λu=>by have:=O.dis _ _ k (Q i k c) u;omega⟩) q4;have J:x.2.2≠[]:=λu=>by rw[u]at z;exact D (zAo z.symm)
 have⟨Y,m,R3,N,_⟩:=KI (cs:=(yU q.sz s r.2 (H.new (.cells (r.1.flatMap g)))).1) (F:=F 1) R2 A2 (λk c=>.inl (zB6 R.ext.size c.1.1)) (λk c=>⟨⟨E _ _ c,λu=>by have:=O.dis _ _ k c u;omega⟩,λi hi=>by have:=O.dis _ _ k c (Q i k hi);omega⟩) q1 J (by rw[PW];exact M);refine⟨_,Y,rfl,fE.le_trans y (fE.le_trans j m),R3,?_⟩
 refine Jc (vs:=[x.1,x.2.1]) (.cons ((K.le j).le m) (.cons (by rw[<-z];exact N) .nil)) λv hv=>?_;have d:∀{γ:Type} {e:bN γ} {F:Nat->Prop} {v:V0} {U:V6 γ},Cg e A F v U->one v=true:=λh=>by
  have⟨_,_,h⟩:=h;rcases h with⟨rfl,_⟩|⟨b,ac,aa,T,ab,rfl,_⟩<;>rfl
 simp at hv;rcases hv with rfl|rfl
 .exact d q0
 exact d q1
end
noncomputable section
def Pv (H:GH) (v:GV):V1 (V6 Int):=Kt H 1 (dI .i64) v
def aaZ (H:GH) (v:GV):V1 (V6 (V6 (Int×Int))):=Kt H 1 (dS H 2 (dP 1 (dI .i64) (dI .i64))) v
def aaY (H:GH) (v:GV):V1 (V6 Int×V6 (V6 (Int×Int))):=ob v.asA λc=>List.casesOn (motive:=λ_=>V1 (V6 Int×V6 (V6 (Int×Int)))) c none λa r=>List.casesOn (motive:=λ_=>V1 (V6 Int×V6 (V6 (Int×Int)))) r none λb r=>List.casesOn (motive:=λ_=>V1 (V6 Int×V6 (V6 (Int×Int)))) r (ob (Pv H a) λx=>ob (aaZ H b) λy=>some (x,y)) λ_ _=>none
end
section
variable {P:Program} {gs:Cf} {w0:fO gs} {w:V2} {ρ:fE} {H:GH}
theorem Jq (R:g_ w0 ρ H w) {v:GV} {V:V0} {a:V6 Int} (b:Rl ρ v V) (h:Pv H v=some a):(Sl (dX.int .i64) V a).p w All:=by
 obtain⟨d,rfl,c⟩:=Ap R (λ_ _=>trivial) (cG.int .i64) b h;rw[List.map_id];exact c
theorem YO (R:g_ w0 ρ H w) {v:GV} {V:V0} {b:V6 (V6 (Int×Int))} (c:Rl ρ v V) (h:aaZ H v=some b):∃a,(S2 (dX.pair (dX.int .i64) (dX.int .i64)) V a b).p w All:=by
 obtain⟨a,rfl,d⟩:=Ap R (λ_ _=>trivial) (cG.sl R (λ_ _=>trivial) (cG.pair (cG.int .i64) (cG.int .i64))) c h;exact⟨a,d,V8⟩
theorem YN (R:g_ w0 ρ H w) {v:GV} {V:V0} {p:V6 Int×V6 (V6 (Int×Int))} (j:Rl ρ v V) (h:aaY H v=some p):∃e f i,V = .agg #[e,f]/\(Sl (dX.int .i64) e p.1).p w All/\(S2 (dX.pair (dX.int .i64) (dX.int .i64)) f i p.2).p w All:=by
 have⟨c,g,h⟩:=aE.1 (show ob v.asA _=some p from h);rw[Ng g]at j;obtain⟨k,rfl,d,_⟩:=j.agg_inv;cases c with
 |nil=>cases h
 |cons a c=>
 cases c with
 |nil=>cases h
 |cons b c=>
 cases c with
 |cons _ _=>cases h
 |nil=>
 have⟨x,n,h⟩:=aE.1 (show ob (Pv H a) _=some p from h);have⟨y,o,h⟩:=aE.1 h;cases h;obtain⟨e,k,rfl,l,d⟩:=d.of_cons;obtain⟨f,k,rfl,m,d⟩:=d.of_cons;rw[d.of_nil];have⟨i,q⟩:=YO R m o;exact⟨e,f,i,rfl,Jq R l n,q⟩
end
end Go.Gx